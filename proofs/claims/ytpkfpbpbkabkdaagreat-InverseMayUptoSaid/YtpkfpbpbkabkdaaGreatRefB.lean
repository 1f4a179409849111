/- What the document's reference computes, written plainly, the second part. -/
import Derived.Test.YtpkfpbpbkabkdaaGreatRefA
set_option linter.unusedVariables false
set_option linter.unusedSimpArgs false
namespace Go.Vs
open Go.Proofs
variable {G:(f:FuncId)→(g:aM)→Option (g.A→Option g.B)}
def zN(x:ID):List ah→Int→Int
 |[],_ => -1
 |v::r,i=>if v.1=x then i else zN x r (i+1)
theorem Kb(x:ID):∀(l:List ah) (i:Int),0≤i→zN x l i = -1∨(i≤zN x l i∧zN x l i<i+l.length)
 |[],i,_=>.inl rfl
 |v::r,i,h=>by
  unfold zN
  split
  ·right;simp;omega
  ·rcases Kb x r (i+1) (by omega) with h|h
   ·exact .inl h
   ·right;simp;omega
theorem abB(hG:G 217 C6=none)(d:aj)(x:ID)(hs:Sm d):FX G 217 C6 ((d,x,()),())=some ((zN x d.1 0,()),()):=by
 have hv:=hs.v
 refine ax (fn:=Tryz.f217) hG (by kernel_rfl) (by kernel_rfl) ((afc _ _ _).trans ?_)
 have loop:∀(n i:Nat),i+n=d.1.length→LX G 217 C6 Tryz.f217 Bw (aN Tryz.prog 217 0) (((i:Int),()),(((d,()),((x,()),())),()))=some ((zN x (d.1.drop i) i,()),()):=by
  intro n
  induction n with
  |zero =>
   intro i hi
   refine ar (j:=0) (by kernel_rfl) ((Qp _ _ _).trans ?_)
   have h1:¬((i:Int)<(d.1.length:Int)):=by omega
   have h2:d.1.drop i=[]:=List.drop_eq_nil_of_le (by omega)
   rw[h2]
   simp only[h1,decide_false];rfl
  |succ n ih =>
   intro i hi
   refine ar (j:=0) (by kernel_rfl) ((Qp _ _ _).trans ?_)
   have aF:i<d.1.length:=by omega
   have h2:d.1.drop i=d.1[i]::d.1.drop (i+1):=List.drop_eq_getElem_cons aF
   have hx:d.1[i]? = some d.1[i]:=List.getElem?_eq_getElem aF
   rw[h2,zN]
   simp only[aZ aF,aB hx,Option.bind_some,jc,aG aF (show d.1.length≤1073741824 by omega)]
   by_cases he:d.1[i].1=x
   ·have d1:=decide_eq_true he
    rw[if_pos he];simp only[d1];rfl
   ·have d1:=decide_eq_false he
    rw[if_neg he];simp only[d1];exact ih (i+1) (by omega)
 exact loop d.1.length 0 (by omega)
def FE(d:aj)(e:ai)(out:List Int):List Int :=
 let a:=zN ((bM d (e.1,0)).getD zI) d.1 0
 let b:=zN ((bM d (e.1,1)).getD zI) d.1 0
 if 0≤a∧0≤b then(out.set a.toNat (min (out.getD a.toNat 0) (out.getD b.toNat 0))).set b.toNat (min (out.getD a.toNat 0) (out.getD b.toNat 0)) else out
def jK(d:aj):List ai→List Int→List Int
 |[],out=>out
 |e::r,out=>jK d r (FE d e out)
def HY(d:aj):Nat→List Int→List Int
 |0,out=>out
 |n+1,out=>HY d n (jK d d.2 out)
def Db(n:Nat):List Int:=(List.range n).map fun i=>((i:Nat):Int)
def labels(d:aj):List Int:=HY d d.1.length (Db d.1.length)
theorem HZ(d:aj)(e:ai)(out:List Int):(FE d e out).length=out.length:=by
 unfold FE;simp only;split<;>simp
theorem vK(d:aj):∀(l:List ai) (out:List Int),(jK d l out).length=out.length
 |[],out=>rfl
 |e::r,out=>by rw[jK,vK d r,HZ]
theorem yF(d:aj):∀(n:Nat) (out:List Int),(HY d n out).length=out.length
 |0,out=>rfl
 |n+1,out=>by rw[HY,yF d n,vK]
theorem Dc(d:aj):(labels d).length=d.1.length:=by unfold labels;rw[yF];simp[Db]
theorem XI(hG:HG G)(d:aj)(hs:Sm d)(n:Int)(R:List Int→List Int)
  (hR:∀out:List Int,out.length=d.1.length→LX G 193 sO Tryz.f193 wW (aN Tryz.prog 193 1) ((IntKind.wrap .i64 (n+1),()),(((d,()),()),(out,())))=some ((R out,()),())) :
  ∀out:List Int,out.length=d.1.length→LX G 193 sO Tryz.f193 rm (aN Tryz.prog 193 2) ((n,((0:Int),())),(((d,()),()),(out,())))=some ((R (jK d d.2 out),()),()):=by
 have hv:=hs.v;have he:=hs.e
 have loop:∀(m i:Nat) (out:List Int),i+m=d.2.length→out.length=d.1.length→LX G 193 sO Tryz.f193 rm (aN Tryz.prog 193 2) ((n,((i:Int),())),(((d,()),()),(out,())))=some ((R (jK d (d.2.drop i) out),()),()):=by
  intro m
  induction m with
  |zero =>
   intro i out hi ho
   have h1:¬((i:Int)<(d.2.length:Int)):=by omega
   have h2:d.2.drop i=[]:=List.drop_eq_nil_of_le (by omega)
   rw[h2,jK]
   refine ar (j:=2) (by kernel_rfl) ((Qs _ _ _).trans ?_)
   simp only[h1,decide_false]
   exact hR out ho
  |succ m ih =>
   intro i out hi ho
   have aF:i<d.2.length:=by omega
   have h2:d.2.drop i=d.2[i]::d.2.drop (i+1):=List.drop_eq_getElem_cons aF
   have hx:d.2[i]? = some d.2[i]:=List.getElem?_eq_getElem aF
   rw[h2,jK]
   generalize d.2[i]=e at *
   refine ar (j:=2) (by kernel_rfl) ((Qs _ _ _).trans ?_)
   simp only[aZ aF,aB hx,Option.bind_some,aG aF (show d.2.length≤1073741824 by omega)]
   refine aa (HW hG d (e.1,0) (by omega) (fun w hw=>by have:=hs.r w hw;omega)) ?_
   refine aa (HW hG d (e.1,1) (by omega) (fun w hw=>by have:=hs.r w hw;omega)) ?_
   rw[show(je zI (bM d (e.1,0))).1=(bM d (e.1,0)).getD zI from ep _ _,show(je zI (bM d (e.1,1))).1=(bM d (e.1,1)).getD zI from ep _ _]
   refine aa (abB (hG _ _ rfl) d ((bM d (e.1,0)).getD zI) hs) ?_
   refine aa (abB (hG _ _ rfl) d ((bM d (e.1,1)).getD zI) hs) ?_
   have hL:FE d e out=(if 0≤zN ((bM d (e.1,0)).getD zI) d.1 0∧0≤zN ((bM d (e.1,1)).getD zI) d.1 0 then(out.set (zN ((bM d (e.1,0)).getD zI) d.1 0).toNat (min (out.getD (zN ((bM d (e.1,0)).getD zI) d.1 0).toNat 0) (out.getD (zN ((bM d (e.1,1)).getD zI) d.1 0).toNat 0))).set (zN ((bM d (e.1,1)).getD zI) d.1 0).toNat (min (out.getD (zN ((bM d (e.1,0)).getD zI) d.1 0).toNat 0) (out.getD (zN ((bM d (e.1,1)).getD zI) d.1 0).toNat 0)) else out):=rfl
   have ha:=Kb ((bM d (e.1,0)).getD zI) d.1 0 (by omega)
   have hb:=Kb ((bM d (e.1,1)).getD zI) d.1 0 (by omega)
   generalize zN ((bM d (e.1,0)).getD zI) d.1 0=a at *
   generalize zN ((bM d (e.1,1)).getD zI) d.1 0=b at *
   by_cases h3:0≤a
   case neg =>
    have d3:decide (a≥0)=false:=decide_eq_false h3
    rw[hL,if_neg (by omega)]
    simp only[d3];exact ih (i+1) out (by omega) ho
   have d3:decide (a≥0)=true:=decide_eq_true h3
   by_cases h4:0≤b
   case neg =>
    have d4:decide (b≥0)=false:=decide_eq_false h4
    rw[hL,if_neg (by omega)]
    simp only[d3,d4];exact ih (i+1) out (by omega) ho
   have d4:decide (b≥0)=true:=decide_eq_true h4
   rw[if_pos ⟨h3,h4⟩]at hL
   have hal:a.toNat<out.length:=by omega
   have hbl:b.toNat<out.length:=by omega
   have xa:out[a.toNat]? = some out[a.toNat]:=List.getElem?_eq_getElem hal
   have xb:out[b.toNat]? = some out[b.toNat]:=List.getElem?_eq_getElem hbl
   have ga:out.getD a.toNat 0=out[a.toNat]:=by simp[List.getD,xa]
   have gb:out.getD b.toNat 0=out[b.toNat]:=by simp[List.getD,xb]
   rw[ga,gb]at hL
   generalize out[a.toNat]=p at *
   generalize out[b.toNat]=q at *
   have d5:decide ((0:Int)≤a)=true:=decide_eq_true h3
   have d6:decide ((0:Int)≤b)=true:=decide_eq_true h4
   have d7:decide (a<((out.length:Nat):Int))=true:=decide_eq_true (by omega)
   have d8:decide (b<((out.length:Nat):Int))=true:=decide_eq_true (by omega)
   have hbs:b.toNat<(out.set a.toNat (min p q)).length:=by simpa using hbl
   have d9:decide (b<(((out.set a.toNat (min p q)).length:Nat):Int))=true:=decide_eq_true (by simp;omega)
   have xs:(out.set a.toNat (min p q))[b.toNat]? = some (out.set a.toNat (min p q))[b.toNat]:=List.getElem?_eq_getElem hbs
   simp only[d3,d4,d5,d6,d7,d8,Bool.and_self,xa,xb,Option.bind_some,d9,xs]
   rw[hL]
   exact ih (i+1) ((out.set a.toNat (min p q)).set b.toNat (min p q)) (by omega) (by simp[ho])
 intro out ho
 exact loop d.2.length 0 out (by omega) ho
theorem agn(hG:HG G)(d:aj)(hs:Sm d):FX G 193 sO ((d,()),())=some ((labels d,()),()):=by
 have hv:=hs.v
 refine ax (fn:=Tryz.f193) (hG _ _ rfl) (by kernel_rfl) (by kernel_rfl) ((afd _ _ _).trans ?_)
 have l1:∀(n i:Nat) (out:List Int),i+n=d.1.length→out.length=d.1.length→LX G 193 sO Tryz.f193 wW (aN Tryz.prog 193 1) (((i:Int),()),(((d,()),()),(out,())))=some ((HY d n out,()),()):=by
  intro n
  induction n with
  |zero =>
   intro i out hi ho
   refine ar (j:=1) (by kernel_rfl) ((Qr _ _ _).trans ?_)
   have h1:¬((i:Int)<(d.1.length:Int)):=by omega
   simp only[h1,decide_false];rfl
  |succ n ih =>
   intro i out hi ho
   refine ar (j:=1) (by kernel_rfl) ((Qr _ _ _).trans ?_)
   have aF:i<d.1.length:=by omega
   simp only[aZ aF]
   exact XI hG d hs (i:Int) (HY d n) (fun out ho=>by rw[aG aF (show d.1.length≤1073741824 by omega)];exact ih (i+1) out (by omega) ho) out ho
 have l0:∀(n i:Nat) (out:List Int),i+n=d.1.length→out=Db i→LX G 193 sO Tryz.f193 Bx (aN Tryz.prog 193 0) (((i:Int),()),(((d,()),()),(out,())))=some ((labels d,()),()):=by
  intro n
  induction n with
  |zero =>
   intro i out hi ho
   refine ar (j:=0) (by kernel_rfl) ((Qq _ _ _).trans ?_)
   have h1:¬((i:Int)<(d.1.length:Int)):=by omega
   have tH:i=d.1.length:=by omega
   subst tH
   simp only[h1,decide_false]
   have:=l1 d.1.length 0 out (by omega) (by rw[ho];simp[Db])
   rw[ho]at this ⊢
   exact this
  |succ n ih =>
   intro i out hi ho
   refine ar (j:=0) (by kernel_rfl) ((Qq _ _ _).trans ?_)
   have aF:i<d.1.length:=by omega
   have h6:aO out.length [(i:Int)].length=true:=fits (by rw[ho];simp[Db];omega)
   simp only[aZ aF,h6,aG aF (show d.1.length≤1073741824 by omega)]
   exact ih (i+1) (out++[(i:Int)]) (by omega) (by rw[ho];simp[Db,List.range_succ])
 exact l0 d.1.length 0 [] (by omega) (by simp[Db])
def pT:List Int→Int→Int→Int
 |[],_,n=>n
 |x::r,i,n=>pT r (i+1) (if x=i then IntKind.wrap .i64 (n+1) else n)
def eY(d:aj):Int:=pT (labels d) 0 0
theorem ago(hG:HG G)(d:aj)(hs:Sm d):FX G 165 Hd ((d,()),())=some ((eY d,()),()):=by
 have hv:=hs.v
 have hl:=Dc d
 refine ax (fn:=Tryz.f165) (hG _ _ rfl) (by kernel_rfl) (by kernel_rfl) ((aeY _ _ _).trans ?_)
 refine aa (agn hG d hs) ?_
 unfold eY
 generalize labels d=l at *
 have loop:∀(m i:Nat) (n:Int),i+m=l.length→LX G 165 Hd Tryz.f165 wT (aN Tryz.prog 165 0) ((n,((i:Int),())),((),(l,())))=some ((pT (l.drop i) i n,()),()):=by
  intro m
  induction m with
  |zero =>
   intro i n hi
   refine ar (j:=0) (by kernel_rfl) ((Qg _ _ _).trans ?_)
   have h1:¬((i:Int)<(l.length:Int)):=by omega
   have h2:l.drop i=[]:=List.drop_eq_nil_of_le (by omega)
   rw[h2]
   simp only[h1,decide_false];rfl
  |succ m ih =>
   intro i n hi
   refine ar (j:=0) (by kernel_rfl) ((Qg _ _ _).trans ?_)
   have aF:i<l.length:=by omega
   have h2:l.drop i=l[i]::l.drop (i+1):=List.drop_eq_getElem_cons aF
   have hx:l[i]? = some l[i]:=List.getElem?_eq_getElem aF
   rw[h2,pT]
   simp only[aZ aF,fg,Bool.and_self,Int.toNat_natCast,hx,Option.bind_some,aG aF (show l.length≤1073741824 by omega)]
   by_cases he:l[i]=(i:Int)
   ·have d1:(l[i]==(i:Int))=true:=by simp[he]
    rw[if_pos he];simp only[d1];exact ih (i+1) _ (by omega)
   ·have d1:(l[i]==(i:Int))=false:=by simp[he]
    rw[if_neg he];simp only[d1];exact ih (i+1) _ (by omega)
 exact loop l.length 0 0 (by omega)
def rv:List ah→Int→Int
 |[],n=>n
 |v::r,n=>rv r (if v.2.1.length=0 then IntKind.wrap .i64 (n+1) else n)
def BU(d:aj):Int:=rv d.1 ((((cV d).length:Nat)):Int)
theorem agp(hG:HG G)(d:aj)(hs:Sm d)(he:d.2.length≤5000000):FX G 136 Fb ((d,()),())=some ((((d.1.length:Nat):Int),(((d.2.length:Nat):Int),(BU d,(eY d,())))),()):=by
 have hv:=hs.v
 refine ax (fn:=Tryz.f136) (hG _ _ rfl) (by kernel_rfl) (by kernel_rfl) ((afG _ _ _).trans ?_)
 refine aa (agm hG d hs he) ?_
 unfold BU
 show LX G 136 Fb Tryz.f136 ue (aN Tryz.prog 136 0) ((lI (cV d),((0:Int),())),(((d,()),()),()))=_
 unfold lI
 generalize (((cV d).length:Nat):Int)=f0
 have key:=cr d.1 (fun i (n:Int)=>LX G 136 Fb Tryz.f136 ue (aN Tryz.prog 136 0) ((n,(i,())),(((d,()),()),()))) (fun(r:List ah) (n:Int)=>((((d.1.length:Nat):Int),(((d.2.length:Nat):Int),(rv r n,(eY d,())))),())) (fun _ _=>True)
  (fun n _=>by
   refine ar (j:=0) (by kernel_rfl) ((QJ _ _ _).trans ?_)
   simp only[eF]
   exact aa (ago hG d hs) rfl)
  (fun i y r n hi hx BT _ ih=>by
   refine ar (j:=0) (by kernel_rfl) ((QJ _ _ _).trans ?_)
   simp only[aZ hi,aB hx,Option.bind_some,aG hi (show d.1.length≤1073741824 by omega)]
   by_cases he:y.2.1.length=0
   ·have d1:((((y.2.1.length:Nat)):Int)==0)=true:=by simp[he]
    simp only[d1,rv,if_pos he];exact ih _ trivial
   ·have d1:((((y.2.1.length:Nat)):Int)==0)=false:=by simp;intro e;rw[e]at he;simp at he
    simp only[d1,rv,if_neg he];exact ih _ trivial)
  f0 trivial
 exact key
def fR(d:aj):Int:=IntKind.wrap .i64 (Int.tdiv (IntKind.wrap .i64 (IntKind.wrap .i64 (IntKind.wrap .i64 (IntKind.wrap .i64 (2*eY d)-((d.1.length:Nat):Int))+((d.2.length:Nat):Int))-BU d)) 2)
theorem XJ(hG:HG G)(d:aj)(hs:Sm d)(he:d.2.length≤5000000):FX G 107 E9 ((d,()),())=some ((fR d,()),()):=by
 refine ax (fn:=Tryz.f107) (hG _ _ rfl) (by kernel_rfl) (by kernel_rfl) ((afk _ _ _).trans ?_)
 exact aa (agp hG d hs he) rfl
end Go.Vs
namespace Go.Vs
open Go.Proofs
variable {G:(f:FuncId)→(g:aM)→Option (g.A→Option g.B)}
theorem Uy{s:ByteArray}{i:Nat}{c:UInt8}(h:s.data.toList[i]? = some c):(if(0:Int)≤(i:Int) then s[Int.toNat (i:Int)]? else none)=some c:=by
 have hi:i<s.size:=by have:=(List.getElem?_eq_some_iff.1 h).1;simpa using this
 rw[if_pos (by omega),Int.toNat_natCast,getElem?_pos s i hi]
 have h2:=(List.getElem?_eq_some_iff.1 h).2
 rw[←h2]
 rfl
def kF(c:UInt8):Bool:=decide (32≤c.toNat)&&decide (c.toNat≤126)
def ll(s:ByteArray):Bool:=s.data.toList.all kF&&decide (s.size≤16)
theorem XK(hG:G 91 wQ=none)(s:ByteArray)(hs:s.size≤100000000):FX G 91 wQ ((s,()),())=some ((ll s,()),()):=by
 refine ax (fn:=Tryz.f91) hG (by kernel_rfl) (by kernel_rfl) ((aeV _ _ _).trans ?_)
 have hl:s.data.toList.length=s.size:=by simp
 have key:=cr s.data.toList (fun i (_:Unit)=>LX G 91 wQ Tryz.f91 Bu (aN Tryz.prog 91 0) ((s,(i,())),((),()))) (fun(r:List UInt8) (_:Unit)=>((r.all kF&&decide (s.size≤16),()),())) (fun _ _=>True)
  (fun _ _=>by
   refine ar (j:=0) (by kernel_rfl) ((Qe _ _ _).trans ?_)
   rw[hl]
   have h2:decide (((s.size:Nat):Int)≤16)=decide (s.size≤16):=by
    rw[Bool.eq_iff_iff];simp;omega
   simp only[eF,h2,List.all_nil,Bool.true_and];rfl)
  (fun i c r _ hi hx BT _ ih=>by
   refine ar (j:=0) (by kernel_rfl) ((Qe _ _ _).trans ?_)
   rw[hl]at hi
   have hb:=Uy hx
   simp only[aZ hi,hb,Option.bind_some,aG hi (show s.size≤1073741824 by omega)]
   by_cases h1:c.toNat<32
   ·have d1:decide (((c.toNat:Nat):Int)<32)=true:=decide_eq_true (by omega)
    have d2:kF c=false:=by unfold kF;simp;omega
    simp only[d1,List.all_cons,d2,Bool.false_and];rfl
   ·have d1:decide (((c.toNat:Nat):Int)<32)=false:=decide_eq_false (by omega)
    by_cases h2:126<c.toNat
    ·have d2:decide (((c.toNat:Nat):Int)>126)=true:=decide_eq_true (by omega)
     have d3:kF c=false:=by unfold kF;simp;omega
     simp only[d1,d2,List.all_cons,d3,Bool.false_and];rfl
    ·have d2:decide (((c.toNat:Nat):Int)>126)=false:=decide_eq_false (by omega)
     have d3:kF c=true:=by unfold kF;simp;omega
     simp only[d1,d2,List.all_cons,d3,Bool.true_and];exact ih () trivial)
  () trivial
 exact key
def jF(n:Int):Bool:=decide (-1099511627776≤n∧n≤1099511627776)
theorem XL(hG:G 90 yU=none)(n:Int):FX G 90 yU ((n,()),())=some ((jF n,()),()):=by
 refine ax (fn:=Tryz.f90) hG (by kernel_rfl) (by kernel_rfl) ((aeW _ _ _).trans ?_)
 show(cond (decide (n≥-1099511627776)) (some ((decide (n≤1099511627776),()),())) (some ((false,()),())):Option ((Bool×Unit)×Unit))=some ((jF n,()),())
 unfold jF
 by_cases h1 : -1099511627776≤n<;>simp[h1]
def nI(c:mF):Bool:=b4 c.1&&(Fx c.2 || decide (c.2=zD))
theorem abC(hG:HG G)(c:mF):FX G 89 Nb ((c,()),())=some ((nI c,()),()):=by
 refine ax (fn:=Tryz.f89) (hG _ _ rfl) (by kernel_rfl) (by kernel_rfl) ((afp _ _ _).trans ?_)
 refine aa (C9 (hG _ _ rfl) c.1) ?_
 refine aa (age hG c.2) ?_
 have hb:(((c.2.1.1==(0:Int))&&(c.2.1.2==(0:Int)))&&(c.2.2==(0:Int)))=decide (c.2=zD):=kD c.2 zD
 unfold nI
 simp only[hb]
 cases h1:b4 c.1<;>cases h2:Fx c.2<;>rfl
def CN:bj:=(0,(zI,(zI,(zI,(zC,(zC,(false,(e0,0))))))))
def jz(o:bj):bj :=
 if o.1=3 then(0,(zI,(o.2.2.1,(o.2.2.2.1,(zC,(zC,(o.2.2.2.2.2.2.1,o.2.2.2.2.2.2.2)))))))
 else if o.1=5 then(0,(zI,(zI,(zI,(o.2.2.2.2.1,(o.2.2.2.2.2.1,(o.2.2.2.2.2.2.1,(o.2.2.2.2.2.2.2.1,0))))))))
 else if o.1=6 then(0,(zI,(o.2.2.1,(zI,(o.2.2.2.2.1,(o.2.2.2.2.2.1,(o.2.2.2.2.2.2.1,o.2.2.2.2.2.2.2)))))))
 else if o.1=7 then(0,(zI,(o.2.2.1,(o.2.2.2.1,(o.2.2.2.2.1,(o.2.2.2.2.2.1,(false,(e0,o.2.2.2.2.2.2.2.2))))))))
 else if o.1=8 then(0,(zI,(o.2.2.1,(o.2.2.2.1,(o.2.2.2.2.1,(o.2.2.2.2.2.1,(false,(o.2.2.2.2.2.2.2.1,0))))))))
 else(0,(zI,(o.2.2.1,(o.2.2.2.1,(o.2.2.2.2.1,(o.2.2.2.2.2.1,(o.2.2.2.2.2.2.1,o.2.2.2.2.2.2.2)))))))
theorem agq(hG:G 88 Na=none)(o:bj):FX G 88 Na ((o,()),())=some ((jz o,()),()):=by
 refine ax (fn:=Tryz.f88) hG (by kernel_rfl) (by kernel_rfl) ((afo _ _ _).trans ?_)
 unfold jz
 by_cases h3:o.1=3
 ·have d:(o.1==(3:Int))=true:=by simp[h3]
  rw[if_pos h3];simp only[d];rfl
 have d3:(o.1==(3:Int))=false:=by simp[h3]
 rw[if_neg h3]
 by_cases h5:o.1=5
 ·have d:(o.1==(5:Int))=true:=by simp[h5]
  rw[if_pos h5];simp only[d3,d];rfl
 have d5:(o.1==(5:Int))=false:=by simp[h5]
 rw[if_neg h5]
 by_cases h6:o.1=6
 ·have d:(o.1==(6:Int))=true:=by simp[h6]
  rw[if_pos h6];simp only[d3,d5,d];rfl
 have d6:(o.1==(6:Int))=false:=by simp[h6]
 rw[if_neg h6]
 by_cases h7:o.1=7
 ·have d:(o.1==(7:Int))=true:=by simp[h7]
  rw[if_pos h7];simp only[d3,d5,d6,d];rfl
 have d7:(o.1==(7:Int))=false:=by simp[h7]
 rw[if_neg h7]
 by_cases h8:o.1=8
 ·have d:(o.1==(8:Int))=true:=by simp[h8]
  rw[if_pos h8];simp only[d3,d5,d6,d7,d];rfl
 have d8:(o.1==(8:Int))=false:=by simp[h8]
 rw[if_neg h8];simp only[d3,d5,d6,d7,d8];rfl
def qw(x y:bj):Bool :=
 (x.1==y.1)&&(((x.2.1.1==y.2.1.1)&&(x.2.1.2==y.2.1.2))&&(((x.2.2.1.1==y.2.2.1.1)&&(x.2.2.1.2==y.2.2.1.2))&&(((x.2.2.2.1.1==y.2.2.2.1.1)&&(x.2.2.2.1.2==y.2.2.2.1.2)) &&
  ((((x.2.2.2.2.1.1.1==y.2.2.2.2.1.1.1)&&(x.2.2.2.2.1.1.2==y.2.2.2.2.1.1.2))&&(((x.2.2.2.2.1.2.1.1==y.2.2.2.2.1.2.1.1)&&(x.2.2.2.2.1.2.1.2==y.2.2.2.2.1.2.1.2))&&(x.2.2.2.2.1.2.2==y.2.2.2.2.1.2.2))) &&
  ((((x.2.2.2.2.2.1.1.1==y.2.2.2.2.2.1.1.1)&&(x.2.2.2.2.2.1.1.2==y.2.2.2.2.2.1.1.2))&&(((x.2.2.2.2.2.1.2.1.1==y.2.2.2.2.2.1.2.1.1)&&(x.2.2.2.2.2.1.2.1.2==y.2.2.2.2.2.1.2.1.2))&&(x.2.2.2.2.2.1.2.2==y.2.2.2.2.2.1.2.2))) &&
  ((x.2.2.2.2.2.2.1==y.2.2.2.2.2.2.1)&&((x.2.2.2.2.2.2.2.1==y.2.2.2.2.2.2.2.1)&&(x.2.2.2.2.2.2.2.2==y.2.2.2.2.2.2.2.2))))))))
theorem jA(x y:bj):qw x y=true↔x=y:=by
 obtain⟨x1,⟨x2,x3⟩,⟨x4,x5⟩,⟨x6,x7⟩,⟨⟨x8,x9⟩,⟨x10,x11⟩,x12⟩,⟨⟨x13,x14⟩,⟨x15,x16⟩,x17⟩,x18,x19,x20⟩:=x
 obtain⟨y1,⟨y2,y3⟩,⟨y4,y5⟩,⟨y6,y7⟩,⟨⟨y8,y9⟩,⟨qi,mG⟩,qj⟩,⟨⟨lf,Fg⟩,⟨uA,Tp⟩,VV⟩,YK,VW,HH⟩:=y
 unfold qw
 simp only[XC]
 simp[and_assoc]
theorem aQ{α:Type}{c b:Bool}{x y r:α}(h:c=b)(k:cond (not b) x y=r):cond (not c) x y=r:=by subst h;exact k
def bC(o:bj):Int :=
 if o.1<1 then 1 else if 8<o.1 then 1 else if b4 o.2.1=false then 1 else if qw (jz o) CN=false then 1
 else if o.1=3 then(if nI o.2.2.2.2.1=true∧nI o.2.2.2.2.2.1=true then 0 else 1)
 else if o.1=5 then(if b4 o.2.2.1=true∧b4 o.2.2.2.1=true∧0≤o.2.2.2.2.2.2.2.2∧o.2.2.2.2.2.2.2.2≤3 then 0 else 1)
 else if o.1=6 then(if b4 o.2.2.2.1=true then 0 else 1)
 else if o.1=8 then(if jF o.2.2.2.2.2.2.2.2=true then 0 else 1)
 else if o.1=7 then(if ll o.2.2.2.2.2.2.2.1=true then 0 else 4)
 else 0
def I1(n:Int):Option ((Int×Unit)×Unit):=some ((n,()),())
theorem abD(hG:HG G)(o:bj)(ht:o.2.2.2.2.2.2.2.1.size≤100000000):FX G 46 M8 ((o,()),())=some ((bC o,()),()):=by
 refine ax (fn:=Tryz.f46) (hG _ _ rfl) (by kernel_rfl) (by kernel_rfl) ((ae3 _ _ _).trans ?_)
 refine aa (C9 (hG _ _ rfl) o.2.1) ?_
 unfold bC
 by_cases h1:o.1<1
 ·rw[if_pos h1];have d:=decide_eq_true h1;simp only[d];rfl
 rw[if_neg h1];have d1:=decide_eq_false h1
 by_cases h2:8<o.1
 ·rw[if_pos h2];have d:decide (o.1>8)=true:=decide_eq_true h2;simp only[d1,d];rfl
 rw[if_neg h2];have d2:decide (o.1>8)=false:=decide_eq_false h2
 cases hm:b4 o.2.1
 ·rw[if_pos rfl];simp only[d1,d2];rfl
 rw[if_neg (by simp)]
 simp only[d1,d2]
 refine aa (agq (hG _ _ rfl) o) ?_
 refine aQ (b:=qw (jz o) CN) rfl ?_
 cases he:qw (jz o) CN
 ·rw[if_pos rfl];rfl
 rw[if_neg (by simp)]
 by_cases h3:o.1=3
 ·rw[if_pos h3]
  have d:(o.1==(3:Int))=true:=by simp[h3]
  simp only[d]
  refine aa (abC hG o.2.2.2.2.1) ?_
  refine aa (abC hG o.2.2.2.2.2.1) ?_
  cases hc:nI o.2.2.2.2.1<;>cases uy:nI o.2.2.2.2.2.1<;>rfl
 rw[if_neg h3]
 have d3:(o.1==(3:Int))=false:=by simp[h3]
 by_cases h5:o.1=5
 ·rw[if_pos h5]
  have d:(o.1==(5:Int))=true:=by simp[h5]
  simp only[d3,d]
  refine aa (C9 (hG _ _ rfl) o.2.2.1) ?_
  refine aa (C9 (hG _ _ rfl) o.2.2.2.1) ?_
  cases hc:b4 o.2.2.1
  ·rw[if_neg (by simp)];rfl
  cases uy:b4 o.2.2.2.1
  ·rw[if_neg (by simp)];rfl
  by_cases h6:o.2.2.2.2.2.2.2.2<0
  ·have d6:=decide_eq_true h6
   rw[if_neg (by omega)];simp only[d6];rfl
  have d6:=decide_eq_false h6
  by_cases h7:o.2.2.2.2.2.2.2.2>3
  ·have d7:=decide_eq_true h7
   rw[if_neg (by omega)];simp only[d6,d7];rfl
  have d7:=decide_eq_false h7
  rw[if_pos ⟨rfl,rfl,by omega,by omega⟩];simp only[d6,d7];rfl
 rw[if_neg h5]
 have d5:(o.1==(5:Int))=false:=by simp[h5]
 by_cases h6:o.1=6
 ·rw[if_pos h6]
  have d:(o.1==(6:Int))=true:=by simp[h6]
  simp only[d3,d5,d]
  refine aa (C9 (hG _ _ rfl) o.2.2.2.1) ?_
  cases hc:b4 o.2.2.2.1<;>rfl
 rw[if_neg h6]
 have d6:(o.1==(6:Int))=false:=by simp[h6]
 by_cases h8:o.1=8
 ·rw[if_pos h8]
  have d:(o.1==(8:Int))=true:=by simp[h8]
  simp only[d3,d5,d6,d]
  refine aa (XL (hG _ _ rfl) o.2.2.2.2.2.2.2.2) ?_
  cases hc:jF o.2.2.2.2.2.2.2.2<;>rfl
 rw[if_neg h8]
 have d8:(o.1==(8:Int))=false:=by simp[h8]
 by_cases h7:o.1=7
 ·rw[if_pos h7]
  have d:(o.1==(7:Int))=true:=by simp[h7]
  simp only[d3,d5,d6,d8,d]
  refine aa (XK (hG _ _ rfl) o.2.2.2.2.2.2.2.1 (by omega)) ?_
  cases hc:ll o.2.2.2.2.2.2.2.1<;>rfl
 rw[if_neg h7]
 have d7:(o.1==(7:Int))=false:=by simp[h7]
 simp only[d3,d5,d6,d8,d7];rfl
def FF(o:bj):Prop:=o.2.2.2.2.2.2.2.1.size≤100000000
def H3:List bj→Int
 |[]=>0
 |o::r=>if bC o≠0 then bC o else H3 r
def vL(l:List bj):Int:=if 1≤l.length∧l.length≤6 then H3 l else 3
end Go.Vs
namespace Go.Vs
open Go.Proofs
variable {G:(f:FuncId)→(g:aM)→Option (g.A→Option g.B)}
theorem af{α:Type}{c:Bool}{x y r:α}(h:c=true)(k:x=r):cond c x y=r:=by subst h;exact k
theorem ag{α:Type}{c:Bool}{x y r:α}(h:c=false)(k:y=r):cond c x y=r:=by subst h;exact k
theorem cW{a b:Bool}(h:a=true)(k:b=true):(a&&b)=true:=by rw[h,k];rfl
def zS:StateT:=(([],[]),[])
abbrev aK(o:bj):ID:=o.2.1
abbrev dM(o:bj):ID:=o.2.2.1
abbrev av(o:bj):ID:=o.2.2.2.1
abbrev oA(o:bj):mF:=o.2.2.2.2.1
abbrev oB(o:bj):mF:=o.2.2.2.2.2.1
abbrev gD(o:bj):Bool:=o.2.2.2.2.2.2.1
abbrev kW(o:bj):ByteArray:=o.2.2.2.2.2.2.2.1
abbrev oN(o:bj):Int:=o.2.2.2.2.2.2.2.2
def jf(o:bj)(w:ah):ah:=if gD o=false∧w.1=aK o then(if o.1=7 then(w.1,(w.2.1,(kW o,w.2.2.2))) else(w.1,(w.2.1,(w.2.2.1,oN o)))) else w
def jZ(o:bj)(w:ai):ai:=if gD o=true∧w.1=aK o then(if o.1=7 then(w.1,(kW o,w.2.2)) else(w.1,(w.2.1,oN o))) else w
def H4(o:bj)(l:List ah):Bool := !(gD o)&&l.any fun w=>decide (w.1=aK o)
def FG(o:bj)(l:List ai):Bool:=gD o&&l.any fun w=>decide (w.1=aK o)
def xg(s:StateT)(o:bj):StateT×(Int×Unit) :=
 if H4 o s.1.1 || FG o s.1.2 then(((s.1.1.map (jf o),s.1.2.map (jZ o)),s.2),(0,())) else(zS,(13,()))
theorem XM(s:StateT)(o:bj)(vs:List ah)(hs:Sm s.1):∀(n i:Nat) (fd:Bool) (out fin:List ai),i+n=s.1.2.length→out=(s.1.2.take i).map (jZ o)++s.1.2.drop i→fin=s.1.2.map (jZ o) →
  LX G 86 A7 Tryz.f86 rl (aN Tryz.prog 86 1) ((fd,((i:Int),())),(((s,()),((o,()),((([]:List ah),(([]:List ai),(([]:List az),()))),((vs,(out,())),())))),())) =
   some ((if(fd || FG o (s.1.2.drop i)) then((((vs,fin),s.2),((0:Int),())):StateT×(Int×Unit)) else(zS,(13,()))),()):=by
 have he:=hs.e
 intro n
 induction n with
 |zero =>
  intro i fd out fin hi ho hf
  refine ar (j:=1) (by kernel_rfl) ((Qo _ _ _).trans ?_)
  have V9:out.length=s.1.2.length:=by rw[ho];simp;omega
  have h1:¬((i:Int)<(out.length:Int)):=by omega
  have h2:out=fin:=by rw[ho,hf,List.take_of_length_le (by omega),List.drop_eq_nil_of_le (by omega),List.append_nil]
  have h3:FG o (s.1.2.drop i)=false:=by rw[List.drop_eq_nil_of_le (by omega)];simp[FG]
  subst h2
  rw[h3]
  simp only[h1,decide_false]
  cases fd<;>rfl
 |succ n ih =>
  intro i fd out fin hi ho hf
  refine ar (j:=1) (by kernel_rfl) ((Qo _ _ _).trans ?_)
  have V9:out.length=s.1.2.length:=by rw[ho];simp;omega
  have aF:i<s.1.2.length:=by omega
  have hx:s.1.2[i]? = some s.1.2[i]:=List.getElem?_eq_getElem aF
  have hg:out[i]? = some s.1.2[i]:=by rw[ho];exact FD _ _ _ _ hx
  have h2:s.1.2.drop i=s.1.2[i]::s.1.2.drop (i+1):=List.drop_eq_getElem_cons aF
  have xh:=aZ (show i<out.length by omega)
  have hw:=aG aF (show s.1.2.length≤1073741824 by omega)
  rw[h2]
  generalize s.1.2[i]=y at *
  have hE:FG o (y::s.1.2.drop (i+1))=((gD o&&decide (y.1=aK o)) || FG o (s.1.2.drop (i+1))):=by
   unfold FG;cases gD o<;>simp
  rw[hE]
  refine af xh ?_
  cases Ro:gD o
  ·have e1:jZ o y=y:=by unfold jZ;rw[if_neg (by simp[Ro])]
   rw[Bool.false_and,Bool.false_or]
   refine ag Ro ?_
   rw[wI,hw]
   exact ih (i+1) fd out fin (by omega) (by rw[ho];exact rr _ _ _ _ hx e1) hf
  ·rw[Bool.true_and]
   refine af Ro ?_
   refine af (cW (fg i) xh) ?_
   refine aa hg ?_
   by_cases hq:y.1=aK o
   ·refine af ((jc y.1 (aK o)).trans (decide_eq_true hq)) ?_
    rw[decide_eq_true hq,Bool.true_or,Bool.or_true,wI,hw]
    by_cases h7:o.1=7
    ·have e1:jZ o y=(y.1,(kW o,y.2.2)):=by unfold jZ;rw[if_pos ⟨Ro,hq⟩,if_pos h7]
     refine af (show(o.1==(7:Int))=true by simp[h7]) ?_
     refine af (cW (fg i) xh) ?_
     refine aa hg ?_
     have:=ih (i+1) true (out.set i (y.1,(kW o,y.2.2))) fin (by omega) (by rw[ho,←vH _ _ _ _ hx,e1]) hf
     rw[Bool.true_or]at this;exact this
    ·have e1:jZ o y=(y.1,(y.2.1,oN o)):=by unfold jZ;rw[if_pos ⟨Ro,hq⟩,if_neg h7]
     refine ag (show(o.1==(7:Int))=false by simp[h7]) ?_
     refine af (cW (fg i) xh) ?_
     refine aa hg ?_
     have:=ih (i+1) true (out.set i (y.1,(y.2.1,oN o))) fin (by omega) (by rw[ho,←vH _ _ _ _ hx,e1]) hf
     rw[Bool.true_or]at this;exact this
   ·have e1:jZ o y=y:=by unfold jZ;rw[if_neg (fun h=>hq h.2)]
    refine ag ((jc y.1 (aK o)).trans (decide_eq_false hq)) ?_
    rw[decide_eq_false hq,Bool.false_or,wI,hw]
    exact ih (i+1) fd out fin (by omega) (by rw[ho];exact rr _ _ _ _ hx e1) hf
theorem XN(s:StateT)(o:bj)(hs:Sm s.1):∀(n i:Nat) (fd:Bool) (out fin:List ah),i+n=s.1.1.length→out=(s.1.1.take i).map (jf o)++s.1.1.drop i→fin=s.1.1.map (jf o) →
  LX G 86 A7 Tryz.f86 rk (aN Tryz.prog 86 0) ((fd,((i:Int),())),(((s,()),((o,()),((([]:List ah),(([]:List ai),(([]:List az),()))),((out,(s.1.2,())),())))),())) =
   some ((if((fd || H4 o (s.1.1.drop i)) || FG o s.1.2) then((((fin,s.1.2.map (jZ o)),s.2),((0:Int),())):StateT×(Int×Unit)) else(zS,(13,()))),()):=by
 have hv:=hs.v
 intro n
 induction n with
 |zero =>
  intro i fd out fin hi ho hf
  refine ar (j:=0) (by kernel_rfl) ((Qn _ _ _).trans ?_)
  have V9:out.length=s.1.1.length:=by rw[ho];simp;omega
  have h1:¬((i:Int)<(out.length:Int)):=by omega
  have h2:out=fin:=by rw[ho,hf,List.take_of_length_le (by omega),List.drop_eq_nil_of_le (by omega),List.append_nil]
  have h3:H4 o (s.1.1.drop i)=false:=by rw[List.drop_eq_nil_of_le (by omega)];simp[H4]
  subst h2
  rw[h3,Bool.or_false]
  simp only[h1,decide_false]
  exact XM s o out hs s.1.2.length 0 fd s.1.2 (s.1.2.map (jZ o)) (by omega) (by simp) rfl
 |succ n ih =>
  intro i fd out fin hi ho hf
  refine ar (j:=0) (by kernel_rfl) ((Qn _ _ _).trans ?_)
  have V9:out.length=s.1.1.length:=by rw[ho];simp;omega
  have aF:i<s.1.1.length:=by omega
  have hx:s.1.1[i]? = some s.1.1[i]:=List.getElem?_eq_getElem aF
  have hg:out[i]? = some s.1.1[i]:=by rw[ho];exact FD _ _ _ _ hx
  have h2:s.1.1.drop i=s.1.1[i]::s.1.1.drop (i+1):=List.drop_eq_getElem_cons aF
  have xh:=aZ (show i<out.length by omega)
  have hw:=aG aF (show s.1.1.length≤1073741824 by omega)
  rw[h2]
  generalize s.1.1[i]=y at *
  have hE:H4 o (y::s.1.1.drop (i+1))=((!(gD o)&&decide (y.1=aK o)) || H4 o (s.1.1.drop (i+1))):=by
   unfold H4;cases gD o<;>simp
  rw[hE]
  refine af xh ?_
  cases Ro:gD o
  ·rw[Bool.not_false,Bool.true_and]
   refine af (show(!(gD o))=true by rw[Ro];rfl) ?_
   refine af (cW (fg i) xh) ?_
   refine aa hg ?_
   by_cases hq:y.1=aK o
   ·refine af ((jc y.1 (aK o)).trans (decide_eq_true hq)) ?_
    rw[decide_eq_true hq,Bool.true_or,Bool.or_true,Bool.true_or,wI,hw]
    by_cases h7:o.1=7
    ·have e1:jf o y=(y.1,(y.2.1,(kW o,y.2.2.2))):=by unfold jf;rw[if_pos ⟨Ro,hq⟩,if_pos h7]
     refine af (show(o.1==(7:Int))=true by simp[h7]) ?_
     refine af (cW (fg i) xh) ?_
     refine aa hg ?_
     have:=ih (i+1) true (out.set i (y.1,(y.2.1,(kW o,y.2.2.2)))) fin (by omega) (by rw[ho,←vH _ _ _ _ hx,e1]) hf
     rw[Bool.true_or,Bool.true_or]at this;exact this
    ·have e1:jf o y=(y.1,(y.2.1,(y.2.2.1,oN o))):=by unfold jf;rw[if_pos ⟨Ro,hq⟩,if_neg h7]
     refine ag (show(o.1==(7:Int))=false by simp[h7]) ?_
     refine af (cW (fg i) xh) ?_
     refine aa hg ?_
     have:=ih (i+1) true (out.set i (y.1,(y.2.1,(y.2.2.1,oN o)))) fin (by omega) (by rw[ho,←vH _ _ _ _ hx,e1]) hf
     rw[Bool.true_or,Bool.true_or]at this;exact this
   ·have e1:jf o y=y:=by unfold jf;rw[if_neg (fun h=>hq h.2)]
    refine ag ((jc y.1 (aK o)).trans (decide_eq_false hq)) ?_
    rw[decide_eq_false hq,Bool.false_or,wI,hw]
    exact ih (i+1) fd out fin (by omega) (by rw[ho];exact rr _ _ _ _ hx e1) hf
  ·have e1:jf o y=y:=by unfold jf;rw[if_neg (by simp[Ro])]
   rw[Bool.not_true,Bool.false_and,Bool.false_or]
   refine ag (show(!(gD o))=false by rw[Ro];rfl) ?_
   rw[wI,hw]
   exact ih (i+1) fd out fin (by omega) (by rw[ho];exact rr _ _ _ _ hx e1) hf
theorem agr(hG:HG G)(s:StateT)(o:bj)(hs:Sm s.1):FX G 86 A7 ((s,o,()),())=some (xg s o,()):=by
 have hv:=hs.v;have he:=hs.e
 refine ax (fn:=Tryz.f86) (hG _ _ rfl) (by kernel_rfl) (by kernel_rfl) ((afa _ _ _).trans ?_)
 refine aa (abp (hG _ _ rfl) s.1 (by omega) (by omega) (fun w hw=>by have:=hs.r w hw;omega)) ?_
 have:=XN (G:=G) s o hs s.1.1.length 0 false s.1.1 (s.1.1.map (jf o)) (by omega) (by simp) rfl
 rw[Bool.false_or]at this
 exact this
end Go.Vs
namespace Go.Vs
open Go.Proofs
variable {G:(f:FuncId)→(g:aM)→Option (g.A→Option g.B)}
structure Bd(n:Nat)(d:aj):Prop where
 v:d.1.length≤n
 e:d.2.length≤n
 r:∀w∈d.1,w.2.1.length≤n
theorem Bd.sm{n:Nat}{d:aj}(h:Bd n d)(hn:n≤50000000):Sm d:=⟨by have:=h.v;omega,by have:=h.e;omega,fun w hw=>by have:=h.r w hw;omega⟩
theorem Bd.mono{n m:Nat}{d:aj}(h:Bd n d)(hm:n≤m):Bd m d:=⟨by have:=h.v;omega,by have:=h.e;omega,fun w hw=>by have:=h.r w hw;omega⟩
theorem gE(v:ah):∀l:List ah,(eI v l).length=l.length+1
 |[]=>rfl
 |w::r=>by unfold eI;split<;>simp[gE v r]
theorem kG(v:ai):∀l:List ai,(dy v l).length=l.length+1
 |[]=>rfl
 |w::r=>by unfold dy;split<;>simp[kG v r]
theorem mn{v w:ah}:∀{l:List ah},w∈eI v l↔w=v∨w∈l
 |[]=>by simp[eI]
 |u::r=>by
  unfold eI
  split
  ·simp
  ·simp only[List.mem_cons,mn (l:=r)]
   exact⟨fun h=>by rcases h with h|h|h<;>simp[h],fun h=>by rcases h with h|h|h<;>simp[h]⟩
theorem oG{v w:ai}:∀{l:List ai},w∈dy v l↔w=v∨w∈l
 |[]=>by simp[dy]
 |u::r=>by
  unfold dy
  split
  ·simp
  ·simp only[List.mem_cons,oG (l:=r)]
   exact⟨fun h=>by rcases h with h|h|h<;>simp[h],fun h=>by rcases h with h|h|h<;>simp[h]⟩
theorem yG(row:List ae)(a d:ae):(mj row a d).length≤row.length+1:=by
 unfold mj
 split
 ·rw[gx];omega
 ·rw[gx];simp;omega
theorem yH(row:List ae)(d:ae):(cC row d).length≤row.length:=by
 unfold cC;rw[gx];exact List.length_filter_le _ _
theorem FH(row:List ae)(a d:ae):(jJ row a d).length=row.length:=by
 unfold jJ;rw[gx];split<;>simp
theorem Bd.aS{n:Nat}{d:aj}(h:Bd n d)(x:ID):(aS d x).length≤n:=by
 unfold Vs.aS
 cases hf:aR d x with
 |none=>simp[zV]
 |some v=>exact h.r v (List.mem_of_find?_eq_some hf)
theorem Bd.cc{n:Nat}{d:aj}(h:Bd n d){x:ID}{l:List ae}(hl:l.length≤n):Bd n (cc d x l):=by
 refine⟨by simp[Vs.cc];exact h.v,h.e,fun w hw=>?_⟩
 obtain⟨u,hu,rfl⟩:=List.mem_map.1 hw
 unfold sw
 split
 ·exact hl
 ·exact h.r u hu
theorem Bd.bQ{n:Nat}{d:aj}(h:Bd n d)(c:mF)(x:ae):Bd (n+1) (bQ d c x) :=
 (h.mono (by omega)).cc (by have:=yG (Vs.aS d c.1) c.2 x;have:=h.aS c.1;omega)
theorem Bd.aH{n:Nat}{d:aj}(h:Bd n d)(a x:ae):Bd n (aH d a x) :=
 h.cc (by rw[FH];exact h.aS _)
theorem Bd.aE{n:Nat}{d:aj}(h:Bd n d)(x:ae):Bd n (aE d x) :=
 h.cc (by have:=yH (Vs.aS d ((bM d x).getD zI)) x;have:=h.aS ((bM d x).getD zI);omega)
theorem Bd.aY{n:Nat}{d:aj}(h:Bd n d)(v e:ID):Bd n (aY d v e) :=
 ⟨Nat.le_trans (List.length_filter_le _ _) h.v,Nat.le_trans (List.length_filter_le _ _) h.e,fun w hw=>h.r w (List.mem_filter.1 hw).1⟩
theorem Bd.eI{n:Nat}{d:aj}(h:Bd n d)(v:ah)(hv:v.2.1.length≤n+1):Bd (n+1) (eI v d.1,d.2) :=
 ⟨by rw[gE];have:=h.v;omega,by have:=h.e;simp only;omega,fun w hw=>by
  rcases mn.1 hw with rfl|hw
  ·exact hv
  ·have:=h.r w hw;omega⟩
theorem Bd.dy{n:Nat}{d:aj}(h:Bd n d)(v:ai):Bd (n+1) (d.1,dy v d.2) :=
 ⟨by have:=h.v;simp only;omega,by rw[kG];have:=h.e;omega,fun w hw=>by have:=h.r w hw;omega⟩
theorem yI(g:az):∀l:List az,(lk g l).length≤l.length+1
 |[]=>by simp[lk]
 |e::r=>by
  unfold lk
  split
  ·have:=List.length_filter_le (fun q:az=>decide (q.1≠g.1)) (e::r)
   simp[nH];simp at this;omega
  ·have:=yI g r
   split<;>simp<;>omega
theorem eZ(l:List az)(g:az):(bN l g).length≤l.length+1:=by
 unfold bN;split
 ·omega
 ·exact yI g l
def gF(s:StateT)(o:bj):aj :=
 bQ (bQ (s.1.1,dy (aK o,(e0,0)) s.1.2) (bh s (oA o)).1 (aK o,0))
  (if(aR s.1 (oB o).1).isSome=true∧(oB o).2=(aK o,0) then oB o else(bh s (oB o)).1) (aK o,1)
def oH(s:StateT)(o:bj):StateT×(Int×Unit) :=
 if(cI s.1 (aK o)).isSome=true then(zS,(12,()))
 else if 40≤s.1.2.length then(zS,(3,()))
 else if(bh s (oA o)).2.1≠0 then(zS,(13,()))
 else if(bh s (oB o)).2.1≠0 then(zS,(13,()))
 else if fR (gF s o)≠0 then(zS,(15,()))
 else((gF s o,s.2),(0,()))
theorem ags(hG:HG G){n:Nat}(s:StateT)(o:bj)(hs:Bd n s.1)(hn:n≤4000000)(hg:s.2.length≤50000000):FX G 82 PY ((s,o,()),())=some (oH s o,()):=by
  have hv:=hs.v;have he:=hs.e
  have Uz:=hs.sm (by omega)
  refine ax (fn:=Tryz.f82) (hG _ _ rfl) (by kernel_rfl) (by kernel_rfl) ((ae6 _ _ _).trans ?_)
  refine aa (Rn (hG _ _ rfl) s.1 (aK o) (by omega)) ?_
  rw[show(je zE (cI s.1 (aK o))).2.1=(cI s.1 (aK o)).isSome from gM _ _]
  unfold oH
  cases h1:(cI s.1 (aK o)).isSome
  case true=>rw[if_pos rfl];rfl
  rw[if_neg (by simp)]
  by_cases h2:40≤s.1.2.length
  · have d:decide (((s.1.2.length:Nat):Int)≥40)=true:=decide_eq_true (by omega)
    rw[if_pos h2];simp only[d];rfl
  have d2:decide (((s.1.2.length:Nat):Int)≥40)=false:=decide_eq_false (by omega)
  rw[if_neg h2];simp only[d2]
  refine aa (abz hG s (oA o) Uz hg) ?_
  refine aa (abz hG s (oB o) Uz hg) ?_
  refine aa (Da (hG _ _ rfl) s.1 (oB o).1 (by omega)) ?_
  rw[show(je zV (aR s.1 (oB o).1)).2.1=(aR s.1 (oB o).1).isSome from gM _ _]
  have b1:=hs.dy (aK o,(e0,0))
  have b2:=b1.bQ (bh s (oA o)).1 (aK o,0)
  have fin:∀(bc:mF),gF s o=bQ (bQ (s.1.1,dy (aK o,(e0,0)) s.1.2) (bh s (oA o)).1 (aK o,0)) bc (aK o,1) →
      (cond ((bh s (oA o)).2.1 != 0) (some (((([],[]),[]),((13:Int),())),()))
       (cond ((bh s (oB o)).2.1 != 0) (some (((([],[]),[]),((13:Int),())),()))
        ((FX G 115 yW ((s.1,((aK o,(e0,(0:Int))),())),())).bind fun(y5:((aj×Unit)×Unit)) =>
        (FX G 116 yX ((y5.1.1,((bh s (oA o)).1,((aK o,(0:Int)),()))),())).bind fun(y6:((aj×Unit)×Unit)) =>
        (FX G 116 yX ((y6.1.1,(bc,((aK o,(1:Int)),()))),())).bind fun(y7:((aj×Unit)×Unit)) =>
        (FX G 107 E9 ((y7.1.1,()),())).bind fun(y8:((Int×Unit)×Unit)) =>
        cond (y8.1.1 != (0:Int))
         (some (((([],[]),[]),((15:Int),())),()))
         (some (((y7.1.1,s.2),((0:Int),())),())))):Option ((StateT×(Int×Unit))×Unit)) =
      some ((if(bh s (oA o)).2.1≠0 then(zS,(13,())) else if(bh s (oB o)).2.1≠0 then(zS,(13,())) else if fR (gF s o)≠0 then(zS,(15,())) else((gF s o,s.2),(0,())):StateT×(Int×Unit)),()):=by
    intro bc hbc
    by_cases h3:(bh s (oA o)).2.1=0
    case neg =>
      have d:((bh s (oA o)).2.1 != 0)=true:=by simp[h3]
      rw[if_pos h3,d];rfl
    rw[if_neg (by simp[h3]),show((bh s (oA o)).2.1 != 0)=false by simp[h3]]
    by_cases h4:(bh s (oB o)).2.1=0
    case neg =>
      have d:((bh s (oB o)).2.1 != 0)=true:=by simp[h4]
      rw[if_pos h4,d];rfl
    rw[if_neg (by simp[h4]),show((bh s (oB o)).2.1 != 0)=false by simp[h4]]
    simp only[cond_false]
    have b3:=b2.bQ bc (aK o,1)
    rw[←hbc]at b3
    refine aa (abr hG s.1 (aK o,(e0,0)) (by omega)) ?_
    refine aa (abu hG _ _ _ (b1.sm (by omega))) ?_
    refine aa ((abu hG (bQ (s.1.1,dy (aK o,(e0,0)) s.1.2) (bh s (oA o)).1 (aK o,0)) bc (aK o,1) (b2.sm (by omega))).trans (congrArg (fun z:aj=>some ((z,()),())) hbc.symm)) ?_
    refine aa (XJ hG (gF s o) (b3.sm (by omega)) (by have:=b3.e;omega)) ?_
    by_cases h5:fR (gF s o)=0
    · rw[if_neg (by simp[h5])]
      have d:(fR (gF s o) != 0)=false:=by simp[h5]
      simp only[d];rfl
    · rw[if_pos h5]
      have d:(fR (gF s o) != 0)=true:=by simp[h5]
      simp only[d];rfl
  have hb:((((oB o).2.1.1==o.2.1.1)&&((oB o).2.1.2==o.2.1.2))&&((oB o).2.2==(0:Int)))=decide ((oB o).2=(aK o,0)):=kD (oB o).2 (aK o,0)
  simp only[hb]
  cases h6:(aR s.1 (oB o).1).isSome
  · exact fin (bh s (oB o)).1 (by unfold gF;rw[if_neg (by simp[h6])])
  · by_cases h7:(oB o).2=(aK o,0)
    · have d:=decide_eq_true h7
      simp only[d]
      exact fin (oB o) (by unfold gF;rw[if_pos ⟨h6,h7⟩])
    · have d:=decide_eq_false h7
      simp only[d]
      exact fin (bh s (oB o)).1 (by unfold gF;rw[if_neg (by simp[h7])])
def Dd(s:StateT)(o:bj):StateT×(Int×Unit) :=
 if(cI s.1 (aK o)).isSome=false then(zS,(13,()))
 else((aY (aE (aE s.1 (aK o,0)) (aK o,1)) zI (aK o),
  bN (bN s.2 ((aK o,0),dp s.1 (aK o,0))) ((aK o,1),dp s.1 (aK o,1))),(0,()))
theorem agt(hG:HG G){n:Nat}(s:StateT)(o:bj)(hs:Bd n s.1)(hn:n≤4000000)(hg:s.2.length≤5000000):FX G 83 PZ ((s,o,()),())=some (Dd s o,()):=by
 have hv:=hs.v;have he:=hs.e
 have Uz:=hs.sm (by omega)
 refine ax (fn:=Tryz.f83) (hG _ _ rfl) (by kernel_rfl) (by kernel_rfl) ((ae7 _ _ _).trans ?_)
 refine aa (Rn (hG _ _ rfl) s.1 (aK o) (by omega)) ?_
 rw[show(je zE (cI s.1 (aK o))).2.1=(cI s.1 (aK o)).isSome from gM _ _]
 unfold Dd
 cases h1:(cI s.1 (aK o)).isSome
 case false=>rw[if_pos rfl];rfl
 rw[if_neg (by simp)]
 have b1:=hs.aE (aK o,0)
 have b2:=b1.aE (aK o,1)
 have l1:=eZ s.2 ((aK o,0),dp s.1 (aK o,0))
 refine aa (abx hG s.1 (aK o,0) Uz) ?_
 refine aa (Ux hG s.2 ((aK o,0),dp s.1 (aK o,0)) (by omega)) ?_
 refine aa (abx hG s.1 (aK o,1) Uz) ?_
 refine aa (Ux hG (bN s.2 ((aK o,0),dp s.1 (aK o,0))) ((aK o,1),dp s.1 (aK o,1)) (by omega)) ?_
 refine aa (abw hG s.1 (aK o,0) Uz) ?_
 refine aa (abw hG (aE s.1 (aK o,0)) (aK o,1) (b1.sm (by omega))) ?_
 exact aa (Uw (hG _ _ rfl) (aE (aE s.1 (aK o,0)) (aK o,1)) zI (aK o) (by have:=b2.v;omega) (by have:=b2.e;omega)) rfl
def Ja(o:bj):ae:=(aK o,IntKind.wrap .i64 (1-Int.tmod (oN o) 2))
def Gb(o:bj):ae:=(av o,IntKind.wrap .i64 (Int.tdiv (oN o) 2))
def Rp(s:StateT)(o:bj):aj :=
 (eI (dM o,(cw [Ja o,Gb o],(e0,0))) (aH s.1 (Ja o) (aq (Gb o))).1,dy (av o,(e0,0)) (aH s.1 (Ja o) (aq (Gb o))).2)
def mo(s:StateT)(o:bj):StateT×(Int×Unit) :=
 if(cI s.1 (aK o)).isSome=false then(zS,(13,()))
 else if(aR s.1 (dM o)).isSome=true then(zS,(12,()))
 else if(cI s.1 (av o)).isSome=true then(zS,(12,()))
 else if 24≤s.1.1.length then(zS,(3,()))
 else if 40≤s.1.2.length then(zS,(3,()))
 else((Rp s o,s.2),(0,()))
theorem agu(hG:HG G){n:Nat}(s:StateT)(o:bj)(hs:Bd n s.1)(hn:n≤4000000):FX G 84 P0 ((s,o,()),())=some (mo s o,()):=by
 have hv:=hs.v;have he:=hs.e
 have Uz:=hs.sm (by omega)
 refine ax (fn:=Tryz.f84) (hG _ _ rfl) (by kernel_rfl) (by kernel_rfl) ((ae8 _ _ _).trans ?_)
 refine aa (Rn (hG _ _ rfl) s.1 (aK o) (by omega)) ?_
 rw[show(je zE (cI s.1 (aK o))).2.1=(cI s.1 (aK o)).isSome from gM _ _]
 unfold mo
 cases h1:(cI s.1 (aK o)).isSome
 case false=>rw[if_pos rfl];rfl
 rw[if_neg (by simp)]
 refine aa (Da (hG _ _ rfl) s.1 (dM o) (by omega)) ?_
 rw[show(je zV (aR s.1 (dM o))).2.1=(aR s.1 (dM o)).isSome from gM _ _]
 refine aa (Rn (hG _ _ rfl) s.1 (av o) (by omega)) ?_
 rw[show(je zE (cI s.1 (av o))).2.1=(cI s.1 (av o)).isSome from gM _ _]
 cases h2:(aR s.1 (dM o)).isSome
 case true=>rw[if_pos rfl];rfl
 rw[if_neg (by simp)]
 cases h3:(cI s.1 (av o)).isSome
 case true=>rw[if_pos rfl];rfl
 rw[if_neg (by simp)]
 by_cases h4:24≤s.1.1.length
 ·have d:decide (((s.1.1.length:Nat):Int)≥24)=true:=decide_eq_true (by omega)
  rw[if_pos h4];simp only[d];rfl
 have d4:decide (((s.1.1.length:Nat):Int)≥24)=false:=decide_eq_false (by omega)
 rw[if_neg h4]
 by_cases h5:40≤s.1.2.length
 ·have d:decide (((s.1.2.length:Nat):Int)≥40)=true:=decide_eq_true (by omega)
  rw[if_pos h5];simp only[d4,d];rfl
 have d5:decide (((s.1.2.length:Nat):Int)≥40)=false:=decide_eq_false (by omega)
 rw[if_neg h5]
 simp only[d4,d5]
 have d6:((2:Int)==0)=false:=rfl
 simp only[d6]
 have b1:=hs.aH (Ja o) (aq (Gb o))
 have b2:=b1.dy (av o,(e0,0))
 refine aa (XD (hG _ _ rfl) (Gb o)) ?_
 refine aa (abv hG s.1 (Ja o) (aq (Gb o)) Uz) ?_
 refine aa (abr hG (aH s.1 (Ja o) (aq (Gb o))) (av o,(e0,0)) (by have:=b1.e;omega)) ?_
 refine aa (FA hG [Ja o,Gb o] (by simp)) ?_
 exact aa (abq hG ((aH s.1 (Ja o) (aq (Gb o))).1,dy (av o,(e0,0)) (aH s.1 (Ja o) (aq (Gb o))).2) (dM o,(cw [Ja o,Gb o],(e0,0))) (Nat.le_trans b1.v (by omega))) rfl
end Go.Vs
namespace Go.Vs
open Go.Proofs
variable {G:(f:FuncId)→(g:aM)→Option (g.A→Option g.B)}
def qx(a b:ae)(i:Int):ae:=if(b.1,i)=aq b then a else zD
def H5(g:List az)(a b:ae):List az:=bN (bN g ((b.1,0),qx a b 0)) ((b.1,1),qx a b 1)
def Kc(s:StateT)(o:bj)(a b:ae):aj:=aY (aH (aY s.1 (aK o) zI) (aq b) a) zI b.1
theorem agv(hG:HG G)(g:List az)(a b:ae)(d:aj)(hg:g.length≤5000000) :
  LX G 85 yV Tryz.f85 mb (aN Tryz.prog 85 0) ((g,((0:Int),())),(((([]:List ah),(([]:List ai),(([]:List az),()))),((a,()),((b,()),((aq b,()),((d,()),()))))),()))=some (((d,H5 g a b),((0:Int),())),()):=by
 have l2:∀g2:List az,LX G 85 yV Tryz.f85 mb (aN Tryz.prog 85 0) ((g2,((2:Int),())),(((([]:List ah),(([]:List ai),(([]:List az),()))),((a,()),((b,()),((aq b,()),((d,()),()))))),()))=some (((d,g2),((0:Int),())),()):=fun g2 =>
  ar (j:=0) (by kernel_rfl) ((Qm _ _ _).trans (ag rfl rfl))
 have step:∀(i:Int) (g1:List az) (r:(StateT×(Int×Unit))×Unit),i<2→g1.length≤5000001→LX G 85 yV Tryz.f85 mb (aN Tryz.prog 85 0) ((bN g1 ((b.1,i),qx a b i),(IntKind.wrap .i64 (i+1),())),(((([]:List ah),(([]:List ai),(([]:List az),()))),((a,()),((b,()),((aq b,()),((d,()),()))))),()))=some r →
   LX G 85 yV Tryz.f85 mb (aN Tryz.prog 85 0) ((g1,(i,())),(((([]:List ah),(([]:List ai),(([]:List az),()))),((a,()),((b,()),((aq b,()),((d,()),()))))),()))=some r:=fun i g1 r hi hg1 h=>by
  refine ar (j:=0) (by kernel_rfl) ((Qm _ _ _).trans ?_)
  refine af (decide_eq_true hi) ?_
  unfold qx at h
  by_cases he:((b.1,i):ae)=aq b
  ·rw[if_pos he]at h
   refine af ((kD (b.1,i) (aq b)).trans (decide_eq_true he)) ?_
   refine aa (Ux hG g1 ((b.1,i),a) (by omega)) ?_
   exact h
  ·rw[if_neg he]at h
   refine ag ((kD (b.1,i) (aq b)).trans (decide_eq_false he)) ?_
   refine aa (Ux hG g1 ((b.1,i),zD) (by omega)) ?_
   exact h
 have a1:=eZ g ((b.1,0),qx a b 0)
 refine step 0 g _ (by omega) (by omega) ?_
 refine step 1 _ _ (by omega) (by omega) ?_
 exact l2 _
def jB(s:StateT)(o:bj)(r0 r1:ae):StateT×(Int×Unit) :=
 if r0.1=r1.1 then(zS,(14,()))
 else if r0.1=av o then((Kc s o r1 r0,H5 s.2 r1 r0),(0,()))
 else if r1.1=av o then((Kc s o r0 r1,H5 s.2 r0 r1),(0,()))
 else(zS,(14,()))
def kf(s:StateT)(o:bj):StateT×(Int×Unit):=match aR s.1 (aK o) with
 |none=>(zS,(13,()))
 |some v=>match v.2.1 with
  |[r0,r1]=>jB s o r0 r1
  |_=>(zS,(14,()))
theorem agw(hG:HG G){n:Nat}(s:StateT)(o:bj)(hs:Bd n s.1)(hn:n≤4000000)(hg:s.2.length≤5000000):FX G 85 yV ((s,o,()),())=some (kf s o,()):=by
  have hv:=hs.v;have he:=hs.e
  have Uz:=hs.sm (by omega)
  refine ax (fn:=Tryz.f85) (hG _ _ rfl) (by kernel_rfl) (by kernel_rfl) ((ae9 _ _ _).trans ?_)
  refine aa (Da (hG _ _ rfl) s.1 (aK o) (by omega)) ?_
  unfold kf
  cases hf:aR s.1 (aK o) with
  |none=>rfl
  |some v =>
    refine ag (show(!true)=false from rfl) ?_
    have two:∀(a b:ae) (r:Option ((StateT×(Int×Unit))×Unit)),r=some (((Kc s o a b,H5 s.2 a b),((0:Int),())),()) →
        ((FX G 121 C4 ((b,()),())).bind fun(y8:((ae×Unit)×Unit)) =>
         (FX G 81 pJ ((s.1,(aK o,(zI,()))),())).bind fun(y9:((aj×Unit)×Unit)) =>
         (FX G 120 Hg ((y9.1.1,(y8.1.1,(a,()))),())).bind fun(qi:((aj×Unit)×Unit)) =>
         (FX G 81 pJ ((qi.1.1,(zI,(b.1,()))),())).bind fun(mG:((aj×Unit)×Unit)) =>
         LX G 85 yV Tryz.f85 mb (aN Tryz.prog 85 0) ((s.2,((0:Int),())),(((([]:List ah),(([]:List ai),(([]:List az),()))),((a,()),((b,()),((y8.1.1,()),((mG.1.1,()),()))))),())))=r:=fun a b r hr=>by
      subst hr
      have b1:=hs.aY (aK o) zI
      have b2:=b1.aH (aq b) a
      refine aa (XD (hG _ _ rfl) b) ?_
      refine aa (Uw (hG _ _ rfl) s.1 (aK o) zI (by omega) (by omega)) ?_
      refine aa (abv hG (aY s.1 (aK o) zI) (aq b) a (b1.sm (by omega))) ?_
      refine aa (Uw (hG _ _ rfl) (aH (aY s.1 (aK o) zI) (aq b) a) zI b.1 (by have:=b2.v;omega) (by have:=b2.e;omega)) ?_
      exact agv hG s.2 a b (Kc s o a b) hg
    obtain⟨vi,ring,vr⟩:=v
    by_cases hl:ring.length=2
    case neg =>
      refine af (show((((ring.length:Nat):Int)) != 2)=true by simp;omega) ?_
      match ring,hl with
      |[],_=>rfl
      |[_],_=>rfl
      |[_,_],h=>exact absurd rfl h
      |_::_::_::_,_=>rfl
    match ring,hl with
    |[r0,r1],_ =>
      refine ag (show((((2:Nat):Int)) != 2)=false from rfl) ?_
      refine aa (show ba [r0,r1] 0=some r0 from rfl) ?_
      refine aa (show ba [r0,r1] 1=some r1 from rfl) ?_
      show _=some (jB s o r0 r1,())
      unfold jB
      by_cases h1:r0.1=r1.1
      · rw[if_pos h1]
        exact af ((jc r0.1 r1.1).trans (decide_eq_true h1)) rfl
      rw[if_neg h1]
      refine ag ((jc r0.1 r1.1).trans (decide_eq_false h1)) ?_
      refine aa (show ba [r0,r1] 0=some r0 from rfl) ?_
      refine aa (show ba [r0,r1] 1=some r1 from rfl) ?_
      by_cases h2:r0.1=av o
      · rw[if_pos h2]
        refine af ((jc r0.1 (av o)).trans (decide_eq_true h2)) ?_
        refine aa (show ba [r0,r1] 1=some r1 from rfl) ?_
        refine aa (show ba [r0,r1] 0=some r0 from rfl) ?_
        refine ag (by rw[show((r0.1.1==(av o).1)&&(r0.1.2==(av o).2))=true from(jc r0.1 (av o)).trans (decide_eq_true h2)];rfl) ?_
        exact two r1 r0 _ rfl
      rw[if_neg h2]
      refine ag ((jc r0.1 (av o)).trans (decide_eq_false h2)) ?_
      by_cases h3:r1.1=av o
      · rw[if_pos h3]
        refine ag (by rw[show((r1.1.1==(av o).1)&&(r1.1.2==(av o).2))=true from(jc r1.1 (av o)).trans (decide_eq_true h3)];rfl) ?_
        exact two r0 r1 _ rfl
      · rw[if_neg h3]
        exact af (by rw[show((r1.1.1==(av o).1)&&(r1.1.2==(av o).2))=false from(jc r1.1 (av o)).trans (decide_eq_false h3)];rfl) rfl
def qk(s:StateT)(o:bj):StateT×(Int×Unit) :=
 if(aR s.1 (aK o)).isSome=true then(zS,(12,())) else if 24≤s.1.1.length then(zS,(3,())) else(((eI (aK o,([],(e0,0))) s.1.1,s.1.2),s.2),(0,()))
def yJ(s:StateT)(o:bj):StateT×(Int×Unit):=match aR s.1 (aK o) with
 |none=>(zS,(13,()))
 |some v=>if 0<v.2.1.length then(zS,(14,())) else((aY s.1 (aK o) zI,s.2),(0,()))
def fS(s:StateT)(o:bj):StateT×(Int×Unit) :=
 if bC o≠0 then(zS,(bC o,()))
 else if o.1=1 then qk s o else if o.1=2 then yJ s o else if o.1=3 then oH s o else if o.1=4 then Dd s o else if o.1=5 then mo s o else if o.1=6 then kf s o else xg s o
theorem agx(hG:HG G){n:Nat}(s:StateT)(o:bj)(hs:Bd n s.1)(hn:n≤4000000)(hg:s.2.length≤5000000)(ht:FF o):FX G 45 PX ((s,o,()),())=some (fS s o,()):=by
 have hv:=hs.v;have he:=hs.e
 refine ax (fn:=Tryz.f45) (hG _ _ rfl) (by kernel_rfl) (by kernel_rfl) ((aeM _ _ _).trans ?_)
 refine aa (abD hG o ht) ?_
 unfold fS
 by_cases h0:bC o=0
 case neg =>
  rw[if_pos h0]
  exact af (show(bC o != 0)=true by simp[h0]) rfl
 rw[if_neg (by simp[h0])]
 refine ag (show(bC o != 0)=false by simp[h0]) ?_
 refine aa (Da (hG _ _ rfl) s.1 (aK o) (by omega)) ?_
 by_cases h1:o.1=1
 ·rw[if_pos h1]
  refine af (show(o.1==(1:Int))=true by simp[h1]) ?_
  rw[show(je zV (aR s.1 (aK o))).2.1=(aR s.1 (aK o)).isSome from gM _ _]
  unfold qk
  cases hf:(aR s.1 (aK o)).isSome
  ·rw[if_neg (by simp)]
   refine ag rfl ?_
   by_cases h4:24≤s.1.1.length
   ·rw[if_pos h4]
    exact af (decide_eq_true (show((s.1.1.length:Nat):Int)≥24 by omega)) rfl
   ·rw[if_neg h4]
    refine ag (decide_eq_false (show ¬((s.1.1.length:Nat):Int)≥24 by omega)) ?_
    exact aa (abq hG s.1 (aK o,([],(e0,0))) (by omega)) rfl
  ·rw[if_pos rfl];rfl
 rw[if_neg h1]
 refine ag (show(o.1==(1:Int))=false by simp[h1]) ?_
 by_cases h2:o.1=2
 ·rw[if_pos h2]
  refine af (show(o.1==(2:Int))=true by simp[h2]) ?_
  unfold yJ
  cases hf:aR s.1 (aK o) with
  |none=>rfl
  |some v =>
   refine ag (show(!true)=false from rfl) ?_
   by_cases h4:0<v.2.1.length
   ·show _=some ((if 0<v.2.1.length then(zS,(14,())) else((aY s.1 (aK o) zI,s.2),(0,())):StateT×(Int×Unit)),())
    rw[if_pos h4]
    exact af (decide_eq_true (show((v.2.1.length:Nat):Int)>0 by omega)) rfl
   ·show _=some ((if 0<v.2.1.length then(zS,(14,())) else((aY s.1 (aK o) zI,s.2),(0,())):StateT×(Int×Unit)),())
    rw[if_neg h4]
    refine ag (decide_eq_false (show ¬((v.2.1.length:Nat):Int)>0 by omega)) ?_
    exact aa (Uw (hG _ _ rfl) s.1 (aK o) zI (by omega) (by omega)) rfl
 rw[if_neg h2]
 refine ag (show(o.1==(2:Int))=false by simp[h2]) ?_
 by_cases h3:o.1=3
 ·rw[if_pos h3]
  refine af (show(o.1==(3:Int))=true by simp[h3]) ?_
  exact aa (ags hG s o hs hn (by omega)) rfl
 rw[if_neg h3]
 refine ag (show(o.1==(3:Int))=false by simp[h3]) ?_
 by_cases h4:o.1=4
 ·rw[if_pos h4]
  refine af (show(o.1==(4:Int))=true by simp[h4]) ?_
  exact aa (agt hG s o hs hn hg) rfl
 rw[if_neg h4]
 refine ag (show(o.1==(4:Int))=false by simp[h4]) ?_
 by_cases h5:o.1=5
 ·rw[if_pos h5]
  refine af (show(o.1==(5:Int))=true by simp[h5]) ?_
  exact aa (agu hG s o hs hn) rfl
 rw[if_neg h5]
 refine ag (show(o.1==(5:Int))=false by simp[h5]) ?_
 by_cases h6:o.1=6
 ·rw[if_pos h6]
  refine af (show(o.1==(6:Int))=true by simp[h6]) ?_
  exact aa (agw hG s o hs hn hg) rfl
 rw[if_neg h6]
 refine ag (show(o.1==(6:Int))=false by simp[h6]) ?_
 exact aa (agr hG s o (hs.sm (by omega))) rfl
structure Bs(n:Nat)(s:StateT):Prop where
 d:Bd n s.1
 g:s.2.length≤n
theorem Bs.mono{n m:Nat}{s:StateT}(h:Bs n s)(hm:n≤m):Bs m s:=⟨h.d.mono hm,by have:=h.g;omega⟩
theorem Bs.zero(n:Nat):Bs n zS:=⟨⟨Nat.zero_le _,Nat.zero_le _,fun w hw=>by simp[zS]at hw⟩,Nat.zero_le _⟩
theorem Bs.one{n:Nat}{s:StateT}(h:Bs n s)(o:bj):Bs (n+3) (fS s o).1:=by
 have h1:=h.d;have h2:=h.g
 unfold fS
 split
 ·exact Bs.zero _
 split
 ·unfold qk;split
  ·exact Bs.zero _
  split
  ·exact Bs.zero _
  ·exact⟨(h1.eI _ (by simp)).mono (by omega),by simp only;omega⟩
 split
 ·unfold yJ
  cases aR s.1 (aK o) with
  |none=>exact Bs.zero _
  |some v =>
   simp only
   split
   ·exact Bs.zero _
   ·exact⟨(h1.aY _ _).mono (by omega),by simp only;omega⟩
 split
 ·unfold oH
  split;· exact Bs.zero _
  split;· exact Bs.zero _
  split;· exact Bs.zero _
  split;· exact Bs.zero _
  split;· exact Bs.zero _
  exact⟨by unfold gF;exact((h1.dy _).bQ _ _).bQ _ _,by simp only;omega⟩
 split
 ·unfold Dd
  split;· exact Bs.zero _
  refine⟨(((h1.aE _).aE _).aY _ _).mono (by omega),?_⟩
  have a1:=eZ s.2 ((aK o,0),dp s.1 (aK o,0))
  have a2:=eZ (bN s.2 ((aK o,0),dp s.1 (aK o,0))) ((aK o,1),dp s.1 (aK o,1))
  simp only;omega
 split
 ·unfold mo
  split;· exact Bs.zero _
  split;· exact Bs.zero _
  split;· exact Bs.zero _
  split;· exact Bs.zero _
  split;· exact Bs.zero _
  refine⟨?_,by simp only;omega⟩
  have b2:=((h1.aH (Ja o) (aq (Gb o))).dy (av o,(e0,0)))
  exact(b2.eI (dM o,(cw [Ja o,Gb o],(e0,0))) (by simp[gx])).mono (by omega)
 split
 ·unfold kf
  have key:∀a b:ae,Bs (n+3) (Kc s o a b,H5 s.2 a b):=fun a b=>by
   refine⟨(((h1.aY _ _).aH _ _).aY _ _).mono (by omega),?_⟩
   have a1:=eZ s.2 ((b.1,0),qx a b 0)
   have a2:=eZ (bN s.2 ((b.1,0),qx a b 0)) ((b.1,1),qx a b 1)
   simp only[H5];omega
  split
  ·exact Bs.zero _
  ·split
   ·unfold jB
    split;· exact Bs.zero _
    split;· exact key _ _
    split;· exact key _ _
    exact Bs.zero _
   ·exact Bs.zero _
 ·unfold xg
  split
  ·refine⟨⟨by simp;have:=h1.v;omega,by simp;have:=h1.e;omega,fun w hw=>?_⟩,by simp only;omega⟩
   obtain⟨u,hu,rfl⟩:=List.mem_map.1 hw
   have hr:=h1.r u hu
   have e:(jf o u).2.1=u.2.1:=by unfold jf;split<;>(try split)<;>rfl
   rw[e];omega
  ·exact Bs.zero _
def LH:List bj→StateT→StateT×(Int×Unit)
 |[],s=>(s,(0,()))
 |o::r,s=>if(fS s o).2.1≠0 then(zS,(fS s o).2) else LH r (fS s o).1
def fT(s:StateT)(l:List bj):StateT×(Int×Unit):=if vL l≠0 then(zS,(vL l,())) else LH l s
theorem Bs.go{l:List bj}:∀{n:Nat} {s:StateT},Bs n s→Bs (n+3*l.length) (LH l s).1:=by
 induction l with
 |nil=>intro n s h;exact h.mono (by simp)
 |cons o r ih =>
  intro n s h
  unfold LH
  split
  ·exact Bs.zero _
  ·exact(ih (h.one o)).mono (by simp;omega)
def mI(s:StateT)(l:List bj):StateT:=if(fT s l).2.1≠0 then s else(fT s l).1
theorem Bs.try{n:Nat}{s:StateT}{l:List bj}(h:Bs n s):Bs (n+3*l.length) (mI s l):=by
 unfold mI
 split
 ·exact h.mono (by omega)
 ·unfold fT
  split
  ·exact Bs.zero _
  ·exact h.go
def mq:Nat→List (List bj)→StateT→StateT
 |0,_,s=>s
 |_+1,[],s=>s
 |n+1,l::r,s=>mq n r (mI s (l.take 8))
def BV(l:List (List bj)):StateT:=mq 30 l zS
theorem Bs.reach:∀(m:Nat) (l:List (List bj)) {n:Nat} {s:StateT},Bs n s→Bs (n+24*m) (mq m l s)
 |0,_,n,s,h=>by simpa[mq] using h
 |m+1,[],n,s,h=>h.mono (by omega)
 |m+1,l::r,n,s,h=>by
  rw[mq]
  have h1:Bs (n+3*(l.take 8).length) (mI s (l.take 8)):=h.try
  have hl:(l.take 8).length≤8:=by simp;omega
  exact(Bs.reach m r (h1.mono (show n+3*(l.take 8).length≤n+24 by omega))).mono (by omega)
theorem Bs.LI(l:List (List bj)):Bs 720 (BV l):=(Bs.reach 30 l (Bs.zero 0)).mono (by omega)
end Go.Vs
