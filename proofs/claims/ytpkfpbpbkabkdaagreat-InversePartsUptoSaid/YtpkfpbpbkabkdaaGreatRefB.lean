/- What the document's reference computes, written plainly, the second part. -/
import Derived.Test.YtpkfpbpbkabkdaaGreatRefA
set_option linter.unusedVariables false
set_option linter.unusedSimpArgs false
namespace Go.Vs
open Go.Proofs
variable {G:(f:FuncId)→(g:aN)→Option (g.A→Option g.B)}
def zU(x:ID):List ah→Int→Int
 |[],_ => -1
 |v::r,i=>if v.1=x then i else zU x r (i+1)
theorem Kt(x:ID):∀(l:List ah) (i:Int),0≤i→zU x l i = -1∨(i≤zU x l i∧zU x l i<i+l.length)
 |[],i,_=>.inl rfl
 |v::r,i,h=>by
  unfold zU
  split
  ·right;simp;omega
  ·rcases Kt x r (i+1) (by omega) with h|h
   ·exact .inl h
   ·right;simp;omega
theorem abY(hG:G 217 De=none)(d:aj)(x:ID)(hs:Sm d):FX G 217 De ((d,x,()),())=some ((zU x d.1 0,()),()):=by
 have hv:=hs.v
 refine aw (fn:=Tryz.f217) hG (by kernel_rfl) (by kernel_rfl) ((afE _ _ _).trans ?_)
 have loop:∀(n i:Nat),i+n=d.1.length→LX G 217 De Tryz.f217 BH (aM Tryz.prog 217 0) (((i:Int),()),(((d,()),((x,()),())),()))=some ((zU x (d.1.drop i) i,()),()):=by
  intro n
  induction n with
  |zero =>
   intro i hi
   refine ao (j:=0) (by kernel_rfl) ((QK _ _ _).trans ?_)
   have h1:¬((i:Int)<(d.1.length:Int)):=by omega
   have h2:d.1.drop i=[]:=List.drop_eq_nil_of_le (by omega)
   rw[h2]
   simp only[h1,decide_false];rfl
  |succ n ih =>
   intro i hi
   refine ao (j:=0) (by kernel_rfl) ((QK _ _ _).trans ?_)
   have aF:i<d.1.length:=by omega
   have h2:d.1.drop i=d.1[i]::d.1.drop (i+1):=List.drop_eq_getElem_cons aF
   have hx:d.1[i]? = some d.1[i]:=List.getElem?_eq_getElem aF
   rw[h2,zU]
   simp only[aX aF,ax hx,Option.bind_some,jc,aE aF (show d.1.length≤1073741824 by omega)]
   by_cases he:d.1[i].1=x
   ·have d1:=decide_eq_true he
    rw[if_pos he];simp only[d1];rfl
   ·have d1:=decide_eq_false he
    rw[if_neg he];simp only[d1];exact ih (i+1) (by omega)
 exact loop d.1.length 0 (by omega)
def FM(d:aj)(e:ai)(out:List Int):List Int :=
 let a:=zU ((bM d (e.1,0)).getD zI) d.1 0
 let b:=zU ((bM d (e.1,1)).getD zI) d.1 0
 if 0≤a∧0≤b then(out.set a.toNat (min (out.getD a.toNat 0) (out.getD b.toNat 0))).set b.toNat (min (out.getD a.toNat 0) (out.getD b.toNat 0)) else out
def jG(d:aj):List ai→List Int→List Int
 |[],out=>out
 |e::r,out=>jG d r (FM d e out)
def Ig(d:aj):Nat→List Int→List Int
 |0,out=>out
 |n+1,out=>Ig d n (jG d d.2 out)
def Dk(n:Nat):List Int:=(List.range n).map fun i=>((i:Nat):Int)
def labels(d:aj):List Int:=Ig d d.1.length (Dk d.1.length)
theorem Ih(d:aj)(e:ai)(out:List Int):(FM d e out).length=out.length:=by
 unfold FM;simp only;split<;>simp
theorem vL(d:aj):∀(l:List ai) (out:List Int),(jG d l out).length=out.length
 |[],out=>rfl
 |e::r,out=>by rw[jG,vL d r,Ih]
theorem yJ(d:aj):∀(n:Nat) (out:List Int),(Ig d n out).length=out.length
 |0,out=>rfl
 |n+1,out=>by rw[Ig,yJ d n,vL]
theorem Dl(d:aj):(labels d).length=d.1.length:=by unfold labels;rw[yJ];simp[Dk]
theorem XW(hG:HG G)(d:aj)(hs:Sm d)(n:Int)(R:List Int→List Int)
  (hR:∀out:List Int,out.length=d.1.length→LX G 193 sM Tryz.f193 wX (aM Tryz.prog 193 1) ((IntKind.wrap .i64 (n+1),()),(((d,()),()),(out,())))=some ((R out,()),())) :
  ∀out:List Int,out.length=d.1.length→LX G 193 sM Tryz.f193 rl (aM Tryz.prog 193 2) ((n,((0:Int),())),(((d,()),()),(out,())))=some ((R (jG d d.2 out),()),()):=by
 have hv:=hs.v;have he:=hs.e
 have loop:∀(m i:Nat) (out:List Int),i+m=d.2.length→out.length=d.1.length→LX G 193 sM Tryz.f193 rl (aM Tryz.prog 193 2) ((n,((i:Int),())),(((d,()),()),(out,())))=some ((R (jG d (d.2.drop i) out),()),()):=by
  intro m
  induction m with
  |zero =>
   intro i out hi ho
   have h1:¬((i:Int)<(d.2.length:Int)):=by omega
   have h2:d.2.drop i=[]:=List.drop_eq_nil_of_le (by omega)
   rw[h2,jG]
   refine ao (j:=2) (by kernel_rfl) ((QN _ _ _).trans ?_)
   simp only[h1,decide_false]
   exact hR out ho
  |succ m ih =>
   intro i out hi ho
   have aF:i<d.2.length:=by omega
   have h2:d.2.drop i=d.2[i]::d.2.drop (i+1):=List.drop_eq_getElem_cons aF
   have hx:d.2[i]? = some d.2[i]:=List.getElem?_eq_getElem aF
   rw[h2,jG]
   generalize d.2[i]=e at *
   refine ao (j:=2) (by kernel_rfl) ((QN _ _ _).trans ?_)
   simp only[aX aF,ax hx,Option.bind_some,aE aF (show d.2.length≤1073741824 by omega)]
   refine aa (Ic hG d (e.1,0) (by omega) (fun w hw=>by have:=hs.r w hw;omega)) ?_
   refine aa (Ic hG d (e.1,1) (by omega) (fun w hw=>by have:=hs.r w hw;omega)) ?_
   rw[show(je zI (bM d (e.1,0))).1=(bM d (e.1,0)).getD zI from ep _ _,show(je zI (bM d (e.1,1))).1=(bM d (e.1,1)).getD zI from ep _ _]
   refine aa (abY (hG _ _ rfl) d ((bM d (e.1,0)).getD zI) hs) ?_
   refine aa (abY (hG _ _ rfl) d ((bM d (e.1,1)).getD zI) hs) ?_
   have hL:FM d e out=(if 0≤zU ((bM d (e.1,0)).getD zI) d.1 0∧0≤zU ((bM d (e.1,1)).getD zI) d.1 0 then(out.set (zU ((bM d (e.1,0)).getD zI) d.1 0).toNat (min (out.getD (zU ((bM d (e.1,0)).getD zI) d.1 0).toNat 0) (out.getD (zU ((bM d (e.1,1)).getD zI) d.1 0).toNat 0))).set (zU ((bM d (e.1,1)).getD zI) d.1 0).toNat (min (out.getD (zU ((bM d (e.1,0)).getD zI) d.1 0).toNat 0) (out.getD (zU ((bM d (e.1,1)).getD zI) d.1 0).toNat 0)) else out):=rfl
   have ha:=Kt ((bM d (e.1,0)).getD zI) d.1 0 (by omega)
   have hb:=Kt ((bM d (e.1,1)).getD zI) d.1 0 (by omega)
   generalize zU ((bM d (e.1,0)).getD zI) d.1 0=a at *
   generalize zU ((bM d (e.1,1)).getD zI) d.1 0=b at *
   by_cases h3:0≤a
   case neg =>
    have d3:decide (a≥0)=false:=decide_eq_false h3
    rw[hL,if_neg (by omega)]
    simp only[d3];exact ih (i+1) out (by omega) ho
   have d3:decide (a≥0)=true:=decide_eq_true h3
   by_cases h4:0≤b
   case neg =>
    have d4:decide (b≥0)=false:=decide_eq_false h4
    rw[hL,if_neg (by omega)]
    simp only[d3,d4];exact ih (i+1) out (by omega) ho
   have d4:decide (b≥0)=true:=decide_eq_true h4
   rw[if_pos ⟨h3,h4⟩]at hL
   have hal:a.toNat<out.length:=by omega
   have hbl:b.toNat<out.length:=by omega
   have xa:out[a.toNat]? = some out[a.toNat]:=List.getElem?_eq_getElem hal
   have xb:out[b.toNat]? = some out[b.toNat]:=List.getElem?_eq_getElem hbl
   have ga:out.getD a.toNat 0=out[a.toNat]:=by simp[List.getD,xa]
   have gb:out.getD b.toNat 0=out[b.toNat]:=by simp[List.getD,xb]
   rw[ga,gb]at hL
   generalize out[a.toNat]=p at *
   generalize out[b.toNat]=q at *
   have d5:decide ((0:Int)≤a)=true:=decide_eq_true h3
   have d6:decide ((0:Int)≤b)=true:=decide_eq_true h4
   have d7:decide (a<((out.length:Nat):Int))=true:=decide_eq_true (by omega)
   have d8:decide (b<((out.length:Nat):Int))=true:=decide_eq_true (by omega)
   have hbs:b.toNat<(out.set a.toNat (min p q)).length:=by simpa using hbl
   have d9:decide (b<(((out.set a.toNat (min p q)).length:Nat):Int))=true:=decide_eq_true (by simp;omega)
   have xs:(out.set a.toNat (min p q))[b.toNat]? = some (out.set a.toNat (min p q))[b.toNat]:=List.getElem?_eq_getElem hbs
   simp only[d3,d4,d5,d6,d7,d8,Bool.and_self,xa,xb,Option.bind_some,d9,xs]
   rw[hL]
   exact ih (i+1) ((out.set a.toNat (min p q)).set b.toNat (min p q)) (by omega) (by simp[ho])
 intro out ho
 exact loop d.2.length 0 out (by omega) ho
theorem agR(hG:HG G)(d:aj)(hs:Sm d):FX G 193 sM ((d,()),())=some ((labels d,()),()):=by
 have hv:=hs.v
 refine aw (fn:=Tryz.f193) (hG _ _ rfl) (by kernel_rfl) (by kernel_rfl) ((afF _ _ _).trans ?_)
 have l1:∀(n i:Nat) (out:List Int),i+n=d.1.length→out.length=d.1.length→LX G 193 sM Tryz.f193 wX (aM Tryz.prog 193 1) (((i:Int),()),(((d,()),()),(out,())))=some ((Ig d n out,()),()):=by
  intro n
  induction n with
  |zero =>
   intro i out hi ho
   refine ao (j:=1) (by kernel_rfl) ((QM _ _ _).trans ?_)
   have h1:¬((i:Int)<(d.1.length:Int)):=by omega
   simp only[h1,decide_false];rfl
  |succ n ih =>
   intro i out hi ho
   refine ao (j:=1) (by kernel_rfl) ((QM _ _ _).trans ?_)
   have aF:i<d.1.length:=by omega
   simp only[aX aF]
   exact XW hG d hs (i:Int) (Ig d n) (fun out ho=>by rw[aE aF (show d.1.length≤1073741824 by omega)];exact ih (i+1) out (by omega) ho) out ho
 have l0:∀(n i:Nat) (out:List Int),i+n=d.1.length→out=Dk i→LX G 193 sM Tryz.f193 BI (aM Tryz.prog 193 0) (((i:Int),()),(((d,()),()),(out,())))=some ((labels d,()),()):=by
  intro n
  induction n with
  |zero =>
   intro i out hi ho
   refine ao (j:=0) (by kernel_rfl) ((QL _ _ _).trans ?_)
   have h1:¬((i:Int)<(d.1.length:Int)):=by omega
   have tF:i=d.1.length:=by omega
   subst tF
   simp only[h1,decide_false]
   have:=l1 d.1.length 0 out (by omega) (by rw[ho];simp[Dk])
   rw[ho]at this ⊢
   exact this
  |succ n ih =>
   intro i out hi ho
   refine ao (j:=0) (by kernel_rfl) ((QL _ _ _).trans ?_)
   have aF:i<d.1.length:=by omega
   have h6:aO out.length [(i:Int)].length=true:=fits (by rw[ho];simp[Dk];omega)
   simp only[aX aF,h6,aE aF (show d.1.length≤1073741824 by omega)]
   exact ih (i+1) (out++[(i:Int)]) (by omega) (by rw[ho];simp[Dk,List.range_succ])
 exact l0 d.1.length 0 [] (by omega) (by simp[Dk])
def pU:List Int→Int→Int→Int
 |[],_,n=>n
 |x::r,i,n=>pU r (i+1) (if x=i then IntKind.wrap .i64 (n+1) else n)
def eZ(d:aj):Int:=pU (labels d) 0 0
theorem agS(hG:HG G)(d:aj)(hs:Sm d):FX G 165 Hl ((d,()),())=some ((eZ d,()),()):=by
 have hv:=hs.v
 have hl:=Dl d
 refine aw (fn:=Tryz.f165) (hG _ _ rfl) (by kernel_rfl) (by kernel_rfl) ((afp _ _ _).trans ?_)
 refine aa (agR hG d hs) ?_
 unfold eZ
 generalize labels d=l at *
 have loop:∀(m i:Nat) (n:Int),i+m=l.length→LX G 165 Hl Tryz.f165 wU (aM Tryz.prog 165 0) ((n,((i:Int),())),((),(l,())))=some ((pU (l.drop i) i n,()),()):=by
  intro m
  induction m with
  |zero =>
   intro i n hi
   refine ao (j:=0) (by kernel_rfl) ((QA _ _ _).trans ?_)
   have h1:¬((i:Int)<(l.length:Int)):=by omega
   have h2:l.drop i=[]:=List.drop_eq_nil_of_le (by omega)
   rw[h2]
   simp only[h1,decide_false];rfl
  |succ m ih =>
   intro i n hi
   refine ao (j:=0) (by kernel_rfl) ((QA _ _ _).trans ?_)
   have aF:i<l.length:=by omega
   have h2:l.drop i=l[i]::l.drop (i+1):=List.drop_eq_getElem_cons aF
   have hx:l[i]? = some l[i]:=List.getElem?_eq_getElem aF
   rw[h2,pU]
   simp only[aX aF,fh,Bool.and_self,Int.toNat_natCast,hx,Option.bind_some,aE aF (show l.length≤1073741824 by omega)]
   by_cases he:l[i]=(i:Int)
   ·have d1:(l[i]==(i:Int))=true:=by simp[he]
    rw[if_pos he];simp only[d1];exact ih (i+1) _ (by omega)
   ·have d1:(l[i]==(i:Int))=false:=by simp[he]
    rw[if_neg he];simp only[d1];exact ih (i+1) _ (by omega)
 exact loop l.length 0 0 (by omega)
def ru:List ah→Int→Int
 |[],n=>n
 |v::r,n=>ru r (if v.2.1.length=0 then IntKind.wrap .i64 (n+1) else n)
def B7(d:aj):Int:=ru d.1 ((((cW d).length:Nat)):Int)
theorem agT(hG:HG G)(d:aj)(hs:Sm d)(he:d.2.length≤5000000):FX G 136 Fm ((d,()),())=some ((((d.1.length:Nat):Int),(((d.2.length:Nat):Int),(B7 d,(eZ d,())))),()):=by
 have hv:=hs.v
 refine aw (fn:=Tryz.f136) (hG _ _ rfl) (by kernel_rfl) (by kernel_rfl) ((af9 _ _ _).trans ?_)
 refine aa (agP hG d hs he) ?_
 unfold B7
 show LX G 136 Fm Tryz.f136 uc (aM Tryz.prog 136 0) ((lI (cW d),((0:Int),())),(((d,()),()),()))=_
 unfold lI
 generalize (((cW d).length:Nat):Int)=f0
 have key:=b7 d.1 (fun i (n:Int)=>LX G 136 Fm Tryz.f136 uc (aM Tryz.prog 136 0) ((n,(i,())),(((d,()),()),()))) (fun(r:List ah) (n:Int)=>((((d.1.length:Nat):Int),(((d.2.length:Nat):Int),(ru r n,(eZ d,())))),())) (fun _ _=>True)
  (fun n _=>by
   refine ao (j:=0) (by kernel_rfl) ((Rf _ _ _).trans ?_)
   simp only[dL]
   exact aa (agS hG d hs) rfl)
  (fun i y r n hi hx zj _ ih=>by
   refine ao (j:=0) (by kernel_rfl) ((Rf _ _ _).trans ?_)
   simp only[aX hi,ax hx,Option.bind_some,aE hi (show d.1.length≤1073741824 by omega)]
   by_cases he:y.2.1.length=0
   ·have d1:((((y.2.1.length:Nat)):Int)==0)=true:=by simp[he]
    simp only[d1,ru,if_pos he];exact ih _ trivial
   ·have d1:((((y.2.1.length:Nat)):Int)==0)=false:=by simp;intro e;rw[e]at he;simp at he
    simp only[d1,ru,if_neg he];exact ih _ trivial)
  f0 trivial
 exact key
def fS(d:aj):Int:=IntKind.wrap .i64 (Int.tdiv (IntKind.wrap .i64 (IntKind.wrap .i64 (IntKind.wrap .i64 (IntKind.wrap .i64 (2*eZ d)-((d.1.length:Nat):Int))+((d.2.length:Nat):Int))-B7 d)) 2)
theorem XX(hG:HG G)(d:aj)(hs:Sm d)(he:d.2.length≤5000000):FX G 107 Fk ((d,()),())=some ((fS d,()),()):=by
 refine aw (fn:=Tryz.f107) (hG _ _ rfl) (by kernel_rfl) (by kernel_rfl) ((afN _ _ _).trans ?_)
 exact aa (agT hG d hs he) rfl
end Go.Vs
namespace Go.Vs
open Go.Proofs
variable {G:(f:FuncId)→(g:aN)→Option (g.A→Option g.B)}
theorem UO{s:ByteArray}{i:Nat}{c:UInt8}(h:s.data.toList[i]? = some c):(if(0:Int)≤(i:Int) then s[Int.toNat (i:Int)]? else none)=some c:=by
 have hi:i<s.size:=by have:=(List.getElem?_eq_some_iff.1 h).1;simpa using this
 rw[if_pos (by omega),Int.toNat_natCast,getElem?_pos s i hi]
 have h2:=(List.getElem?_eq_some_iff.1 h).2
 rw[←h2]
 rfl
def kC(c:UInt8):Bool:=decide (32≤c.toNat)&&decide (c.toNat≤126)
def mG(s:ByteArray):Bool:=s.data.toList.all kC&&decide (s.size≤16)
theorem XY(hG:G 91 wR=none)(s:ByteArray)(hs:s.size≤100000000):FX G 91 wR ((s,()),())=some ((mG s,()),()):=by
 refine aw (fn:=Tryz.f91) hG (by kernel_rfl) (by kernel_rfl) ((afl _ _ _).trans ?_)
 have hl:s.data.toList.length=s.size:=by simp
 have key:=b7 s.data.toList (fun i (_:Unit)=>LX G 91 wR Tryz.f91 BC (aM Tryz.prog 91 0) ((s,(i,())),((),()))) (fun(r:List UInt8) (_:Unit)=>((r.all kC&&decide (s.size≤16),()),())) (fun _ _=>True)
  (fun _ _=>by
   refine ao (j:=0) (by kernel_rfl) ((Qy _ _ _).trans ?_)
   rw[hl]
   have h2:decide (((s.size:Nat):Int)≤16)=decide (s.size≤16):=by
    rw[Bool.eq_iff_iff];simp;omega
   simp only[dL,h2,List.all_nil,Bool.true_and];rfl)
  (fun i c r _ hi hx zj _ ih=>by
   refine ao (j:=0) (by kernel_rfl) ((Qy _ _ _).trans ?_)
   rw[hl]at hi
   have hb:=UO hx
   simp only[aX hi,hb,Option.bind_some,aE hi (show s.size≤1073741824 by omega)]
   by_cases h1:c.toNat<32
   ·have d1:decide (((c.toNat:Nat):Int)<32)=true:=decide_eq_true (by omega)
    have d2:kC c=false:=by unfold kC;simp;omega
    simp only[d1,List.all_cons,d2,Bool.false_and];rfl
   ·have d1:decide (((c.toNat:Nat):Int)<32)=false:=decide_eq_false (by omega)
    by_cases h2:126<c.toNat
    ·have d2:decide (((c.toNat:Nat):Int)>126)=true:=decide_eq_true (by omega)
     have d3:kC c=false:=by unfold kC;simp;omega
     simp only[d1,d2,List.all_cons,d3,Bool.false_and];rfl
    ·have d2:decide (((c.toNat:Nat):Int)>126)=false:=decide_eq_false (by omega)
     have d3:kC c=true:=by unfold kC;simp;omega
     simp only[d1,d2,List.all_cons,d3,Bool.true_and];exact ih () trivial)
  () trivial
 exact key
def kD(n:Int):Bool:=decide (-1099511627776≤n∧n≤1099511627776)
theorem XZ(hG:G 90 yY=none)(n:Int):FX G 90 yY ((n,()),())=some ((kD n,()),()):=by
 refine aw (fn:=Tryz.f90) hG (by kernel_rfl) (by kernel_rfl) ((afm _ _ _).trans ?_)
 show(cond (decide (n≥-1099511627776)) (some ((decide (n≤1099511627776),()),())) (some ((false,()),())):Option ((Bool×Unit)×Unit))=some ((kD n,()),())
 unfold kD
 by_cases h1 : -1099511627776≤n<;>simp[h1]
def rv(c:nF):Bool:=b4 c.1&&(Ia c.2 || decide (c.2=zD))
theorem abZ(hG:HG G)(c:nF):FX G 89 Nx ((c,()),())=some ((rv c,()),()):=by
 refine aw (fn:=Tryz.f89) (hG _ _ rfl) (by kernel_rfl) (by kernel_rfl) ((afS _ _ _).trans ?_)
 refine aa (Dh (hG _ _ rfl) c.1) ?_
 refine aa (agI hG c.2) ?_
 have hb:(((c.2.1.1==(0:Int))&&(c.2.1.2==(0:Int)))&&(c.2.2==(0:Int)))=decide (c.2=zD):=kA c.2 zD
 unfold rv
 simp only[hb]
 cases h1:b4 c.1<;>cases h2:Ia c.2<;>rfl
def Jp:aZ:=(0,(zI,(zI,(zI,(zC,(zC,(false,(e0,0))))))))
def jH(o:aZ):aZ :=
 if o.1=3 then(0,(zI,(o.2.2.1,(o.2.2.2.1,(zC,(zC,(o.2.2.2.2.2.2.1,o.2.2.2.2.2.2.2)))))))
 else if o.1=5 then(0,(zI,(zI,(zI,(o.2.2.2.2.1,(o.2.2.2.2.2.1,(o.2.2.2.2.2.2.1,(o.2.2.2.2.2.2.2.1,0))))))))
 else if o.1=6 then(0,(zI,(o.2.2.1,(zI,(o.2.2.2.2.1,(o.2.2.2.2.2.1,(o.2.2.2.2.2.2.1,o.2.2.2.2.2.2.2)))))))
 else if o.1=7 then(0,(zI,(o.2.2.1,(o.2.2.2.1,(o.2.2.2.2.1,(o.2.2.2.2.2.1,(false,(e0,o.2.2.2.2.2.2.2.2))))))))
 else if o.1=8 then(0,(zI,(o.2.2.1,(o.2.2.2.1,(o.2.2.2.2.1,(o.2.2.2.2.2.1,(false,(o.2.2.2.2.2.2.2.1,0))))))))
 else(0,(zI,(o.2.2.1,(o.2.2.2.1,(o.2.2.2.2.1,(o.2.2.2.2.2.1,(o.2.2.2.2.2.2.1,o.2.2.2.2.2.2.2)))))))
theorem agU(hG:G 88 Nw=none)(o:aZ):FX G 88 Nw ((o,()),())=some ((jH o,()),()):=by
 refine aw (fn:=Tryz.f88) hG (by kernel_rfl) (by kernel_rfl) ((afR _ _ _).trans ?_)
 unfold jH
 by_cases h3:o.1=3
 ·have d:(o.1==(3:Int))=true:=by simp[h3]
  rw[if_pos h3];simp only[d];rfl
 have d3:(o.1==(3:Int))=false:=by simp[h3]
 rw[if_neg h3]
 by_cases h5:o.1=5
 ·have d:(o.1==(5:Int))=true:=by simp[h5]
  rw[if_pos h5];simp only[d3,d];rfl
 have d5:(o.1==(5:Int))=false:=by simp[h5]
 rw[if_neg h5]
 by_cases h6:o.1=6
 ·have d:(o.1==(6:Int))=true:=by simp[h6]
  rw[if_pos h6];simp only[d3,d5,d];rfl
 have d6:(o.1==(6:Int))=false:=by simp[h6]
 rw[if_neg h6]
 by_cases h7:o.1=7
 ·have d:(o.1==(7:Int))=true:=by simp[h7]
  rw[if_pos h7];simp only[d3,d5,d6,d];rfl
 have d7:(o.1==(7:Int))=false:=by simp[h7]
 rw[if_neg h7]
 by_cases h8:o.1=8
 ·have d:(o.1==(8:Int))=true:=by simp[h8]
  rw[if_pos h8];simp only[d3,d5,d6,d7,d];rfl
 have d8:(o.1==(8:Int))=false:=by simp[h8]
 rw[if_neg h8];simp only[d3,d5,d6,d7,d8];rfl
def pV(x y:aZ):Bool :=
 (x.1==y.1)&&(((x.2.1.1==y.2.1.1)&&(x.2.1.2==y.2.1.2))&&(((x.2.2.1.1==y.2.2.1.1)&&(x.2.2.1.2==y.2.2.1.2))&&(((x.2.2.2.1.1==y.2.2.2.1.1)&&(x.2.2.2.1.2==y.2.2.2.1.2)) &&
  ((((x.2.2.2.2.1.1.1==y.2.2.2.2.1.1.1)&&(x.2.2.2.2.1.1.2==y.2.2.2.2.1.1.2))&&(((x.2.2.2.2.1.2.1.1==y.2.2.2.2.1.2.1.1)&&(x.2.2.2.2.1.2.1.2==y.2.2.2.2.1.2.1.2))&&(x.2.2.2.2.1.2.2==y.2.2.2.2.1.2.2))) &&
  ((((x.2.2.2.2.2.1.1.1==y.2.2.2.2.2.1.1.1)&&(x.2.2.2.2.2.1.1.2==y.2.2.2.2.2.1.1.2))&&(((x.2.2.2.2.2.1.2.1.1==y.2.2.2.2.2.1.2.1.1)&&(x.2.2.2.2.2.1.2.1.2==y.2.2.2.2.2.1.2.1.2))&&(x.2.2.2.2.2.1.2.2==y.2.2.2.2.2.1.2.2))) &&
  ((x.2.2.2.2.2.2.1==y.2.2.2.2.2.2.1)&&((x.2.2.2.2.2.2.2.1==y.2.2.2.2.2.2.2.1)&&(x.2.2.2.2.2.2.2.2==y.2.2.2.2.2.2.2.2))))))))
theorem ia(x y:aZ):pV x y=true↔x=y:=by
 obtain⟨x1,⟨x2,x3⟩,⟨x4,x5⟩,⟨x6,x7⟩,⟨⟨x8,x9⟩,⟨x10,x11⟩,x12⟩,⟨⟨x13,x14⟩,⟨x15,x16⟩,x17⟩,x18,x19,x20⟩:=x
 obtain⟨y1,⟨y2,y3⟩,⟨y4,y5⟩,⟨y6,y7⟩,⟨⟨y8,y9⟩,⟨oU,mE⟩,qk⟩,⟨⟨la,Ft⟩,⟨uz,TI⟩,Wh⟩,Y2,Wi,HT⟩:=y
 unfold pV
 simp only[XQ]
 simp[and_assoc]
theorem aQ{α:Type}{c b:Bool}{x y r:α}(h:c=b)(k:cond (not b) x y=r):cond (not c) x y=r:=by subst h;exact k
def bz(o:aZ):Int :=
 if o.1<1 then 1 else if 8<o.1 then 1 else if b4 o.2.1=false then 1 else if pV (jH o) Jp=false then 1
 else if o.1=3 then(if rv o.2.2.2.2.1=true∧rv o.2.2.2.2.2.1=true then 0 else 1)
 else if o.1=5 then(if b4 o.2.2.1=true∧b4 o.2.2.2.1=true∧0≤o.2.2.2.2.2.2.2.2∧o.2.2.2.2.2.2.2.2≤3 then 0 else 1)
 else if o.1=6 then(if b4 o.2.2.2.1=true then 0 else 1)
 else if o.1=8 then(if kD o.2.2.2.2.2.2.2.2=true then 0 else 1)
 else if o.1=7 then(if mG o.2.2.2.2.2.2.2.1=true then 0 else 4)
 else 0
def I1(n:Int):Option ((Int×Unit)×Unit):=some ((n,()),())
theorem ab0(hG:HG G)(o:aZ)(ht:o.2.2.2.2.2.2.2.1.size≤100000000):FX G 46 Nu ((o,()),())=some ((bz o,()),()):=by
 refine aw (fn:=Tryz.f46) (hG _ _ rfl) (by kernel_rfl) (by kernel_rfl) ((afv _ _ _).trans ?_)
 refine aa (Dh (hG _ _ rfl) o.2.1) ?_
 unfold bz
 by_cases h1:o.1<1
 ·rw[if_pos h1];have d:=decide_eq_true h1;simp only[d];rfl
 rw[if_neg h1];have d1:=decide_eq_false h1
 by_cases h2:8<o.1
 ·rw[if_pos h2];have d:decide (o.1>8)=true:=decide_eq_true h2;simp only[d1,d];rfl
 rw[if_neg h2];have d2:decide (o.1>8)=false:=decide_eq_false h2
 cases hm:b4 o.2.1
 ·rw[if_pos rfl];simp only[d1,d2];rfl
 rw[if_neg (by simp)]
 simp only[d1,d2]
 refine aa (agU (hG _ _ rfl) o) ?_
 refine aQ (b:=pV (jH o) Jp) rfl ?_
 cases he:pV (jH o) Jp
 ·rw[if_pos rfl];rfl
 rw[if_neg (by simp)]
 by_cases h3:o.1=3
 ·rw[if_pos h3]
  have d:(o.1==(3:Int))=true:=by simp[h3]
  simp only[d]
  refine aa (abZ hG o.2.2.2.2.1) ?_
  refine aa (abZ hG o.2.2.2.2.2.1) ?_
  cases hc:rv o.2.2.2.2.1<;>cases ux:rv o.2.2.2.2.2.1<;>rfl
 rw[if_neg h3]
 have d3:(o.1==(3:Int))=false:=by simp[h3]
 by_cases h5:o.1=5
 ·rw[if_pos h5]
  have d:(o.1==(5:Int))=true:=by simp[h5]
  simp only[d3,d]
  refine aa (Dh (hG _ _ rfl) o.2.2.1) ?_
  refine aa (Dh (hG _ _ rfl) o.2.2.2.1) ?_
  cases hc:b4 o.2.2.1
  ·rw[if_neg (by simp)];rfl
  cases ux:b4 o.2.2.2.1
  ·rw[if_neg (by simp)];rfl
  by_cases h6:o.2.2.2.2.2.2.2.2<0
  ·have d6:=decide_eq_true h6
   rw[if_neg (by omega)];simp only[d6];rfl
  have d6:=decide_eq_false h6
  by_cases h7:o.2.2.2.2.2.2.2.2>3
  ·have d7:=decide_eq_true h7
   rw[if_neg (by omega)];simp only[d6,d7];rfl
  have d7:=decide_eq_false h7
  rw[if_pos ⟨rfl,rfl,by omega,by omega⟩];simp only[d6,d7];rfl
 rw[if_neg h5]
 have d5:(o.1==(5:Int))=false:=by simp[h5]
 by_cases h6:o.1=6
 ·rw[if_pos h6]
  have d:(o.1==(6:Int))=true:=by simp[h6]
  simp only[d3,d5,d]
  refine aa (Dh (hG _ _ rfl) o.2.2.2.1) ?_
  cases hc:b4 o.2.2.2.1<;>rfl
 rw[if_neg h6]
 have d6:(o.1==(6:Int))=false:=by simp[h6]
 by_cases h8:o.1=8
 ·rw[if_pos h8]
  have d:(o.1==(8:Int))=true:=by simp[h8]
  simp only[d3,d5,d6,d]
  refine aa (XZ (hG _ _ rfl) o.2.2.2.2.2.2.2.2) ?_
  cases hc:kD o.2.2.2.2.2.2.2.2<;>rfl
 rw[if_neg h8]
 have d8:(o.1==(8:Int))=false:=by simp[h8]
 by_cases h7:o.1=7
 ·rw[if_pos h7]
  have d:(o.1==(7:Int))=true:=by simp[h7]
  simp only[d3,d5,d6,d8,d]
  refine aa (XY (hG _ _ rfl) o.2.2.2.2.2.2.2.1 (by omega)) ?_
  cases hc:mG o.2.2.2.2.2.2.2.1<;>rfl
 rw[if_neg h7]
 have d7:(o.1==(7:Int))=false:=by simp[h7]
 simp only[d3,d5,d6,d8,d7];rfl
def xh(o:aZ):Prop:=o.2.2.2.2.2.2.2.1.size≤100000000
def kE:List aZ→Int
 |[]=>0
 |o::r=>if bz o≠0 then bz o else kE r
def eu(l:List aZ):Int:=if 1≤l.length∧l.length≤6 then kE l else 3
theorem agV(hG:HG G)(l:List aZ)(ht:∀o∈l,xh o):FX G 69 Ho ((l,()),())=some ((eu l,()),()):=by
 refine aw (fn:=Tryz.f69) (hG _ _ rfl) (by kernel_rfl) (by kernel_rfl) ((aft _ _ _).trans ?_)
 unfold eu
 by_cases h1:l.length<1
 ·have d:decide (((l.length:Nat):Int)<1)=true:=decide_eq_true (by omega)
  rw[if_neg (by omega)];simp only[d];rfl
 have d1:decide (((l.length:Nat):Int)<1)=false:=decide_eq_false (by omega)
 by_cases h2:6<l.length
 ·have d:decide (((l.length:Nat):Int)>6)=true:=decide_eq_true (by omega)
  rw[if_neg (by omega)];simp only[d1,d];rfl
 have d2:decide (((l.length:Nat):Int)>6)=false:=decide_eq_false (by omega)
 rw[if_pos (by omega)]
 simp only[d1,d2]
 have key:=b7 l (fun i (_:Unit)=>LX G 69 Ho Tryz.f69 BF (aM Tryz.prog 69 0) ((i,()),(((l,()),()),()))) (fun(r:List aZ) (_:Unit)=>((kE r,()),())) (fun _ _=>True)
  (fun _ _=>by
   refine ao (j:=0) (by kernel_rfl) ((QD _ _ _).trans ?_)
   simp only[dL];rfl)
  (fun i o r _ hi hx zj _ ih=>by
   refine ao (j:=0) (by kernel_rfl) ((QD _ _ _).trans ?_)
   simp only[aX hi,ax hx,Option.bind_some,aE hi (show l.length≤1073741824 by omega)]
   refine aa (ab0 hG o (ht o (List.mem_of_getElem? hx))) ?_
   rw[kE]
   by_cases h:bz o=0
   ·have d:(bz o != 0)=false:=by simp[h]
    rw[if_neg (by simp[h])];simp only[d];exact ih () trivial
   ·have d:(bz o != 0)=true:=by simp[h]
    rw[if_pos h];simp only[d];rfl)
  () trivial
 exact key
end Go.Vs
namespace Go.Vs
open Go.Proofs
variable {G:(f:FuncId)→(g:aN)→Option (g.A→Option g.B)}
theorem af{α:Type}{c:Bool}{x y r:α}(h:c=true)(k:x=r):cond c x y=r:=by subst h;exact k
theorem ag{α:Type}{c:Bool}{x y r:α}(h:c=false)(k:y=r):cond c x y=r:=by subst h;exact k
theorem cY{a b:Bool}(h:a=true)(k:b=true):(a&&b)=true:=by rw[h,k];rfl
def zS:StateT:=(([],[]),[])
abbrev aK(o:aZ):ID:=o.2.1
abbrev dM(o:aZ):ID:=o.2.2.1
abbrev av(o:aZ):ID:=o.2.2.2.1
abbrev oA(o:aZ):nF:=o.2.2.2.2.1
abbrev oB(o:aZ):nF:=o.2.2.2.2.2.1
abbrev gx(o:aZ):Bool:=o.2.2.2.2.2.2.1
abbrev kV(o:aZ):ByteArray:=o.2.2.2.2.2.2.2.1
abbrev oN(o:aZ):Int:=o.2.2.2.2.2.2.2.2
def jf(o:aZ)(w:ah):ah:=if gx o=false∧w.1=aK o then(if o.1=7 then(w.1,(w.2.1,(kV o,w.2.2.2))) else(w.1,(w.2.1,(w.2.2.1,oN o)))) else w
def jW(o:aZ)(w:ai):ai:=if gx o=true∧w.1=aK o then(if o.1=7 then(w.1,(kV o,w.2.2)) else(w.1,(w.2.1,oN o))) else w
def Ii(o:aZ)(l:List ah):Bool := !(gx o)&&l.any fun w=>decide (w.1=aK o)
def FN(o:aZ)(l:List ai):Bool:=gx o&&l.any fun w=>decide (w.1=aK o)
def xi(s:StateT)(o:aZ):StateT×(Int×Unit) :=
 if Ii o s.1.1 || FN o s.1.2 then(((s.1.1.map (jf o),s.1.2.map (jW o)),s.2),(0,())) else(zS,(13,()))
theorem X0(s:StateT)(o:aZ)(vs:List ah)(hs:Sm s.1):∀(n i:Nat) (fd:Bool) (out fin:List ai),i+n=s.1.2.length→out=(s.1.2.take i).map (jW o)++s.1.2.drop i→fin=s.1.2.map (jW o) →
  LX G 86 Bf Tryz.f86 rk (aM Tryz.prog 86 1) ((fd,((i:Int),())),(((s,()),((o,()),((([]:List ah),(([]:List ai),(([]:List aA),()))),((vs,(out,())),())))),())) =
   some ((if(fd || FN o (s.1.2.drop i)) then((((vs,fin),s.2),((0:Int),())):StateT×(Int×Unit)) else(zS,(13,()))),()):=by
 have he:=hs.e
 intro n
 induction n with
 |zero =>
  intro i fd out fin hi ho hf
  refine ao (j:=1) (by kernel_rfl) ((QJ _ _ _).trans ?_)
  have Wr:out.length=s.1.2.length:=by rw[ho];simp;omega
  have h1:¬((i:Int)<(out.length:Int)):=by omega
  have h2:out=fin:=by rw[ho,hf,List.take_of_length_le (by omega),List.drop_eq_nil_of_le (by omega),List.append_nil]
  have h3:FN o (s.1.2.drop i)=false:=by rw[List.drop_eq_nil_of_le (by omega)];simp[FN]
  subst h2
  rw[h3]
  simp only[h1,decide_false]
  cases fd<;>rfl
 |succ n ih =>
  intro i fd out fin hi ho hf
  refine ao (j:=1) (by kernel_rfl) ((QJ _ _ _).trans ?_)
  have Wr:out.length=s.1.2.length:=by rw[ho];simp;omega
  have aF:i<s.1.2.length:=by omega
  have hx:s.1.2[i]? = some s.1.2[i]:=List.getElem?_eq_getElem aF
  have hg:out[i]? = some s.1.2[i]:=by rw[ho];exact FL _ _ _ _ hx
  have h2:s.1.2.drop i=s.1.2[i]::s.1.2.drop (i+1):=List.drop_eq_getElem_cons aF
  have xj:=aX (show i<out.length by omega)
  have hw:=aE aF (show s.1.2.length≤1073741824 by omega)
  rw[h2]
  generalize s.1.2[i]=y at *
  have hE:FN o (y::s.1.2.drop (i+1))=((gx o&&decide (y.1=aK o)) || FN o (s.1.2.drop (i+1))):=by
   unfold FN;cases gx o<;>simp
  rw[hE]
  refine af xj ?_
  cases RM:gx o
  ·have e1:jW o y=y:=by unfold jW;rw[if_neg (by simp[RM])]
   rw[Bool.false_and,Bool.false_or]
   refine ag RM ?_
   rw[wI,hw]
   exact ih (i+1) fd out fin (by omega) (by rw[ho];exact rq _ _ _ _ hx e1) hf
  ·rw[Bool.true_and]
   refine af RM ?_
   refine af (cY (fh i) xj) ?_
   refine aa hg ?_
   by_cases hq:y.1=aK o
   ·refine af ((jc y.1 (aK o)).trans (decide_eq_true hq)) ?_
    rw[decide_eq_true hq,Bool.true_or,Bool.or_true,wI,hw]
    by_cases h7:o.1=7
    ·have e1:jW o y=(y.1,(kV o,y.2.2)):=by unfold jW;rw[if_pos ⟨RM,hq⟩,if_pos h7]
     refine af (show(o.1==(7:Int))=true by simp[h7]) ?_
     refine af (cY (fh i) xj) ?_
     refine aa hg ?_
     have:=ih (i+1) true (out.set i (y.1,(kV o,y.2.2))) fin (by omega) (by rw[ho,←vI _ _ _ _ hx,e1]) hf
     rw[Bool.true_or]at this;exact this
    ·have e1:jW o y=(y.1,(y.2.1,oN o)):=by unfold jW;rw[if_pos ⟨RM,hq⟩,if_neg h7]
     refine ag (show(o.1==(7:Int))=false by simp[h7]) ?_
     refine af (cY (fh i) xj) ?_
     refine aa hg ?_
     have:=ih (i+1) true (out.set i (y.1,(y.2.1,oN o))) fin (by omega) (by rw[ho,←vI _ _ _ _ hx,e1]) hf
     rw[Bool.true_or]at this;exact this
   ·have e1:jW o y=y:=by unfold jW;rw[if_neg (fun h=>hq h.2)]
    refine ag ((jc y.1 (aK o)).trans (decide_eq_false hq)) ?_
    rw[decide_eq_false hq,Bool.false_or,wI,hw]
    exact ih (i+1) fd out fin (by omega) (by rw[ho];exact rq _ _ _ _ hx e1) hf
theorem X1(s:StateT)(o:aZ)(hs:Sm s.1):∀(n i:Nat) (fd:Bool) (out fin:List ah),i+n=s.1.1.length→out=(s.1.1.take i).map (jf o)++s.1.1.drop i→fin=s.1.1.map (jf o) →
  LX G 86 Bf Tryz.f86 rj (aM Tryz.prog 86 0) ((fd,((i:Int),())),(((s,()),((o,()),((([]:List ah),(([]:List ai),(([]:List aA),()))),((out,(s.1.2,())),())))),())) =
   some ((if((fd || Ii o (s.1.1.drop i)) || FN o s.1.2) then((((fin,s.1.2.map (jW o)),s.2),((0:Int),())):StateT×(Int×Unit)) else(zS,(13,()))),()):=by
 have hv:=hs.v
 intro n
 induction n with
 |zero =>
  intro i fd out fin hi ho hf
  refine ao (j:=0) (by kernel_rfl) ((QI _ _ _).trans ?_)
  have Wr:out.length=s.1.1.length:=by rw[ho];simp;omega
  have h1:¬((i:Int)<(out.length:Int)):=by omega
  have h2:out=fin:=by rw[ho,hf,List.take_of_length_le (by omega),List.drop_eq_nil_of_le (by omega),List.append_nil]
  have h3:Ii o (s.1.1.drop i)=false:=by rw[List.drop_eq_nil_of_le (by omega)];simp[Ii]
  subst h2
  rw[h3,Bool.or_false]
  simp only[h1,decide_false]
  exact X0 s o out hs s.1.2.length 0 fd s.1.2 (s.1.2.map (jW o)) (by omega) (by simp) rfl
 |succ n ih =>
  intro i fd out fin hi ho hf
  refine ao (j:=0) (by kernel_rfl) ((QI _ _ _).trans ?_)
  have Wr:out.length=s.1.1.length:=by rw[ho];simp;omega
  have aF:i<s.1.1.length:=by omega
  have hx:s.1.1[i]? = some s.1.1[i]:=List.getElem?_eq_getElem aF
  have hg:out[i]? = some s.1.1[i]:=by rw[ho];exact FL _ _ _ _ hx
  have h2:s.1.1.drop i=s.1.1[i]::s.1.1.drop (i+1):=List.drop_eq_getElem_cons aF
  have xj:=aX (show i<out.length by omega)
  have hw:=aE aF (show s.1.1.length≤1073741824 by omega)
  rw[h2]
  generalize s.1.1[i]=y at *
  have hE:Ii o (y::s.1.1.drop (i+1))=((!(gx o)&&decide (y.1=aK o)) || Ii o (s.1.1.drop (i+1))):=by
   unfold Ii;cases gx o<;>simp
  rw[hE]
  refine af xj ?_
  cases RM:gx o
  ·rw[Bool.not_false,Bool.true_and]
   refine af (show(!(gx o))=true by rw[RM];rfl) ?_
   refine af (cY (fh i) xj) ?_
   refine aa hg ?_
   by_cases hq:y.1=aK o
   ·refine af ((jc y.1 (aK o)).trans (decide_eq_true hq)) ?_
    rw[decide_eq_true hq,Bool.true_or,Bool.or_true,Bool.true_or,wI,hw]
    by_cases h7:o.1=7
    ·have e1:jf o y=(y.1,(y.2.1,(kV o,y.2.2.2))):=by unfold jf;rw[if_pos ⟨RM,hq⟩,if_pos h7]
     refine af (show(o.1==(7:Int))=true by simp[h7]) ?_
     refine af (cY (fh i) xj) ?_
     refine aa hg ?_
     have:=ih (i+1) true (out.set i (y.1,(y.2.1,(kV o,y.2.2.2)))) fin (by omega) (by rw[ho,←vI _ _ _ _ hx,e1]) hf
     rw[Bool.true_or,Bool.true_or]at this;exact this
    ·have e1:jf o y=(y.1,(y.2.1,(y.2.2.1,oN o))):=by unfold jf;rw[if_pos ⟨RM,hq⟩,if_neg h7]
     refine ag (show(o.1==(7:Int))=false by simp[h7]) ?_
     refine af (cY (fh i) xj) ?_
     refine aa hg ?_
     have:=ih (i+1) true (out.set i (y.1,(y.2.1,(y.2.2.1,oN o)))) fin (by omega) (by rw[ho,←vI _ _ _ _ hx,e1]) hf
     rw[Bool.true_or,Bool.true_or]at this;exact this
   ·have e1:jf o y=y:=by unfold jf;rw[if_neg (fun h=>hq h.2)]
    refine ag ((jc y.1 (aK o)).trans (decide_eq_false hq)) ?_
    rw[decide_eq_false hq,Bool.false_or,wI,hw]
    exact ih (i+1) fd out fin (by omega) (by rw[ho];exact rq _ _ _ _ hx e1) hf
  ·have e1:jf o y=y:=by unfold jf;rw[if_neg (by simp[RM])]
   rw[Bool.not_true,Bool.false_and,Bool.false_or]
   refine ag (show(!(gx o))=false by rw[RM];rfl) ?_
   rw[wI,hw]
   exact ih (i+1) fd out fin (by omega) (by rw[ho];exact rq _ _ _ _ hx e1) hf
theorem agW(hG:HG G)(s:StateT)(o:aZ)(hs:Sm s.1):FX G 86 Bf ((s,o,()),())=some (xi s o,()):=by
 have hv:=hs.v;have he:=hs.e
 refine aw (fn:=Tryz.f86) (hG _ _ rfl) (by kernel_rfl) (by kernel_rfl) ((afC _ _ _).trans ?_)
 refine aa (abN (hG _ _ rfl) s.1 (by omega) (by omega) (fun w hw=>by have:=hs.r w hw;omega)) ?_
 have:=X1 (G:=G) s o hs s.1.1.length 0 false s.1.1 (s.1.1.map (jf o)) (by omega) (by simp) rfl
 rw[Bool.false_or]at this
 exact this
end Go.Vs
namespace Go.Vs
open Go.Proofs
variable {G:(f:FuncId)→(g:aN)→Option (g.A→Option g.B)}
structure Bd(n:Nat)(d:aj):Prop where
 v:d.1.length≤n
 e:d.2.length≤n
 r:∀w∈d.1,w.2.1.length≤n
theorem Bd.sm{n:Nat}{d:aj}(h:Bd n d)(hn:n≤50000000):Sm d:=⟨by have:=h.v;omega,by have:=h.e;omega,fun w hw=>by have:=h.r w hw;omega⟩
theorem Bd.mono{n m:Nat}{d:aj}(h:Bd n d)(hm:n≤m):Bd m d:=⟨by have:=h.v;omega,by have:=h.e;omega,fun w hw=>by have:=h.r w hw;omega⟩
theorem gy(v:ah):∀l:List ah,(eI v l).length=l.length+1
 |[]=>rfl
 |w::r=>by unfold eI;split<;>simp[gy v r]
theorem kF(v:ai):∀l:List ai,(dw v l).length=l.length+1
 |[]=>rfl
 |w::r=>by unfold dw;split<;>simp[kF v r]
theorem mj{v w:ah}:∀{l:List ah},w∈eI v l↔w=v∨w∈l
 |[]=>by simp[eI]
 |u::r=>by
  unfold eI
  split
  ·simp
  ·simp only[List.mem_cons,mj (l:=r)]
   exact⟨fun h=>by rcases h with h|h|h<;>simp[h],fun h=>by rcases h with h|h|h<;>simp[h]⟩
theorem oF{v w:ai}:∀{l:List ai},w∈dw v l↔w=v∨w∈l
 |[]=>by simp[dw]
 |u::r=>by
  unfold dw
  split
  ·simp
  ·simp only[List.mem_cons,oF (l:=r)]
   exact⟨fun h=>by rcases h with h|h|h<;>simp[h],fun h=>by rcases h with h|h|h<;>simp[h]⟩
theorem yK(row:List ae)(a d:ae):(mh row a d).length≤row.length+1:=by
 unfold mh
 split
 ·rw[gr];omega
 ·rw[gr];simp;omega
theorem yL(row:List ae)(d:ae):(cC row d).length≤row.length:=by
 unfold cC;rw[gr];exact List.length_filter_le _ _
theorem FO(row:List ae)(a d:ae):(jF row a d).length=row.length:=by
 unfold jF;rw[gr];split<;>simp
theorem Bd.aS{n:Nat}{d:aj}(h:Bd n d)(x:ID):(aS d x).length≤n:=by
 unfold Vs.aS
 cases hf:aR d x with
 |none=>simp[zV]
 |some v=>exact h.r v (List.mem_of_find?_eq_some hf)
theorem Bd.cf{n:Nat}{d:aj}(h:Bd n d){x:ID}{l:List ae}(hl:l.length≤n):Bd n (cf d x l):=by
 refine⟨by simp[Vs.cf];exact h.v,h.e,fun w hw=>?_⟩
 obtain⟨u,hu,rfl⟩:=List.mem_map.1 hw
 unfold su
 split
 ·exact hl
 ·exact h.r u hu
theorem Bd.bQ{n:Nat}{d:aj}(h:Bd n d)(c:nF)(x:ae):Bd (n+1) (bQ d c x) :=
 (h.mono (by omega)).cf (by have:=yK (Vs.aS d c.1) c.2 x;have:=h.aS c.1;omega)
theorem Bd.aH{n:Nat}{d:aj}(h:Bd n d)(a x:ae):Bd n (aH d a x) :=
 h.cf (by rw[FO];exact h.aS _)
theorem Bd.aG{n:Nat}{d:aj}(h:Bd n d)(x:ae):Bd n (aG d x) :=
 h.cf (by have:=yL (Vs.aS d ((bM d x).getD zI)) x;have:=h.aS ((bM d x).getD zI);omega)
theorem Bd.bf{n:Nat}{d:aj}(h:Bd n d)(v e:ID):Bd n (bf d v e) :=
 ⟨Nat.le_trans (List.length_filter_le _ _) h.v,Nat.le_trans (List.length_filter_le _ _) h.e,fun w hw=>h.r w (List.mem_filter.1 hw).1⟩
theorem Bd.eI{n:Nat}{d:aj}(h:Bd n d)(v:ah)(hv:v.2.1.length≤n+1):Bd (n+1) (eI v d.1,d.2) :=
 ⟨by rw[gy];have:=h.v;omega,by have:=h.e;simp only;omega,fun w hw=>by
  rcases mj.1 hw with rfl|hw
  ·exact hv
  ·have:=h.r w hw;omega⟩
theorem Bd.dw{n:Nat}{d:aj}(h:Bd n d)(v:ai):Bd (n+1) (d.1,dw v d.2) :=
 ⟨by have:=h.v;simp only;omega,by rw[kF];have:=h.e;omega,fun w hw=>by have:=h.r w hw;omega⟩
theorem yM(g:aA):∀l:List aA,(lj g l).length≤l.length+1
 |[]=>by simp[lj]
 |e::r=>by
  unfold lj
  split
  ·have:=List.length_filter_le (fun q:aA=>decide (q.1≠g.1)) (e::r)
   simp[nH];simp at this;omega
  ·have:=yM g r
   split<;>simp<;>omega
theorem fa(l:List aA)(g:aA):(bN l g).length≤l.length+1:=by
 unfold bN;split
 ·omega
 ·exact yM g l
def gD(s:StateT)(o:aZ):aj :=
 bQ (bQ (s.1.1,dw (aK o,(e0,0)) s.1.2) (bm s (oA o)).1 (aK o,0))
  (if(aR s.1 (oB o).1).isSome=true∧(oB o).2=(aK o,0) then oB o else(bm s (oB o)).1) (aK o,1)
def oG(s:StateT)(o:aZ):StateT×(Int×Unit) :=
 if(cJ s.1 (aK o)).isSome=true then(zS,(12,()))
 else if 40≤s.1.2.length then(zS,(3,()))
 else if(bm s (oA o)).2.1≠0 then(zS,(13,()))
 else if(bm s (oB o)).2.1≠0 then(zS,(13,()))
 else if fS (gD s o)≠0 then(zS,(15,()))
 else((gD s o,s.2),(0,()))
theorem agX(hG:HG G){n:Nat}(s:StateT)(o:aZ)(hs:Bd n s.1)(hn:n≤4000000)(hg:s.2.length≤50000000):FX G 82 Qi ((s,o,()),())=some (oG s o,()):=by
  have hv:=hs.v;have he:=hs.e
  have UP:=hs.sm (by omega)
  refine aw (fn:=Tryz.f82) (hG _ _ rfl) (by kernel_rfl) (by kernel_rfl) ((afy _ _ _).trans ?_)
  refine aa (RL (hG _ _ rfl) s.1 (aK o) (by omega)) ?_
  rw[show(je zE (cJ s.1 (aK o))).2.1=(cJ s.1 (aK o)).isSome from gL _ _]
  unfold oG
  cases h1:(cJ s.1 (aK o)).isSome
  case true=>rw[if_pos rfl];rfl
  rw[if_neg (by simp)]
  by_cases h2:40≤s.1.2.length
  · have d:decide (((s.1.2.length:Nat):Int)≥40)=true:=decide_eq_true (by omega)
    rw[if_pos h2];simp only[d];rfl
  have d2:decide (((s.1.2.length:Nat):Int)≥40)=false:=decide_eq_false (by omega)
  rw[if_neg h2];simp only[d2]
  refine aa (abW hG s (oA o) UP hg) ?_
  refine aa (abW hG s (oB o) UP hg) ?_
  refine aa (Di (hG _ _ rfl) s.1 (oB o).1 (by omega)) ?_
  rw[show(je zV (aR s.1 (oB o).1)).2.1=(aR s.1 (oB o).1).isSome from gL _ _]
  have b1:=hs.dw (aK o,(e0,0))
  have b2:=b1.bQ (bm s (oA o)).1 (aK o,0)
  have fin:∀(bc:nF),gD s o=bQ (bQ (s.1.1,dw (aK o,(e0,0)) s.1.2) (bm s (oA o)).1 (aK o,0)) bc (aK o,1) →
      (cond ((bm s (oA o)).2.1 != 0) (some (((([],[]),[]),((13:Int),())),()))
       (cond ((bm s (oB o)).2.1 != 0) (some (((([],[]),[]),((13:Int),())),()))
        ((FX G 115 y0 ((s.1,((aK o,(e0,(0:Int))),())),())).bind fun(y5:((aj×Unit)×Unit)) =>
        (FX G 116 zc ((y5.1.1,((bm s (oA o)).1,((aK o,(0:Int)),()))),())).bind fun(y6:((aj×Unit)×Unit)) =>
        (FX G 116 zc ((y6.1.1,(bc,((aK o,(1:Int)),()))),())).bind fun(y7:((aj×Unit)×Unit)) =>
        (FX G 107 Fk ((y7.1.1,()),())).bind fun(y8:((Int×Unit)×Unit)) =>
        cond (y8.1.1 != (0:Int))
         (some (((([],[]),[]),((15:Int),())),()))
         (some (((y7.1.1,s.2),((0:Int),())),())))):Option ((StateT×(Int×Unit))×Unit)) =
      some ((if(bm s (oA o)).2.1≠0 then(zS,(13,())) else if(bm s (oB o)).2.1≠0 then(zS,(13,())) else if fS (gD s o)≠0 then(zS,(15,())) else((gD s o,s.2),(0,())):StateT×(Int×Unit)),()):=by
    intro bc hbc
    by_cases h3:(bm s (oA o)).2.1=0
    case neg =>
      have d:((bm s (oA o)).2.1 != 0)=true:=by simp[h3]
      rw[if_pos h3,d];rfl
    rw[if_neg (by simp[h3]),show((bm s (oA o)).2.1 != 0)=false by simp[h3]]
    by_cases h4:(bm s (oB o)).2.1=0
    case neg =>
      have d:((bm s (oB o)).2.1 != 0)=true:=by simp[h4]
      rw[if_pos h4,d];rfl
    rw[if_neg (by simp[h4]),show((bm s (oB o)).2.1 != 0)=false by simp[h4]]
    simp only[cond_false]
    have b3:=b2.bQ bc (aK o,1)
    rw[←hbc]at b3
    refine aa (abP hG s.1 (aK o,(e0,0)) (by omega)) ?_
    refine aa (abR hG _ _ _ (b1.sm (by omega))) ?_
    refine aa ((abR hG (bQ (s.1.1,dw (aK o,(e0,0)) s.1.2) (bm s (oA o)).1 (aK o,0)) bc (aK o,1) (b2.sm (by omega))).trans (congrArg (fun z:aj=>some ((z,()),())) hbc.symm)) ?_
    refine aa (XX hG (gD s o) (b3.sm (by omega)) (by have:=b3.e;omega)) ?_
    by_cases h5:fS (gD s o)=0
    · rw[if_neg (by simp[h5])]
      have d:(fS (gD s o) != 0)=false:=by simp[h5]
      simp only[d];rfl
    · rw[if_pos h5]
      have d:(fS (gD s o) != 0)=true:=by simp[h5]
      simp only[d];rfl
  have hb:((((oB o).2.1.1==o.2.1.1)&&((oB o).2.1.2==o.2.1.2))&&((oB o).2.2==(0:Int)))=decide ((oB o).2=(aK o,0)):=kA (oB o).2 (aK o,0)
  simp only[hb]
  cases h6:(aR s.1 (oB o).1).isSome
  · exact fin (bm s (oB o)).1 (by unfold gD;rw[if_neg (by simp[h6])])
  · by_cases h7:(oB o).2=(aK o,0)
    · have d:=decide_eq_true h7
      simp only[d]
      exact fin (oB o) (by unfold gD;rw[if_pos ⟨h6,h7⟩])
    · have d:=decide_eq_false h7
      simp only[d]
      exact fin (bm s (oB o)).1 (by unfold gD;rw[if_neg (by simp[h7])])
def Dm(s:StateT)(o:aZ):StateT×(Int×Unit) :=
 if(cJ s.1 (aK o)).isSome=false then(zS,(13,()))
 else((bf (aG (aG s.1 (aK o,0)) (aK o,1)) zI (aK o),
  bN (bN s.2 ((aK o,0),dm s.1 (aK o,0))) ((aK o,1),dm s.1 (aK o,1))),(0,()))
theorem agY(hG:HG G){n:Nat}(s:StateT)(o:aZ)(hs:Bd n s.1)(hn:n≤4000000)(hg:s.2.length≤5000000):FX G 83 Qj ((s,o,()),())=some (Dm s o,()):=by
 have hv:=hs.v;have he:=hs.e
 have UP:=hs.sm (by omega)
 refine aw (fn:=Tryz.f83) (hG _ _ rfl) (by kernel_rfl) (by kernel_rfl) ((afz _ _ _).trans ?_)
 refine aa (RL (hG _ _ rfl) s.1 (aK o) (by omega)) ?_
 rw[show(je zE (cJ s.1 (aK o))).2.1=(cJ s.1 (aK o)).isSome from gL _ _]
 unfold Dm
 cases h1:(cJ s.1 (aK o)).isSome
 case false=>rw[if_pos rfl];rfl
 rw[if_neg (by simp)]
 have b1:=hs.aG (aK o,0)
 have b2:=b1.aG (aK o,1)
 have l1:=fa s.2 ((aK o,0),dm s.1 (aK o,0))
 refine aa (abU hG s.1 (aK o,0) UP) ?_
 refine aa (UN hG s.2 ((aK o,0),dm s.1 (aK o,0)) (by omega)) ?_
 refine aa (abU hG s.1 (aK o,1) UP) ?_
 refine aa (UN hG (bN s.2 ((aK o,0),dm s.1 (aK o,0))) ((aK o,1),dm s.1 (aK o,1)) (by omega)) ?_
 refine aa (abT hG s.1 (aK o,0) UP) ?_
 refine aa (abT hG (aG s.1 (aK o,0)) (aK o,1) (b1.sm (by omega))) ?_
 exact aa (UM (hG _ _ rfl) (aG (aG s.1 (aK o,0)) (aK o,1)) zI (aK o) (by have:=b2.v;omega) (by have:=b2.e;omega)) rfl
def Jq(o:aZ):ae:=(aK o,IntKind.wrap .i64 (1-Int.tmod (oN o) 2))
def Gj(o:aZ):ae:=(av o,IntKind.wrap .i64 (Int.tdiv (oN o) 2))
def RN(s:StateT)(o:aZ):aj :=
 (eI (dM o,(cw [Jq o,Gj o],(e0,0))) (aH s.1 (Jq o) (ar (Gj o))).1,dw (av o,(e0,0)) (aH s.1 (Jq o) (ar (Gj o))).2)
def ml(s:StateT)(o:aZ):StateT×(Int×Unit) :=
 if(cJ s.1 (aK o)).isSome=false then(zS,(13,()))
 else if(aR s.1 (dM o)).isSome=true then(zS,(12,()))
 else if(cJ s.1 (av o)).isSome=true then(zS,(12,()))
 else if 24≤s.1.1.length then(zS,(3,()))
 else if 40≤s.1.2.length then(zS,(3,()))
 else((RN s o,s.2),(0,()))
theorem agZ(hG:HG G){n:Nat}(s:StateT)(o:aZ)(hs:Bd n s.1)(hn:n≤4000000):FX G 84 Qk ((s,o,()),())=some (ml s o,()):=by
 have hv:=hs.v;have he:=hs.e
 have UP:=hs.sm (by omega)
 refine aw (fn:=Tryz.f84) (hG _ _ rfl) (by kernel_rfl) (by kernel_rfl) ((afA _ _ _).trans ?_)
 refine aa (RL (hG _ _ rfl) s.1 (aK o) (by omega)) ?_
 rw[show(je zE (cJ s.1 (aK o))).2.1=(cJ s.1 (aK o)).isSome from gL _ _]
 unfold ml
 cases h1:(cJ s.1 (aK o)).isSome
 case false=>rw[if_pos rfl];rfl
 rw[if_neg (by simp)]
 refine aa (Di (hG _ _ rfl) s.1 (dM o) (by omega)) ?_
 rw[show(je zV (aR s.1 (dM o))).2.1=(aR s.1 (dM o)).isSome from gL _ _]
 refine aa (RL (hG _ _ rfl) s.1 (av o) (by omega)) ?_
 rw[show(je zE (cJ s.1 (av o))).2.1=(cJ s.1 (av o)).isSome from gL _ _]
 cases h2:(aR s.1 (dM o)).isSome
 case true=>rw[if_pos rfl];rfl
 rw[if_neg (by simp)]
 cases h3:(cJ s.1 (av o)).isSome
 case true=>rw[if_pos rfl];rfl
 rw[if_neg (by simp)]
 by_cases h4:24≤s.1.1.length
 ·have d:decide (((s.1.1.length:Nat):Int)≥24)=true:=decide_eq_true (by omega)
  rw[if_pos h4];simp only[d];rfl
 have d4:decide (((s.1.1.length:Nat):Int)≥24)=false:=decide_eq_false (by omega)
 rw[if_neg h4]
 by_cases h5:40≤s.1.2.length
 ·have d:decide (((s.1.2.length:Nat):Int)≥40)=true:=decide_eq_true (by omega)
  rw[if_pos h5];simp only[d4,d];rfl
 have d5:decide (((s.1.2.length:Nat):Int)≥40)=false:=decide_eq_false (by omega)
 rw[if_neg h5]
 simp only[d4,d5]
 have d6:((2:Int)==0)=false:=rfl
 simp only[d6]
 have b1:=hs.aH (Jq o) (ar (Gj o))
 have b2:=b1.dw (av o,(e0,0))
 refine aa (XR (hG _ _ rfl) (Gj o)) ?_
 refine aa (abS hG s.1 (Jq o) (ar (Gj o)) UP) ?_
 refine aa (abP hG (aH s.1 (Jq o) (ar (Gj o))) (av o,(e0,0)) (by have:=b1.e;omega)) ?_
 refine aa (FI hG [Jq o,Gj o] (by simp)) ?_
 exact aa (abO hG ((aH s.1 (Jq o) (ar (Gj o))).1,dw (av o,(e0,0)) (aH s.1 (Jq o) (ar (Gj o))).2) (dM o,(cw [Jq o,Gj o],(e0,0))) (Nat.le_trans b1.v (by omega))) rfl
end Go.Vs
namespace Go.Vs
open Go.Proofs
variable {G:(f:FuncId)→(g:aN)→Option (g.A→Option g.B)}
def qx(a b:ae)(i:Int):ae:=if(b.1,i)=ar b then a else zD
def Ij(g:List aA)(a b:ae):List aA:=bN (bN g ((b.1,0),qx a b 0)) ((b.1,1),qx a b 1)
def Ku(s:StateT)(o:aZ)(a b:ae):aj:=bf (aH (bf s.1 (aK o) zI) (ar b) a) zI b.1
theorem ag0(hG:HG G)(g:List aA)(a b:ae)(d:aj)(hg:g.length≤5000000) :
  LX G 85 yZ Tryz.f85 l9 (aM Tryz.prog 85 0) ((g,((0:Int),())),(((([]:List ah),(([]:List ai),(([]:List aA),()))),((a,()),((b,()),((ar b,()),((d,()),()))))),()))=some (((d,Ij g a b),((0:Int),())),()):=by
 have l2:∀g2:List aA,LX G 85 yZ Tryz.f85 l9 (aM Tryz.prog 85 0) ((g2,((2:Int),())),(((([]:List ah),(([]:List ai),(([]:List aA),()))),((a,()),((b,()),((ar b,()),((d,()),()))))),()))=some (((d,g2),((0:Int),())),()):=fun g2 =>
  ao (j:=0) (by kernel_rfl) ((QH _ _ _).trans (ag rfl rfl))
 have step:∀(i:Int) (g1:List aA) (r:(StateT×(Int×Unit))×Unit),i<2→g1.length≤5000001→LX G 85 yZ Tryz.f85 l9 (aM Tryz.prog 85 0) ((bN g1 ((b.1,i),qx a b i),(IntKind.wrap .i64 (i+1),())),(((([]:List ah),(([]:List ai),(([]:List aA),()))),((a,()),((b,()),((ar b,()),((d,()),()))))),()))=some r →
   LX G 85 yZ Tryz.f85 l9 (aM Tryz.prog 85 0) ((g1,(i,())),(((([]:List ah),(([]:List ai),(([]:List aA),()))),((a,()),((b,()),((ar b,()),((d,()),()))))),()))=some r:=fun i g1 r hi hg1 h=>by
  refine ao (j:=0) (by kernel_rfl) ((QH _ _ _).trans ?_)
  refine af (decide_eq_true hi) ?_
  unfold qx at h
  by_cases he:((b.1,i):ae)=ar b
  ·rw[if_pos he]at h
   refine af ((kA (b.1,i) (ar b)).trans (decide_eq_true he)) ?_
   refine aa (UN hG g1 ((b.1,i),a) (by omega)) ?_
   exact h
  ·rw[if_neg he]at h
   refine ag ((kA (b.1,i) (ar b)).trans (decide_eq_false he)) ?_
   refine aa (UN hG g1 ((b.1,i),zD) (by omega)) ?_
   exact h
 have a1:=fa g ((b.1,0),qx a b 0)
 refine step 0 g _ (by omega) (by omega) ?_
 refine step 1 _ _ (by omega) (by omega) ?_
 exact l2 _
def jz(s:StateT)(o:aZ)(r0 r1:ae):StateT×(Int×Unit) :=
 if r0.1=r1.1 then(zS,(14,()))
 else if r0.1=av o then((Ku s o r1 r0,Ij s.2 r1 r0),(0,()))
 else if r1.1=av o then((Ku s o r0 r1,Ij s.2 r0 r1),(0,()))
 else(zS,(14,()))
def kc(s:StateT)(o:aZ):StateT×(Int×Unit):=match aR s.1 (aK o) with
 |none=>(zS,(13,()))
 |some v=>match v.2.1 with
  |[r0,r1]=>jz s o r0 r1
  |_=>(zS,(14,()))
theorem ag1(hG:HG G){n:Nat}(s:StateT)(o:aZ)(hs:Bd n s.1)(hn:n≤4000000)(hg:s.2.length≤5000000):FX G 85 yZ ((s,o,()),())=some (kc s o,()):=by
  have hv:=hs.v;have he:=hs.e
  have UP:=hs.sm (by omega)
  refine aw (fn:=Tryz.f85) (hG _ _ rfl) (by kernel_rfl) (by kernel_rfl) ((afB _ _ _).trans ?_)
  refine aa (Di (hG _ _ rfl) s.1 (aK o) (by omega)) ?_
  unfold kc
  cases hf:aR s.1 (aK o) with
  |none=>rfl
  |some v =>
    refine ag (show(!true)=false from rfl) ?_
    have two:∀(a b:ae) (r:Option ((StateT×(Int×Unit))×Unit)),r=some (((Ku s o a b,Ij s.2 a b),((0:Int),())),()) →
        ((FX G 121 Db ((b,()),())).bind fun(y8:((ae×Unit)×Unit)) =>
         (FX G 81 pK ((s.1,(aK o,(zI,()))),())).bind fun(y9:((aj×Unit)×Unit)) =>
         (FX G 120 Ht ((y9.1.1,(y8.1.1,(a,()))),())).bind fun(oU:((aj×Unit)×Unit)) =>
         (FX G 81 pK ((oU.1.1,(zI,(b.1,()))),())).bind fun(mE:((aj×Unit)×Unit)) =>
         LX G 85 yZ Tryz.f85 l9 (aM Tryz.prog 85 0) ((s.2,((0:Int),())),(((([]:List ah),(([]:List ai),(([]:List aA),()))),((a,()),((b,()),((y8.1.1,()),((mE.1.1,()),()))))),())))=r:=fun a b r hr=>by
      subst hr
      have b1:=hs.bf (aK o) zI
      have b2:=b1.aH (ar b) a
      refine aa (XR (hG _ _ rfl) b) ?_
      refine aa (UM (hG _ _ rfl) s.1 (aK o) zI (by omega) (by omega)) ?_
      refine aa (abS hG (bf s.1 (aK o) zI) (ar b) a (b1.sm (by omega))) ?_
      refine aa (UM (hG _ _ rfl) (aH (bf s.1 (aK o) zI) (ar b) a) zI b.1 (by have:=b2.v;omega) (by have:=b2.e;omega)) ?_
      exact ag0 hG s.2 a b (Ku s o a b) hg
    obtain⟨vi,ring,vr⟩:=v
    by_cases hl:ring.length=2
    case neg =>
      refine af (show((((ring.length:Nat):Int)) != 2)=true by simp;omega) ?_
      match ring,hl with
      |[],_=>rfl
      |[_],_=>rfl
      |[_,_],h=>exact absurd rfl h
      |_::_::_::_,_=>rfl
    match ring,hl with
    |[r0,r1],_ =>
      refine ag (show((((2:Nat):Int)) != 2)=false from rfl) ?_
      refine aa (show aY [r0,r1] 0=some r0 from rfl) ?_
      refine aa (show aY [r0,r1] 1=some r1 from rfl) ?_
      show _=some (jz s o r0 r1,())
      unfold jz
      by_cases h1:r0.1=r1.1
      · rw[if_pos h1]
        exact af ((jc r0.1 r1.1).trans (decide_eq_true h1)) rfl
      rw[if_neg h1]
      refine ag ((jc r0.1 r1.1).trans (decide_eq_false h1)) ?_
      refine aa (show aY [r0,r1] 0=some r0 from rfl) ?_
      refine aa (show aY [r0,r1] 1=some r1 from rfl) ?_
      by_cases h2:r0.1=av o
      · rw[if_pos h2]
        refine af ((jc r0.1 (av o)).trans (decide_eq_true h2)) ?_
        refine aa (show aY [r0,r1] 1=some r1 from rfl) ?_
        refine aa (show aY [r0,r1] 0=some r0 from rfl) ?_
        refine ag (by rw[show((r0.1.1==(av o).1)&&(r0.1.2==(av o).2))=true from(jc r0.1 (av o)).trans (decide_eq_true h2)];rfl) ?_
        exact two r1 r0 _ rfl
      rw[if_neg h2]
      refine ag ((jc r0.1 (av o)).trans (decide_eq_false h2)) ?_
      by_cases h3:r1.1=av o
      · rw[if_pos h3]
        refine ag (by rw[show((r1.1.1==(av o).1)&&(r1.1.2==(av o).2))=true from(jc r1.1 (av o)).trans (decide_eq_true h3)];rfl) ?_
        exact two r0 r1 _ rfl
      · rw[if_neg h3]
        exact af (by rw[show((r1.1.1==(av o).1)&&(r1.1.2==(av o).2))=false from(jc r1.1 (av o)).trans (decide_eq_false h3)];rfl) rfl
def ql(s:StateT)(o:aZ):StateT×(Int×Unit) :=
 if(aR s.1 (aK o)).isSome=true then(zS,(12,())) else if 24≤s.1.1.length then(zS,(3,())) else(((eI (aK o,([],(e0,0))) s.1.1,s.1.2),s.2),(0,()))
def yN(s:StateT)(o:aZ):StateT×(Int×Unit):=match aR s.1 (aK o) with
 |none=>(zS,(13,()))
 |some v=>if 0<v.2.1.length then(zS,(14,())) else((bf s.1 (aK o) zI,s.2),(0,()))
def dX(s:StateT)(o:aZ):StateT×(Int×Unit) :=
 if bz o≠0 then(zS,(bz o,()))
 else if o.1=1 then ql s o else if o.1=2 then yN s o else if o.1=3 then oG s o else if o.1=4 then Dm s o else if o.1=5 then ml s o else if o.1=6 then kc s o else xi s o
theorem ab1(hG:HG G){n:Nat}(s:StateT)(o:aZ)(hs:Bd n s.1)(hn:n≤4000000)(hg:s.2.length≤5000000)(ht:xh o):FX G 45 Ns ((s,o,()),())=some (dX s o,()):=by
 have hv:=hs.v;have he:=hs.e
 refine aw (fn:=Tryz.f45) (hG _ _ rfl) (by kernel_rfl) (by kernel_rfl) ((afc _ _ _).trans ?_)
 refine aa (ab0 hG o ht) ?_
 unfold dX
 by_cases h0:bz o=0
 case neg =>
  rw[if_pos h0]
  exact af (show(bz o != 0)=true by simp[h0]) rfl
 rw[if_neg (by simp[h0])]
 refine ag (show(bz o != 0)=false by simp[h0]) ?_
 refine aa (Di (hG _ _ rfl) s.1 (aK o) (by omega)) ?_
 by_cases h1:o.1=1
 ·rw[if_pos h1]
  refine af (show(o.1==(1:Int))=true by simp[h1]) ?_
  rw[show(je zV (aR s.1 (aK o))).2.1=(aR s.1 (aK o)).isSome from gL _ _]
  unfold ql
  cases hf:(aR s.1 (aK o)).isSome
  ·rw[if_neg (by simp)]
   refine ag rfl ?_
   by_cases h4:24≤s.1.1.length
   ·rw[if_pos h4]
    exact af (decide_eq_true (show((s.1.1.length:Nat):Int)≥24 by omega)) rfl
   ·rw[if_neg h4]
    refine ag (decide_eq_false (show ¬((s.1.1.length:Nat):Int)≥24 by omega)) ?_
    exact aa (abO hG s.1 (aK o,([],(e0,0))) (by omega)) rfl
  ·rw[if_pos rfl];rfl
 rw[if_neg h1]
 refine ag (show(o.1==(1:Int))=false by simp[h1]) ?_
 by_cases h2:o.1=2
 ·rw[if_pos h2]
  refine af (show(o.1==(2:Int))=true by simp[h2]) ?_
  unfold yN
  cases hf:aR s.1 (aK o) with
  |none=>rfl
  |some v =>
   refine ag (show(!true)=false from rfl) ?_
   by_cases h4:0<v.2.1.length
   ·show _=some ((if 0<v.2.1.length then(zS,(14,())) else((bf s.1 (aK o) zI,s.2),(0,())):StateT×(Int×Unit)),())
    rw[if_pos h4]
    exact af (decide_eq_true (show((v.2.1.length:Nat):Int)>0 by omega)) rfl
   ·show _=some ((if 0<v.2.1.length then(zS,(14,())) else((bf s.1 (aK o) zI,s.2),(0,())):StateT×(Int×Unit)),())
    rw[if_neg h4]
    refine ag (decide_eq_false (show ¬((v.2.1.length:Nat):Int)>0 by omega)) ?_
    exact aa (UM (hG _ _ rfl) s.1 (aK o) zI (by omega) (by omega)) rfl
 rw[if_neg h2]
 refine ag (show(o.1==(2:Int))=false by simp[h2]) ?_
 by_cases h3:o.1=3
 ·rw[if_pos h3]
  refine af (show(o.1==(3:Int))=true by simp[h3]) ?_
  exact aa (agX hG s o hs hn (by omega)) rfl
 rw[if_neg h3]
 refine ag (show(o.1==(3:Int))=false by simp[h3]) ?_
 by_cases h4:o.1=4
 ·rw[if_pos h4]
  refine af (show(o.1==(4:Int))=true by simp[h4]) ?_
  exact aa (agY hG s o hs hn hg) rfl
 rw[if_neg h4]
 refine ag (show(o.1==(4:Int))=false by simp[h4]) ?_
 by_cases h5:o.1=5
 ·rw[if_pos h5]
  refine af (show(o.1==(5:Int))=true by simp[h5]) ?_
  exact aa (agZ hG s o hs hn) rfl
 rw[if_neg h5]
 refine ag (show(o.1==(5:Int))=false by simp[h5]) ?_
 by_cases h6:o.1=6
 ·rw[if_pos h6]
  refine af (show(o.1==(6:Int))=true by simp[h6]) ?_
  exact aa (ag1 hG s o hs hn hg) rfl
 rw[if_neg h6]
 refine ag (show(o.1==(6:Int))=false by simp[h6]) ?_
 exact aa (agW hG s o (hs.sm (by omega))) rfl
structure Bs(n:Nat)(s:StateT):Prop where
 d:Bd n s.1
 g:s.2.length≤n
theorem Bs.mono{n m:Nat}{s:StateT}(h:Bs n s)(hm:n≤m):Bs m s:=⟨h.d.mono hm,by have:=h.g;omega⟩
theorem Bs.zero(n:Nat):Bs n zS:=⟨⟨Nat.zero_le _,Nat.zero_le _,fun w hw=>by simp[zS]at hw⟩,Nat.zero_le _⟩
theorem Bs.one{n:Nat}{s:StateT}(h:Bs n s)(o:aZ):Bs (n+3) (dX s o).1:=by
 have h1:=h.d;have h2:=h.g
 unfold dX
 split
 ·exact Bs.zero _
 split
 ·unfold ql;split
  ·exact Bs.zero _
  split
  ·exact Bs.zero _
  ·exact⟨(h1.eI _ (by simp)).mono (by omega),by simp only;omega⟩
 split
 ·unfold yN
  cases aR s.1 (aK o) with
  |none=>exact Bs.zero _
  |some v =>
   simp only
   split
   ·exact Bs.zero _
   ·exact⟨(h1.bf _ _).mono (by omega),by simp only;omega⟩
 split
 ·unfold oG
  split;· exact Bs.zero _
  split;· exact Bs.zero _
  split;· exact Bs.zero _
  split;· exact Bs.zero _
  split;· exact Bs.zero _
  exact⟨by unfold gD;exact((h1.dw _).bQ _ _).bQ _ _,by simp only;omega⟩
 split
 ·unfold Dm
  split;· exact Bs.zero _
  refine⟨(((h1.aG _).aG _).bf _ _).mono (by omega),?_⟩
  have a1:=fa s.2 ((aK o,0),dm s.1 (aK o,0))
  have a2:=fa (bN s.2 ((aK o,0),dm s.1 (aK o,0))) ((aK o,1),dm s.1 (aK o,1))
  simp only;omega
 split
 ·unfold ml
  split;· exact Bs.zero _
  split;· exact Bs.zero _
  split;· exact Bs.zero _
  split;· exact Bs.zero _
  split;· exact Bs.zero _
  refine⟨?_,by simp only;omega⟩
  have b2:=((h1.aH (Jq o) (ar (Gj o))).dw (av o,(e0,0)))
  exact(b2.eI (dM o,(cw [Jq o,Gj o],(e0,0))) (by simp[gr])).mono (by omega)
 split
 ·unfold kc
  have key:∀a b:ae,Bs (n+3) (Ku s o a b,Ij s.2 a b):=fun a b=>by
   refine⟨(((h1.bf _ _).aH _ _).bf _ _).mono (by omega),?_⟩
   have a1:=fa s.2 ((b.1,0),qx a b 0)
   have a2:=fa (bN s.2 ((b.1,0),qx a b 0)) ((b.1,1),qx a b 1)
   simp only[Ij];omega
  split
  ·exact Bs.zero _
  ·split
   ·unfold jz
    split;· exact Bs.zero _
    split;· exact key _ _
    split;· exact key _ _
    exact Bs.zero _
   ·exact Bs.zero _
 ·unfold xi
  split
  ·refine⟨⟨by simp;have:=h1.v;omega,by simp;have:=h1.e;omega,fun w hw=>?_⟩,by simp only;omega⟩
   obtain⟨u,hu,rfl⟩:=List.mem_map.1 hw
   have hr:=h1.r u hu
   have e:(jf o u).2.1=u.2.1:=by unfold jf;split<;>(try split)<;>rfl
   rw[e];omega
  ·exact Bs.zero _
def vM:List aZ→StateT→StateT×(Int×Unit)
 |[],s=>(s,(0,()))
 |o::r,s=>if(dX s o).2.1≠0 then(zS,(dX s o).2) else vM r (dX s o).1
def cH(s:StateT)(l:List aZ):StateT×(Int×Unit):=if eu l≠0 then(zS,(eu l,())) else vM l s
theorem Bs.go{l:List aZ}:∀{n:Nat} {s:StateT},Bs n s→Bs (n+3*l.length) (vM l s).1:=by
 induction l with
 |nil=>intro n s h;exact h.mono (by simp)
 |cons o r ih =>
  intro n s h
  unfold vM
  split
  ·exact Bs.zero _
  ·exact(ih (h.one o)).mono (by simp;omega)
theorem ag2(hG:HG G){n:Nat}(s:StateT)(l:List aZ)(hs:Bs n s)(hn:n+3*l.length≤3000000)(ht:∀o∈l,xh o):FX G 49 Hm ((s,l,()),())=some (cH s l,()):=by
 refine aw (fn:=Tryz.f49) (hG _ _ rfl) (by kernel_rfl) (by kernel_rfl) ((afq _ _ _).trans ?_)
 refine aa (agV hG l ht) ?_
 unfold cH
 by_cases h0:eu l=0
 case neg =>
  rw[if_pos h0]
  exact af (show(eu l != 0)=true by simp[h0]) rfl
 rw[if_neg (by simp[h0])]
 refine ag (show(eu l != 0)=false by simp[h0]) ?_
 have key:=b7 l (fun i (s:StateT)=>LX G 49 Hm Tryz.f49 BD (aM Tryz.prog 49 0) ((i,()),(((s,()),((l,()),((([]:List ah),(([]:List ai),(([]:List aA),()))),()))),()))) (fun(r:List aZ) (s:StateT)=>(vM r s,()))
  (fun m s=>∃k,Bs k s∧k+3*m≤3000000)
  (fun s _=>by
   exact ao (j:=0) (by kernel_rfl) ((QB _ _ _).trans (ag (dL _) rfl)))
  (fun i o r s hi hx zj hk ih=>by
   obtain⟨k,hb,hk⟩:=hk
   refine ao (j:=0) (by kernel_rfl) ((QB _ _ _).trans ?_)
   refine af (aX hi) ?_
   refine aa (ax hx) ?_
   have hbd:=hb.d;have hbg:=hb.g
   refine aa (ab1 hG s o hbd (by omega) (by omega) (ht o (List.mem_of_getElem? hx))) ?_
   rw[vM]
   by_cases h1:(dX s o).2.1=0
   ·rw[if_neg (by simp[h1])]
    refine ag (show((dX s o).2.1 != 0)=false by simp[h1]) ?_
    rw[wI,aE hi (show l.length≤1073741824 by omega)]
    exact ih (dX s o).1 ⟨k+3,hb.one o,by omega⟩
   ·rw[if_pos h1]
    exact af (show((dX s o).2.1 != 0)=true by simp[h1]) rfl)
  s ⟨n,hs,hn⟩
 exact key
def mH(s:StateT)(l:List aZ):StateT:=if(cH s l).2.1≠0 then s else(cH s l).1
theorem Bs.try{n:Nat}{s:StateT}{l:List aZ}(h:Bs n s):Bs (n+3*l.length) (mH s l):=by
 unfold mH
 split
 ·exact h.mono (by omega)
 ·unfold cH
  split
  ·exact Bs.zero _
  ·exact h.go
def mn:Nat→List (List aZ)→StateT→StateT
 |0,_,s=>s
 |_+1,[],s=>s
 |n+1,l::r,s=>mn n r (mH s (l.take 8))
def B8(l:List (List aZ)):StateT:=mn 30 l zS
theorem Bs.reach:∀(m:Nat) (l:List (List aZ)) {n:Nat} {s:StateT},Bs n s→Bs (n+24*m) (mn m l s)
 |0,_,n,s,h=>by simpa[mn] using h
 |m+1,[],n,s,h=>h.mono (by omega)
 |m+1,l::r,n,s,h=>by
  rw[mn]
  have h1:Bs (n+3*(l.take 8).length) (mH s (l.take 8)):=h.try
  have hl:(l.take 8).length≤8:=by simp;omega
  exact(Bs.reach m r (h1.mono (show n+3*(l.take 8).length≤n+24 by omega))).mono (by omega)
theorem Bs.L8(l:List (List aZ)):Bs 720 (B8 l):=(Bs.reach 30 l (Bs.zero 0)).mono (by omega)
end Go.Vs
