/- What the document's reference computes, written plainly, the second part. -/
import Derived.Test.YtpkfpbpbkabkdaaGreatRefA
set_option linter.unusedVariables false
set_option linter.unusedSimpArgs false
namespace Go.Vs
open Go.Proofs
variable {G:(f:FuncId)→(g:aJ)→Option (g.A→Option g.B)}
def yJ(x:ID):List ag→Int→Int
 |[],_ => -1
 |v::r,i=>if v.1=x then i else yJ x r (i+1)
theorem JF(x:ID):∀(l:List ag) (i:Int),0≤i→yJ x l i = -1∨(i≤yJ x l i∧yJ x l i<i+l.length)
 |[],i,_=>.inl rfl
 |v::r,i,h=>by
  unfold yJ
  split
  ·right;simp;omega
  ·rcases JF x r (i+1) (by omega) with h|h
   ·exact .inl h
   ·right;simp;omega
theorem aaK(hG:G 217 Cs=none)(d:aj)(x:ID)(hs:Sm d):FX G 217 Cs ((d,x,()),())=some ((yJ x d.1 0,()),()):=by
 have hv:=hs.v
 refine au (fn:=Tryz.f217) hG (by kernel_rfl) (by kernel_rfl) ((aer _ _ _).trans ?_)
 have loop:∀(n i:Nat),i+n=d.1.length→LX G 217 Cs Tryz.f217 AR (aN Tryz.prog 217 0) (((i:Int),()),(((d,()),((x,()),())),()))=some ((yJ x (d.1.drop i) i,()),()):=by
  intro n
  induction n with
  |zero =>
   intro i hi
   refine ar (j:=0) (by kernel_rfl) ((PH _ _ _).trans ?_)
   have h1:¬((i:Int)<(d.1.length:Int)):=by omega
   have h2:d.1.drop i=[]:=List.drop_eq_nil_of_le (by omega)
   rw[h2]
   simp only[h1,decide_false];rfl
  |succ n ih =>
   intro i hi
   refine ar (j:=0) (by kernel_rfl) ((PH _ _ _).trans ?_)
   have aF:i<d.1.length:=by omega
   have h2:d.1.drop i=d.1[i]::d.1.drop (i+1):=List.drop_eq_getElem_cons aF
   have hx:d.1[i]? = some d.1[i]:=List.getElem?_eq_getElem aF
   rw[h2,yJ]
   simp only[aW aF,aI hx,Option.bind_some,jn,aG aF (show d.1.length≤1073741824 by omega)]
   by_cases he:d.1[i].1=x
   ·have d1:=decide_eq_true he
    rw[if_pos he];simp only[d1];rfl
   ·have d1:=decide_eq_false he
    rw[if_neg he];simp only[d1];exact ih (i+1) (by omega)
 exact loop d.1.length 0 (by omega)
def EX(d:aj)(e:ah)(out:List Int):List Int :=
 let a:=yJ ((cm d (e.1,0)).getD zI) d.1 0
 let b:=yJ ((cm d (e.1,1)).getD zI) d.1 0
 if 0≤a∧0≤b then(out.set a.toNat (min (out.getD a.toNat 0) (out.getD b.toNat 0))).set b.toNat (min (out.getD a.toNat 0) (out.getD b.toNat 0)) else out
def jt(d:aj):List ah→List Int→List Int
 |[],out=>out
 |e::r,out=>jt d r (EX d e out)
def Hu(d:aj):Nat→List Int→List Int
 |0,out=>out
 |n+1,out=>Hu d n (jt d d.2 out)
def Cx(n:Nat):List Int:=(List.range n).map fun i=>((i:Nat):Int)
def labels(d:aj):List Int:=Hu d d.1.length (Cx d.1.length)
theorem Hv(d:aj)(e:ah)(out:List Int):(EX d e out).length=out.length:=by
 unfold EX;simp only;split<;>simp
theorem u5(d:aj):∀(l:List ah) (out:List Int),(jt d l out).length=out.length
 |[],out=>rfl
 |e::r,out=>by rw[jt,u5 d r,Hv]
theorem xF(d:aj):∀(n:Nat) (out:List Int),(Hu d n out).length=out.length
 |0,out=>rfl
 |n+1,out=>by rw[Hu,xF d n,u5]
theorem Cz(d:aj):(labels d).length=d.1.length:=by unfold labels;rw[xF];simp[Cx]
theorem Wy(hG:HG G)(d:aj)(hs:Sm d)(n:Int)(R:List Int→List Int)
  (hR:∀out:List Int,out.length=d.1.length→LX G 193 rR Tryz.f193 wb (aN Tryz.prog 193 1) ((IntKind.wrap .i64 (n+1),()),(((d,()),()),(out,())))=some ((R out,()),())) :
  ∀out:List Int,out.length=d.1.length→LX G 193 rR Tryz.f193 qA (aN Tryz.prog 193 2) ((n,((0:Int),())),(((d,()),()),(out,())))=some ((R (jt d d.2 out),()),()):=by
 have hv:=hs.v;have he:=hs.e
 have loop:∀(m i:Nat) (out:List Int),i+m=d.2.length→out.length=d.1.length→LX G 193 rR Tryz.f193 qA (aN Tryz.prog 193 2) ((n,((i:Int),())),(((d,()),()),(out,())))=some ((R (jt d (d.2.drop i) out),()),()):=by
  intro m
  induction m with
  |zero =>
   intro i out hi ho
   have h1:¬((i:Int)<(d.2.length:Int)):=by omega
   have h2:d.2.drop i=[]:=List.drop_eq_nil_of_le (by omega)
   rw[h2,jt]
   refine ar (j:=2) (by kernel_rfl) ((PL _ _ _).trans ?_)
   simp only[h1,decide_false]
   exact hR out ho
  |succ m ih =>
   intro i out hi ho
   have aF:i<d.2.length:=by omega
   have h2:d.2.drop i=d.2[i]::d.2.drop (i+1):=List.drop_eq_getElem_cons aF
   have hx:d.2[i]? = some d.2[i]:=List.getElem?_eq_getElem aF
   rw[h2,jt]
   generalize d.2[i]=e at *
   refine ar (j:=2) (by kernel_rfl) ((PL _ _ _).trans ?_)
   simp only[aW aF,aI hx,Option.bind_some,aG aF (show d.2.length≤1073741824 by omega)]
   refine aa (Hs hG d (e.1,0) (by omega) (fun w hw=>by have:=hs.r w hw;omega)) ?_
   refine aa (Hs hG d (e.1,1) (by omega) (fun w hw=>by have:=hs.r w hw;omega)) ?_
   rw[show(pw zI (cm d (e.1,0))).1=(cm d (e.1,0)).getD zI from jW _ _,show(pw zI (cm d (e.1,1))).1=(cm d (e.1,1)).getD zI from jW _ _]
   refine aa (aaK (hG _ _ rfl) d ((cm d (e.1,0)).getD zI) hs) ?_
   refine aa (aaK (hG _ _ rfl) d ((cm d (e.1,1)).getD zI) hs) ?_
   have hL:EX d e out=(if 0≤yJ ((cm d (e.1,0)).getD zI) d.1 0∧0≤yJ ((cm d (e.1,1)).getD zI) d.1 0 then(out.set (yJ ((cm d (e.1,0)).getD zI) d.1 0).toNat (min (out.getD (yJ ((cm d (e.1,0)).getD zI) d.1 0).toNat 0) (out.getD (yJ ((cm d (e.1,1)).getD zI) d.1 0).toNat 0))).set (yJ ((cm d (e.1,1)).getD zI) d.1 0).toNat (min (out.getD (yJ ((cm d (e.1,0)).getD zI) d.1 0).toNat 0) (out.getD (yJ ((cm d (e.1,1)).getD zI) d.1 0).toNat 0)) else out):=rfl
   have ha:=JF ((cm d (e.1,0)).getD zI) d.1 0 (by omega)
   have hb:=JF ((cm d (e.1,1)).getD zI) d.1 0 (by omega)
   generalize yJ ((cm d (e.1,0)).getD zI) d.1 0=a at *
   generalize yJ ((cm d (e.1,1)).getD zI) d.1 0=b at *
   by_cases h3:0≤a
   case neg =>
    have d3:decide (a≥0)=false:=decide_eq_false h3
    rw[hL,if_neg (by omega)]
    simp only[d3];exact ih (i+1) out (by omega) ho
   have d3:decide (a≥0)=true:=decide_eq_true h3
   by_cases h4:0≤b
   case neg =>
    have d4:decide (b≥0)=false:=decide_eq_false h4
    rw[hL,if_neg (by omega)]
    simp only[d3,d4];exact ih (i+1) out (by omega) ho
   have d4:decide (b≥0)=true:=decide_eq_true h4
   rw[if_pos ⟨h3,h4⟩]at hL
   have hal:a.toNat<out.length:=by omega
   have hbl:b.toNat<out.length:=by omega
   have xa:out[a.toNat]? = some out[a.toNat]:=List.getElem?_eq_getElem hal
   have xb:out[b.toNat]? = some out[b.toNat]:=List.getElem?_eq_getElem hbl
   have ga:out.getD a.toNat 0=out[a.toNat]:=by simp[List.getD,xa]
   have gb:out.getD b.toNat 0=out[b.toNat]:=by simp[List.getD,xb]
   rw[ga,gb]at hL
   generalize out[a.toNat]=p at *
   generalize out[b.toNat]=q at *
   have d5:decide ((0:Int)≤a)=true:=decide_eq_true h3
   have d6:decide ((0:Int)≤b)=true:=decide_eq_true h4
   have d7:decide (a<((out.length:Nat):Int))=true:=decide_eq_true (by omega)
   have d8:decide (b<((out.length:Nat):Int))=true:=decide_eq_true (by omega)
   have hbs:b.toNat<(out.set a.toNat (min p q)).length:=by simpa using hbl
   have d9:decide (b<(((out.set a.toNat (min p q)).length:Nat):Int))=true:=decide_eq_true (by simp;omega)
   have xs:(out.set a.toNat (min p q))[b.toNat]? = some (out.set a.toNat (min p q))[b.toNat]:=List.getElem?_eq_getElem hbs
   simp only[d3,d4,d5,d6,d7,d8,Bool.and_self,xa,xb,Option.bind_some,d9,xs]
   rw[hL]
   exact ih (i+1) ((out.set a.toNat (min p q)).set b.toNat (min p q)) (by omega) (by simp[ho])
 intro out ho
 exact loop d.2.length 0 out (by omega) ho
theorem afy(hG:HG G)(d:aj)(hs:Sm d):FX G 193 rR ((d,()),())=some ((labels d,()),()):=by
 have hv:=hs.v
 refine au (fn:=Tryz.f193) (hG _ _ rfl) (by kernel_rfl) (by kernel_rfl) ((aes _ _ _).trans ?_)
 have l1:∀(n i:Nat) (out:List Int),i+n=d.1.length→out.length=d.1.length→LX G 193 rR Tryz.f193 wb (aN Tryz.prog 193 1) (((i:Int),()),(((d,()),()),(out,())))=some ((Hu d n out,()),()):=by
  intro n
  induction n with
  |zero =>
   intro i out hi ho
   refine ar (j:=1) (by kernel_rfl) ((PJ _ _ _).trans ?_)
   have h1:¬((i:Int)<(d.1.length:Int)):=by omega
   simp only[h1,decide_false];rfl
  |succ n ih =>
   intro i out hi ho
   refine ar (j:=1) (by kernel_rfl) ((PJ _ _ _).trans ?_)
   have aF:i<d.1.length:=by omega
   simp only[aW aF]
   exact Wy hG d hs (i:Int) (Hu d n) (fun out ho=>by rw[aG aF (show d.1.length≤1073741824 by omega)];exact ih (i+1) out (by omega) ho) out ho
 have l0:∀(n i:Nat) (out:List Int),i+n=d.1.length→out=Cx i→LX G 193 rR Tryz.f193 AS (aN Tryz.prog 193 0) (((i:Int),()),(((d,()),()),(out,())))=some ((labels d,()),()):=by
  intro n
  induction n with
  |zero =>
   intro i out hi ho
   refine ar (j:=0) (by kernel_rfl) ((PI _ _ _).trans ?_)
   have h1:¬((i:Int)<(d.1.length:Int)):=by omega
   have sW:i=d.1.length:=by omega
   subst sW
   simp only[h1,decide_false]
   have:=l1 d.1.length 0 out (by omega) (by rw[ho];simp[Cx])
   rw[ho]at this ⊢
   exact this
  |succ n ih =>
   intro i out hi ho
   refine ar (j:=0) (by kernel_rfl) ((PI _ _ _).trans ?_)
   have aF:i<d.1.length:=by omega
   have h6:aL out.length [(i:Int)].length=true:=fits (by rw[ho];simp[Cx];omega)
   simp only[aW aF,h6,aG aF (show d.1.length≤1073741824 by omega)]
   exact ih (i+1) (out++[(i:Int)]) (by omega) (by rw[ho];simp[Cx,List.range_succ])
 exact l0 d.1.length 0 [] (by omega) (by simp[Cx])
def oT:List Int→Int→Int→Int
 |[],_,n=>n
 |x::r,i,n=>oT r (i+1) (if x=i then IntKind.wrap .i64 (n+1) else n)
def eI(d:aj):Int:=oT (labels d) 0 0
theorem afz(hG:HG G)(d:aj)(hs:Sm d):FX G 165 Gt ((d,()),())=some ((eI d,()),()):=by
 have hv:=hs.v
 have hl:=Cz d
 refine au (fn:=Tryz.f165) (hG _ _ rfl) (by kernel_rfl) (by kernel_rfl) ((ad9 _ _ _).trans ?_)
 refine aa (afy hG d hs) ?_
 unfold eI
 generalize labels d=l at *
 have loop:∀(m i:Nat) (n:Int),i+m=l.length→LX G 165 Gt Tryz.f165 v5 (aN Tryz.prog 165 0) ((n,((i:Int),())),((),(l,())))=some ((oT (l.drop i) i n,()),()):=by
  intro m
  induction m with
  |zero =>
   intro i n hi
   refine ar (j:=0) (by kernel_rfl) ((Pu _ _ _).trans ?_)
   have h1:¬((i:Int)<(l.length:Int)):=by omega
   have h2:l.drop i=[]:=List.drop_eq_nil_of_le (by omega)
   rw[h2]
   simp only[h1,decide_false];rfl
  |succ m ih =>
   intro i n hi
   refine ar (j:=0) (by kernel_rfl) ((Pu _ _ _).trans ?_)
   have aF:i<l.length:=by omega
   have h2:l.drop i=l[i]::l.drop (i+1):=List.drop_eq_getElem_cons aF
   have hx:l[i]? = some l[i]:=List.getElem?_eq_getElem aF
   rw[h2,oT]
   simp only[aW aF,eT,Bool.and_self,Int.toNat_natCast,hx,Option.bind_some,aG aF (show l.length≤1073741824 by omega)]
   by_cases he:l[i]=(i:Int)
   ·have d1:(l[i]==(i:Int))=true:=by simp[he]
    rw[if_pos he];simp only[d1];exact ih (i+1) _ (by omega)
   ·have d1:(l[i]==(i:Int))=false:=by simp[he]
    rw[if_neg he];simp only[d1];exact ih (i+1) _ (by omega)
 exact loop l.length 0 0 (by omega)
def qH:List ag→Int→Int
 |[],n=>n
 |v::r,n=>qH r (if v.2.1.length=0 then IntKind.wrap .i64 (n+1) else n)
def Bh(d:aj):Int:=qH d.1 ((((cO d).length:Nat)):Int)
theorem afA(hG:HG G)(d:aj)(hs:Sm d)(he:d.2.length≤5000000):FX G 136 EE ((d,()),())=some ((((d.1.length:Nat):Int),(((d.2.length:Nat):Int),(Bh d,(eI d,())))),()):=by
 have hv:=hs.v
 refine au (fn:=Tryz.f136) (hG _ _ rfl) (by kernel_rfl) (by kernel_rfl) ((aeQ _ _ _).trans ?_)
 refine aa (afw hG d hs he) ?_
 unfold Bh
 show LX G 136 EE Tryz.f136 tp (aN Tryz.prog 136 0) ((lI (cO d),((0:Int),())),(((d,()),()),()))=_
 unfold lI
 generalize (((cO d).length:Nat):Int)=f0
 have key:=bU d.1 (fun i (n:Int)=>LX G 136 EE Tryz.f136 tp (aN Tryz.prog 136 0) ((n,(i,())),(((d,()),()),()))) (fun(r:List ag) (n:Int)=>((((d.1.length:Nat):Int),(((d.2.length:Nat):Int),(qH r n,(eI d,())))),())) (fun _ _=>True)
  (fun n _=>by
   refine ar (j:=0) (by kernel_rfl) ((PV _ _ _).trans ?_)
   simp only[dn]
   exact aa (afz hG d hs) rfl)
  (fun i y r n hi hx Bg _ ih=>by
   refine ar (j:=0) (by kernel_rfl) ((PV _ _ _).trans ?_)
   simp only[aW hi,aI hx,Option.bind_some,aG hi (show d.1.length≤1073741824 by omega)]
   by_cases he:y.2.1.length=0
   ·have d1:((((y.2.1.length:Nat)):Int)==0)=true:=by simp[he]
    simp only[d1,qH,if_pos he];exact ih _ trivial
   ·have d1:((((y.2.1.length:Nat)):Int)==0)=false:=by simp;intro e;rw[e]at he;simp at he
    simp only[d1,qH,if_neg he];exact ih _ trivial)
  f0 trivial
 exact key
def jg(d:aj):Int:=IntKind.wrap .i64 (Int.tdiv (IntKind.wrap .i64 (IntKind.wrap .i64 (IntKind.wrap .i64 (IntKind.wrap .i64 (2*eI d)-((d.1.length:Nat):Int))+((d.2.length:Nat):Int))-Bh d)) 2)
theorem afB(hG:HG G)(d:aj)(hs:Sm d)(he:d.2.length≤5000000):FX G 107 GB ((d,()),())=some ((jg d,()),()):=by
 refine au (fn:=Tryz.f107) (hG _ _ rfl) (by kernel_rfl) (by kernel_rfl) ((aez _ _ _).trans ?_)
 exact aa (afA hG d hs he) rfl
end Go.Vs
namespace Go.Vs
open Go.Proofs
variable {G:(f:FuncId)→(g:aJ)→Option (g.A→Option g.B)}
theorem Tv{s:ByteArray}{i:Nat}{c:UInt8}(h:s.data.toList[i]? = some c):(if(0:Int)≤(i:Int) then s[Int.toNat (i:Int)]? else none)=some c:=by
 have hi:i<s.size:=by have:=(List.getElem?_eq_some_iff.1 h).1;simpa using this
 rw[if_pos (by omega),Int.toNat_natCast,getElem?_pos s i hi]
 have h2:=(List.getElem?_eq_some_iff.1 h).2
 rw[←h2]
 rfl
def kj(c:UInt8):Bool:=decide (32≤c.toNat)&&decide (c.toNat≤126)
def yd(s:ByteArray):Bool:=s.data.toList.all kj&&decide (s.size≤16)
theorem afC(hG:G 91 Ex=none)(s:ByteArray)(hs:s.size≤100000000):FX G 91 Ex ((s,()),())=some ((yd s,()),()):=by
 refine au (fn:=Tryz.f91) hG (by kernel_rfl) (by kernel_rfl) ((ad5 _ _ _).trans ?_)
 have hl:s.data.toList.length=s.size:=by simp
 have key:=bU s.data.toList (fun i (_:Unit)=>LX G 91 Ex Tryz.f91 AK (aN Tryz.prog 91 0) ((s,(i,())),((),()))) (fun(r:List UInt8) (_:Unit)=>((r.all kj&&decide (s.size≤16),()),())) (fun _ _=>True)
  (fun _ _=>by
   refine ar (j:=0) (by kernel_rfl) ((Pr _ _ _).trans ?_)
   rw[hl]
   have h2:decide (((s.size:Nat):Int)≤16)=decide (s.size≤16):=by
    rw[Bool.eq_iff_iff];simp;omega
   simp only[dn,h2,List.all_nil,Bool.true_and];rfl)
  (fun i c r _ hi hx Bg _ ih=>by
   refine ar (j:=0) (by kernel_rfl) ((Pr _ _ _).trans ?_)
   rw[hl]at hi
   have hb:=Tv hx
   simp only[aW hi,hb,Option.bind_some,aG hi (show s.size≤1073741824 by omega)]
   by_cases h1:c.toNat<32
   ·have d1:decide (((c.toNat:Nat):Int)<32)=true:=decide_eq_true (by omega)
    have d2:kj c=false:=by unfold kj;simp;omega
    simp only[d1,List.all_cons,d2,Bool.false_and];rfl
   ·have d1:decide (((c.toNat:Nat):Int)<32)=false:=decide_eq_false (by omega)
    by_cases h2:126<c.toNat
    ·have d2:decide (((c.toNat:Nat):Int)>126)=true:=decide_eq_true (by omega)
     have d3:kj c=false:=by unfold kj;simp;omega
     simp only[d1,d2,List.all_cons,d3,Bool.false_and];rfl
    ·have d2:decide (((c.toNat:Nat):Int)>126)=false:=decide_eq_false (by omega)
     have d3:kj c=true:=by unfold kj;simp;omega
     simp only[d1,d2,List.all_cons,d3,Bool.true_and];exact ih () trivial)
  () trivial
 exact key
def rW(n:Int):Bool:=decide (-1099511627776≤n∧n≤1099511627776)
theorem afD(hG:G 90 Mp=none)(n:Int):FX G 90 Mp ((n,()),())=some ((rW n,()),()):=by
 refine au (fn:=Tryz.f90) hG (by kernel_rfl) (by kernel_rfl) ((ad6 _ _ _).trans ?_)
 show(cond (decide (n≥-1099511627776)) (some ((decide (n≤1099511627776),()),())) (some ((false,()),())):Option ((Bool×Unit)×Unit))=some ((rW n,()),())
 unfold rW
 by_cases h1 : -1099511627776≤n<;>simp[h1]
def ye(c:pn):Bool:=cY c.1&&(JE c.2 || decide (c.2=zD))
theorem aaL(hG:HG G)(c:pn):FX G 89 Mv ((c,()),())=some ((ye c,()),()):=by
 refine au (fn:=Tryz.f89) (hG _ _ rfl) (by kernel_rfl) (by kernel_rfl) ((aeC _ _ _).trans ?_)
 refine aa (ML (hG _ _ rfl) c.1) ?_
 refine aa (afn hG c.2) ?_
 have hb:(((c.2.1.1==(0:Int))&&(c.2.1.2==(0:Int)))&&(c.2.2==(0:Int)))=decide (c.2=zD):=kD c.2 zD
 unfold ye
 simp only[hb]
 cases h1:cY c.1<;>cases h2:JE c.2<;>rfl
def UU:ba:=(0,(zI,(zI,(zI,(zC,(zC,(false,(e0,0))))))))
def sJ(o:ba):ba :=
 if o.1=3 then(0,(zI,(o.2.2.1,(o.2.2.2.1,(zC,(zC,(o.2.2.2.2.2.2.1,o.2.2.2.2.2.2.2)))))))
 else if o.1=5 then(0,(zI,(zI,(zI,(o.2.2.2.2.1,(o.2.2.2.2.2.1,(o.2.2.2.2.2.2.1,(o.2.2.2.2.2.2.2.1,0))))))))
 else if o.1=6 then(0,(zI,(o.2.2.1,(zI,(o.2.2.2.2.1,(o.2.2.2.2.2.1,(o.2.2.2.2.2.2.1,o.2.2.2.2.2.2.2)))))))
 else if o.1=7 then(0,(zI,(o.2.2.1,(o.2.2.2.1,(o.2.2.2.2.1,(o.2.2.2.2.2.1,(false,(e0,o.2.2.2.2.2.2.2.2))))))))
 else if o.1=8 then(0,(zI,(o.2.2.1,(o.2.2.2.1,(o.2.2.2.2.1,(o.2.2.2.2.2.1,(false,(o.2.2.2.2.2.2.2.1,0))))))))
 else(0,(zI,(o.2.2.1,(o.2.2.2.1,(o.2.2.2.2.1,(o.2.2.2.2.2.1,(o.2.2.2.2.2.2.1,o.2.2.2.2.2.2.2)))))))
theorem afE(hG:G 88 Mu=none)(o:ba):FX G 88 Mu ((o,()),())=some ((sJ o,()),()):=by
 refine au (fn:=Tryz.f88) hG (by kernel_rfl) (by kernel_rfl) ((aeB _ _ _).trans ?_)
 unfold sJ
 by_cases h3:o.1=3
 ·have d:(o.1==(3:Int))=true:=by simp[h3]
  rw[if_pos h3];simp only[d];rfl
 have d3:(o.1==(3:Int))=false:=by simp[h3]
 rw[if_neg h3]
 by_cases h5:o.1=5
 ·have d:(o.1==(5:Int))=true:=by simp[h5]
  rw[if_pos h5];simp only[d3,d];rfl
 have d5:(o.1==(5:Int))=false:=by simp[h5]
 rw[if_neg h5]
 by_cases h6:o.1=6
 ·have d:(o.1==(6:Int))=true:=by simp[h6]
  rw[if_pos h6];simp only[d3,d5,d];rfl
 have d6:(o.1==(6:Int))=false:=by simp[h6]
 rw[if_neg h6]
 by_cases h7:o.1=7
 ·have d:(o.1==(7:Int))=true:=by simp[h7]
  rw[if_pos h7];simp only[d3,d5,d6,d];rfl
 have d7:(o.1==(7:Int))=false:=by simp[h7]
 rw[if_neg h7]
 by_cases h8:o.1=8
 ·have d:(o.1==(8:Int))=true:=by simp[h8]
  rw[if_pos h8];simp only[d3,d5,d6,d7,d];rfl
 have d8:(o.1==(8:Int))=false:=by simp[h8]
 rw[if_neg h8];simp only[d3,d5,d6,d7,d8];rfl
def u6(x y:ba):Bool :=
 (x.1==y.1)&&(((x.2.1.1==y.2.1.1)&&(x.2.1.2==y.2.1.2))&&(((x.2.2.1.1==y.2.2.1.1)&&(x.2.2.1.2==y.2.2.1.2))&&(((x.2.2.2.1.1==y.2.2.2.1.1)&&(x.2.2.2.1.2==y.2.2.2.1.2)) &&
  ((((x.2.2.2.2.1.1.1==y.2.2.2.2.1.1.1)&&(x.2.2.2.2.1.1.2==y.2.2.2.2.1.1.2))&&(((x.2.2.2.2.1.2.1.1==y.2.2.2.2.1.2.1.1)&&(x.2.2.2.2.1.2.1.2==y.2.2.2.2.1.2.1.2))&&(x.2.2.2.2.1.2.2==y.2.2.2.2.1.2.2))) &&
  ((((x.2.2.2.2.2.1.1.1==y.2.2.2.2.2.1.1.1)&&(x.2.2.2.2.2.1.1.2==y.2.2.2.2.2.1.1.2))&&(((x.2.2.2.2.2.1.2.1.1==y.2.2.2.2.2.1.2.1.1)&&(x.2.2.2.2.2.1.2.1.2==y.2.2.2.2.2.1.2.1.2))&&(x.2.2.2.2.2.1.2.2==y.2.2.2.2.2.1.2.2))) &&
  ((x.2.2.2.2.2.2.1==y.2.2.2.2.2.2.1)&&((x.2.2.2.2.2.2.2.1==y.2.2.2.2.2.2.2.1)&&(x.2.2.2.2.2.2.2.2==y.2.2.2.2.2.2.2.2))))))))
theorem u7(x y:ba):u6 x y=true↔x=y:=by
 obtain⟨x1,⟨x2,x3⟩,⟨x4,x5⟩,⟨x6,x7⟩,⟨⟨x8,x9⟩,⟨x10,x11⟩,x12⟩,⟨⟨x13,x14⟩,⟨x15,x16⟩,x17⟩,x18,x19,x20⟩:=x
 obtain⟨y1,⟨y2,y3⟩,⟨y4,y5⟩,⟨y6,y7⟩,⟨⟨y8,y9⟩,⟨oR,mg⟩,pM⟩,⟨⟨kS,EH⟩,⟨tL,R1⟩,R4⟩,Jo,G6,Dn⟩:=y
 unfold u6
 simp only[Ws]
 simp[and_assoc]
theorem bj{α:Type}{c b:Bool}{x y r:α}(h:c=b)(k:cond (not b) x y=r):cond (not c) x y=r:=by subst h;exact k
def cf(o:ba):Int :=
 if o.1<1 then 1 else if 8<o.1 then 1 else if cY o.2.1=false then 1 else if u6 (sJ o) UU=false then 1
 else if o.1=3 then(if ye o.2.2.2.2.1=true∧ye o.2.2.2.2.2.1=true then 0 else 1)
 else if o.1=5 then(if cY o.2.2.1=true∧cY o.2.2.2.1=true∧0≤o.2.2.2.2.2.2.2.2∧o.2.2.2.2.2.2.2.2≤3 then 0 else 1)
 else if o.1=6 then(if cY o.2.2.2.1=true then 0 else 1)
 else if o.1=8 then(if rW o.2.2.2.2.2.2.2.2=true then 0 else 1)
 else if o.1=7 then(if yd o.2.2.2.2.2.2.2.1=true then 0 else 4)
 else 0
def I1(n:Int):Option ((Int×Unit)×Unit):=some ((n,()),())
theorem aaM(hG:HG G)(o:ba)(ht:o.2.2.2.2.2.2.2.1.size≤100000000):FX G 46 Mq ((o,()),())=some ((cf o,()),()):=by
 refine au (fn:=Tryz.f46) (hG _ _ rfl) (by kernel_rfl) (by kernel_rfl) ((aeh _ _ _).trans ?_)
 refine aa (ML (hG _ _ rfl) o.2.1) ?_
 unfold cf
 by_cases h1:o.1<1
 ·rw[if_pos h1];have d:=decide_eq_true h1;simp only[d];rfl
 rw[if_neg h1];have d1:=decide_eq_false h1
 by_cases h2:8<o.1
 ·rw[if_pos h2];have d:decide (o.1>8)=true:=decide_eq_true h2;simp only[d1,d];rfl
 rw[if_neg h2];have d2:decide (o.1>8)=false:=decide_eq_false h2
 cases hm:cY o.2.1
 ·rw[if_pos rfl];simp only[d1,d2];rfl
 rw[if_neg (by simp)]
 simp only[d1,d2]
 refine aa (afE (hG _ _ rfl) o) ?_
 refine bj (b:=u6 (sJ o) UU) rfl ?_
 cases he:u6 (sJ o) UU
 ·rw[if_pos rfl];rfl
 rw[if_neg (by simp)]
 by_cases h3:o.1=3
 ·rw[if_pos h3]
  have d:(o.1==(3:Int))=true:=by simp[h3]
  simp only[d]
  refine aa (aaL hG o.2.2.2.2.1) ?_
  refine aa (aaL hG o.2.2.2.2.2.1) ?_
  cases hc:ye o.2.2.2.2.1<;>cases tJ:ye o.2.2.2.2.2.1<;>rfl
 rw[if_neg h3]
 have d3:(o.1==(3:Int))=false:=by simp[h3]
 by_cases h5:o.1=5
 ·rw[if_pos h5]
  have d:(o.1==(5:Int))=true:=by simp[h5]
  simp only[d3,d]
  refine aa (ML (hG _ _ rfl) o.2.2.1) ?_
  refine aa (ML (hG _ _ rfl) o.2.2.2.1) ?_
  cases hc:cY o.2.2.1
  ·rw[if_neg (by simp)];rfl
  cases tJ:cY o.2.2.2.1
  ·rw[if_neg (by simp)];rfl
  by_cases h6:o.2.2.2.2.2.2.2.2<0
  ·have d6:=decide_eq_true h6
   rw[if_neg (by omega)];simp only[d6];rfl
  have d6:=decide_eq_false h6
  by_cases h7:o.2.2.2.2.2.2.2.2>3
  ·have d7:=decide_eq_true h7
   rw[if_neg (by omega)];simp only[d6,d7];rfl
  have d7:=decide_eq_false h7
  rw[if_pos ⟨rfl,rfl,by omega,by omega⟩];simp only[d6,d7];rfl
 rw[if_neg h5]
 have d5:(o.1==(5:Int))=false:=by simp[h5]
 by_cases h6:o.1=6
 ·rw[if_pos h6]
  have d:(o.1==(6:Int))=true:=by simp[h6]
  simp only[d3,d5,d]
  refine aa (ML (hG _ _ rfl) o.2.2.2.1) ?_
  cases hc:cY o.2.2.2.1<;>rfl
 rw[if_neg h6]
 have d6:(o.1==(6:Int))=false:=by simp[h6]
 by_cases h8:o.1=8
 ·rw[if_pos h8]
  have d:(o.1==(8:Int))=true:=by simp[h8]
  simp only[d3,d5,d6,d]
  refine aa (afD (hG _ _ rfl) o.2.2.2.2.2.2.2.2) ?_
  cases hc:rW o.2.2.2.2.2.2.2.2<;>rfl
 rw[if_neg h8]
 have d8:(o.1==(8:Int))=false:=by simp[h8]
 by_cases h7:o.1=7
 ·rw[if_pos h7]
  have d:(o.1==(7:Int))=true:=by simp[h7]
  simp only[d3,d5,d6,d8,d]
  refine aa (afC (hG _ _ rfl) o.2.2.2.2.2.2.2.1 (by omega)) ?_
  cases hc:yd o.2.2.2.2.2.2.2.1<;>rfl
 rw[if_neg h7]
 have d7:(o.1==(7:Int))=false:=by simp[h7]
 simp only[d3,d5,d6,d8,d7];rfl
def tw(o:ba):Prop:=o.2.2.2.2.2.2.2.1.size≤100000000
def gS:List ba→Int
 |[]=>0
 |o::r=>if cf o≠0 then cf o else gS r
def ck(l:List ba):Int:=if 1≤l.length∧l.length≤6 then gS l else 3
theorem afF(hG:HG G)(l:List ba)(ht:∀o∈l,tw o):FX G 69 Gx ((l,()),())=some ((ck l,()),()):=by
 refine au (fn:=Tryz.f69) (hG _ _ rfl) (by kernel_rfl) (by kernel_rfl) ((aee _ _ _).trans ?_)
 unfold ck
 by_cases h1:l.length<1
 ·have d:decide (((l.length:Nat):Int)<1)=true:=decide_eq_true (by omega)
  rw[if_neg (by omega)];simp only[d];rfl
 have d1:decide (((l.length:Nat):Int)<1)=false:=decide_eq_false (by omega)
 by_cases h2:6<l.length
 ·have d:decide (((l.length:Nat):Int)>6)=true:=decide_eq_true (by omega)
  rw[if_neg (by omega)];simp only[d1,d];rfl
 have d2:decide (((l.length:Nat):Int)>6)=false:=decide_eq_false (by omega)
 rw[if_pos (by omega)]
 simp only[d1,d2]
 have key:=bU l (fun i (_:Unit)=>LX G 69 Gx Tryz.f69 AO (aN Tryz.prog 69 0) ((i,()),(((l,()),()),()))) (fun(r:List ba) (_:Unit)=>((gS r,()),())) (fun _ _=>True)
  (fun _ _=>by
   refine ar (j:=0) (by kernel_rfl) ((Px _ _ _).trans ?_)
   simp only[dn];rfl)
  (fun i o r _ hi hx Bg _ ih=>by
   refine ar (j:=0) (by kernel_rfl) ((Px _ _ _).trans ?_)
   simp only[aW hi,aI hx,Option.bind_some,aG hi (show l.length≤1073741824 by omega)]
   refine aa (aaM hG o (ht o (List.mem_of_getElem? hx))) ?_
   rw[gS]
   by_cases h:cf o=0
   ·have d:(cf o != 0)=false:=by simp[h]
    rw[if_neg (by simp[h])];simp only[d];exact ih () trivial
   ·have d:(cf o != 0)=true:=by simp[h]
    rw[if_pos h];simp only[d];rfl)
  () trivial
 exact key
end Go.Vs
namespace Go.Vs
open Go.Proofs
variable {G:(f:FuncId)→(g:aJ)→Option (g.A→Option g.B)}
theorem ae{α:Type}{c:Bool}{x y r:α}(h:c=true)(k:x=r):cond c x y=r:=by subst h;exact k
theorem af{α:Type}{c:Bool}{x y r:α}(h:c=false)(k:y=r):cond c x y=r:=by subst h;exact k
theorem dq{a b:Bool}(h:a=true)(k:b=true):(a&&b)=true:=by rw[h,k];rfl
def zS:StateT:=(([],[]),[])
abbrev aV(o:ba):ID:=o.2.1
abbrev eO(o:ba):ID:=o.2.2.1
abbrev aZ(o:ba):ID:=o.2.2.2.1
abbrev oA(o:ba):pn:=o.2.2.2.2.1
abbrev oB(o:ba):pn:=o.2.2.2.2.2.1
abbrev mY(o:ba):Bool:=o.2.2.2.2.2.2.1
abbrev nM(o:ba):ByteArray:=o.2.2.2.2.2.2.2.1
abbrev oN(o:ba):Int:=o.2.2.2.2.2.2.2.2
def iH(o:ba)(w:ag):ag:=if mY o=false∧w.1=aV o then(if o.1=7 then(w.1,(w.2.1,(nM o,w.2.2.2))) else(w.1,(w.2.1,(w.2.2.1,oN o)))) else w
def jK(o:ba)(w:ah):ah:=if mY o=true∧w.1=aV o then(if o.1=7 then(w.1,(nM o,w.2.2)) else(w.1,(w.2.1,oN o))) else w
def Hw(o:ba)(l:List ag):Bool := !(mY o)&&l.any fun w=>decide (w.1=aV o)
def EY(o:ba)(l:List ah):Bool:=mY o&&l.any fun w=>decide (w.1=aV o)
def wu(s:StateT)(o:ba):StateT×(Int×Unit) :=
 if Hw o s.1.1 || EY o s.1.2 then(((s.1.1.map (iH o),s.1.2.map (jK o)),s.2),(0,())) else(zS,(13,()))
theorem Wz(s:StateT)(o:ba)(vs:List ag)(hs:Sm s.1):∀(n i:Nat) (fd:Bool) (out fin:List ah),i+n=s.1.2.length→out=(s.1.2.take i).map (jK o)++s.1.2.drop i→fin=s.1.2.map (jK o) →
  LX G 86 Al Tryz.f86 qz (aN Tryz.prog 86 1) ((fd,((i:Int),())),(((s,()),((o,()),((([]:List ag),(([]:List ah),(([]:List aw),()))),((vs,(out,())),())))),())) =
   some ((if(fd || EY o (s.1.2.drop i)) then((((vs,fin),s.2),((0:Int),())):StateT×(Int×Unit)) else(zS,(13,()))),()):=by
 have he:=hs.e
 intro n
 induction n with
 |zero =>
  intro i fd out fin hi ho hf
  refine ar (j:=1) (by kernel_rfl) ((PE _ _ _).trans ?_)
  have Tk:out.length=s.1.2.length:=by rw[ho];simp;omega
  have h1:¬((i:Int)<(out.length:Int)):=by omega
  have h2:out=fin:=by rw[ho,hf,List.take_of_length_le (by omega),List.drop_eq_nil_of_le (by omega),List.append_nil]
  have h3:EY o (s.1.2.drop i)=false:=by rw[List.drop_eq_nil_of_le (by omega)];simp[EY]
  subst h2
  rw[h3]
  simp only[h1,decide_false]
  cases fd<;>rfl
 |succ n ih =>
  intro i fd out fin hi ho hf
  refine ar (j:=1) (by kernel_rfl) ((PE _ _ _).trans ?_)
  have Tk:out.length=s.1.2.length:=by rw[ho];simp;omega
  have aF:i<s.1.2.length:=by omega
  have hx:s.1.2[i]? = some s.1.2[i]:=List.getElem?_eq_getElem aF
  have hg:out[i]? = some s.1.2[i]:=by rw[ho];exact EW _ _ _ _ hx
  have h2:s.1.2.drop i=s.1.2[i]::s.1.2.drop (i+1):=List.drop_eq_getElem_cons aF
  have wx:=aW (show i<out.length by omega)
  have hw:=aG aF (show s.1.2.length≤1073741824 by omega)
  rw[h2]
  generalize s.1.2[i]=y at *
  have hE:EY o (y::s.1.2.drop (i+1))=((mY o&&decide (y.1=aV o)) || EY o (s.1.2.drop (i+1))):=by
   unfold EY;cases mY o<;>simp
  rw[hE]
  refine ae wx ?_
  cases Qp:mY o
  ·have e1:jK o y=y:=by unfold jK;rw[if_neg (by simp[Qp])]
   rw[Bool.false_and,Bool.false_or]
   refine af Qp ?_
   rw[wI,hw]
   exact ih (i+1) fd out fin (by omega) (by rw[ho];exact qF _ _ _ _ hx e1) hf
  ·rw[Bool.true_and]
   refine ae Qp ?_
   refine ae (dq (eT i) wx) ?_
   refine aa hg ?_
   by_cases hq:y.1=aV o
   ·refine ae ((jn y.1 (aV o)).trans (decide_eq_true hq)) ?_
    rw[decide_eq_true hq,Bool.true_or,Bool.or_true,wI,hw]
    by_cases h7:o.1=7
    ·have e1:jK o y=(y.1,(nM o,y.2.2)):=by unfold jK;rw[if_pos ⟨Qp,hq⟩,if_pos h7]
     refine ae (show(o.1==(7:Int))=true by simp[h7]) ?_
     refine ae (dq (eT i) wx) ?_
     refine aa hg ?_
     have:=ih (i+1) true (out.set i (y.1,(nM o,y.2.2))) fin (by omega) (by rw[ho,←uZ _ _ _ _ hx,e1]) hf
     rw[Bool.true_or]at this;exact this
    ·have e1:jK o y=(y.1,(y.2.1,oN o)):=by unfold jK;rw[if_pos ⟨Qp,hq⟩,if_neg h7]
     refine af (show(o.1==(7:Int))=false by simp[h7]) ?_
     refine ae (dq (eT i) wx) ?_
     refine aa hg ?_
     have:=ih (i+1) true (out.set i (y.1,(y.2.1,oN o))) fin (by omega) (by rw[ho,←uZ _ _ _ _ hx,e1]) hf
     rw[Bool.true_or]at this;exact this
   ·have e1:jK o y=y:=by unfold jK;rw[if_neg (fun h=>hq h.2)]
    refine af ((jn y.1 (aV o)).trans (decide_eq_false hq)) ?_
    rw[decide_eq_false hq,Bool.false_or,wI,hw]
    exact ih (i+1) fd out fin (by omega) (by rw[ho];exact qF _ _ _ _ hx e1) hf
theorem WA(s:StateT)(o:ba)(hs:Sm s.1):∀(n i:Nat) (fd:Bool) (out fin:List ag),i+n=s.1.1.length→out=(s.1.1.take i).map (iH o)++s.1.1.drop i→fin=s.1.1.map (iH o) →
  LX G 86 Al Tryz.f86 qy (aN Tryz.prog 86 0) ((fd,((i:Int),())),(((s,()),((o,()),((([]:List ag),(([]:List ah),(([]:List aw),()))),((out,(s.1.2,())),())))),())) =
   some ((if((fd || Hw o (s.1.1.drop i)) || EY o s.1.2) then((((fin,s.1.2.map (jK o)),s.2),((0:Int),())):StateT×(Int×Unit)) else(zS,(13,()))),()):=by
 have hv:=hs.v
 intro n
 induction n with
 |zero =>
  intro i fd out fin hi ho hf
  refine ar (j:=0) (by kernel_rfl) ((PD _ _ _).trans ?_)
  have Tk:out.length=s.1.1.length:=by rw[ho];simp;omega
  have h1:¬((i:Int)<(out.length:Int)):=by omega
  have h2:out=fin:=by rw[ho,hf,List.take_of_length_le (by omega),List.drop_eq_nil_of_le (by omega),List.append_nil]
  have h3:Hw o (s.1.1.drop i)=false:=by rw[List.drop_eq_nil_of_le (by omega)];simp[Hw]
  subst h2
  rw[h3,Bool.or_false]
  simp only[h1,decide_false]
  exact Wz s o out hs s.1.2.length 0 fd s.1.2 (s.1.2.map (jK o)) (by omega) (by simp) rfl
 |succ n ih =>
  intro i fd out fin hi ho hf
  refine ar (j:=0) (by kernel_rfl) ((PD _ _ _).trans ?_)
  have Tk:out.length=s.1.1.length:=by rw[ho];simp;omega
  have aF:i<s.1.1.length:=by omega
  have hx:s.1.1[i]? = some s.1.1[i]:=List.getElem?_eq_getElem aF
  have hg:out[i]? = some s.1.1[i]:=by rw[ho];exact EW _ _ _ _ hx
  have h2:s.1.1.drop i=s.1.1[i]::s.1.1.drop (i+1):=List.drop_eq_getElem_cons aF
  have wx:=aW (show i<out.length by omega)
  have hw:=aG aF (show s.1.1.length≤1073741824 by omega)
  rw[h2]
  generalize s.1.1[i]=y at *
  have hE:Hw o (y::s.1.1.drop (i+1))=((!(mY o)&&decide (y.1=aV o)) || Hw o (s.1.1.drop (i+1))):=by
   unfold Hw;cases mY o<;>simp
  rw[hE]
  refine ae wx ?_
  cases Qp:mY o
  ·rw[Bool.not_false,Bool.true_and]
   refine ae (show(!(mY o))=true by rw[Qp];rfl) ?_
   refine ae (dq (eT i) wx) ?_
   refine aa hg ?_
   by_cases hq:y.1=aV o
   ·refine ae ((jn y.1 (aV o)).trans (decide_eq_true hq)) ?_
    rw[decide_eq_true hq,Bool.true_or,Bool.or_true,Bool.true_or,wI,hw]
    by_cases h7:o.1=7
    ·have e1:iH o y=(y.1,(y.2.1,(nM o,y.2.2.2))):=by unfold iH;rw[if_pos ⟨Qp,hq⟩,if_pos h7]
     refine ae (show(o.1==(7:Int))=true by simp[h7]) ?_
     refine ae (dq (eT i) wx) ?_
     refine aa hg ?_
     have:=ih (i+1) true (out.set i (y.1,(y.2.1,(nM o,y.2.2.2)))) fin (by omega) (by rw[ho,←uZ _ _ _ _ hx,e1]) hf
     rw[Bool.true_or,Bool.true_or]at this;exact this
    ·have e1:iH o y=(y.1,(y.2.1,(y.2.2.1,oN o))):=by unfold iH;rw[if_pos ⟨Qp,hq⟩,if_neg h7]
     refine af (show(o.1==(7:Int))=false by simp[h7]) ?_
     refine ae (dq (eT i) wx) ?_
     refine aa hg ?_
     have:=ih (i+1) true (out.set i (y.1,(y.2.1,(y.2.2.1,oN o)))) fin (by omega) (by rw[ho,←uZ _ _ _ _ hx,e1]) hf
     rw[Bool.true_or,Bool.true_or]at this;exact this
   ·have e1:iH o y=y:=by unfold iH;rw[if_neg (fun h=>hq h.2)]
    refine af ((jn y.1 (aV o)).trans (decide_eq_false hq)) ?_
    rw[decide_eq_false hq,Bool.false_or,wI,hw]
    exact ih (i+1) fd out fin (by omega) (by rw[ho];exact qF _ _ _ _ hx e1) hf
  ·have e1:iH o y=y:=by unfold iH;rw[if_neg (by simp[Qp])]
   rw[Bool.not_true,Bool.false_and,Bool.false_or]
   refine af (show(!(mY o))=false by rw[Qp];rfl) ?_
   rw[wI,hw]
   exact ih (i+1) fd out fin (by omega) (by rw[ho];exact qF _ _ _ _ hx e1) hf
theorem afG(hG:HG G)(s:StateT)(o:ba)(hs:Sm s.1):FX G 86 Al ((s,o,()),())=some (wu s o,()):=by
 have hv:=hs.v;have he:=hs.e
 refine au (fn:=Tryz.f86) (hG _ _ rfl) (by kernel_rfl) (by kernel_rfl) ((aeo _ _ _).trans ?_)
 refine aa (aax (hG _ _ rfl) s.1 (by omega) (by omega) (fun w hw=>by have:=hs.r w hw;omega)) ?_
 have:=WA (G:=G) s o hs s.1.1.length 0 false s.1.1 (s.1.1.map (iH o)) (by omega) (by simp) rfl
 rw[Bool.false_or]at this
 exact this
end Go.Vs
namespace Go.Vs
open Go.Proofs
variable {G:(f:FuncId)→(g:aJ)→Option (g.A→Option g.B)}
structure Bd(n:Nat)(d:aj):Prop where
 v:d.1.length≤n
 e:d.2.length≤n
 r:∀w∈d.1,w.2.1.length≤n
theorem Bd.sm{n:Nat}{d:aj}(h:Bd n d)(hn:n≤50000000):Sm d:=⟨by have:=h.v;omega,by have:=h.e;omega,fun w hw=>by have:=h.r w hw;omega⟩
theorem Bd.mono{n m:Nat}{d:aj}(h:Bd n d)(hm:n≤m):Bd m d:=⟨by have:=h.v;omega,by have:=h.e;omega,fun w hw=>by have:=h.r w hw;omega⟩
theorem fW(v:ag):∀l:List ag,(dW v l).length=l.length+1
 |[]=>rfl
 |w::r=>by unfold dW;split<;>simp[fW v r]
theorem kl(v:ah):∀l:List ah,(dp v l).length=l.length+1
 |[]=>rfl
 |w::r=>by unfold dp;split<;>simp[kl v r]
theorem lV{v w:ag}:∀{l:List ag},w∈dW v l↔w=v∨w∈l
 |[]=>by simp[dW]
 |u::r=>by
  unfold dW
  split
  ·simp
  ·simp only[List.mem_cons,lV (l:=r)]
   exact⟨fun h=>by rcases h with h|h|h<;>simp[h],fun h=>by rcases h with h|h|h<;>simp[h]⟩
theorem nN{v w:ah}:∀{l:List ah},w∈dp v l↔w=v∨w∈l
 |[]=>by simp[dp]
 |u::r=>by
  unfold dp
  split
  ·simp
  ·simp only[List.mem_cons,nN (l:=r)]
   exact⟨fun h=>by rcases h with h|h|h<;>simp[h],fun h=>by rcases h with h|h|h<;>simp[h]⟩
theorem xG(row:List ab)(a d:ab):(lT row a d).length≤row.length+1:=by
 unfold lT
 split
 ·rw[fU];omega
 ·rw[fU];simp;omega
theorem Hy(row:List ab)(d:ab):(gR row d).length≤row.length:=by
 unfold gR;rw[fU];exact List.length_filter_le _ _
theorem EZ(row:List ab)(a d:ab):(js row a d).length=row.length:=by
 unfold js;rw[fU];split<;>simp
theorem Bd.bJ{n:Nat}{d:aj}(h:Bd n d)(x:ID):(bJ d x).length≤n:=by
 unfold Vs.bJ
 cases hf:bp d x with
 |none=>simp[zV]
 |some v=>exact h.r v (List.mem_of_find?_eq_some hf)
theorem Bd.b6{n:Nat}{d:aj}(h:Bd n d){x:ID}{l:List ab}(hl:l.length≤n):Bd n (b6 d x l):=by
 refine⟨by simp[Vs.b6];exact h.v,h.e,fun w hw=>?_⟩
 obtain⟨u,hu,rfl⟩:=List.mem_map.1 hw
 unfold rC
 split
 ·exact hl
 ·exact h.r u hu
theorem Bd.bN{n:Nat}{d:aj}(h:Bd n d)(c:pn)(x:ab):Bd (n+1) (bN d c x) :=
 (h.mono (by omega)).b6 (by have:=xG (Vs.bJ d c.1) c.2 x;have:=h.bJ c.1;omega)
theorem Bd.aC{n:Nat}{d:aj}(h:Bd n d)(a x:ab):Bd n (aC d a x) :=
 h.b6 (by rw[EZ];exact h.bJ _)
theorem Bd.aB{n:Nat}{d:aj}(h:Bd n d)(x:ab):Bd n (aB d x) :=
 h.b6 (by have:=Hy (Vs.bJ d ((cm d x).getD zI)) x;have:=h.bJ ((cm d x).getD zI);omega)
theorem Bd.aS{n:Nat}{d:aj}(h:Bd n d)(v e:ID):Bd n (aS d v e) :=
 ⟨Nat.le_trans (List.length_filter_le _ _) h.v,Nat.le_trans (List.length_filter_le _ _) h.e,fun w hw=>h.r w (List.mem_filter.1 hw).1⟩
theorem Bd.dW{n:Nat}{d:aj}(h:Bd n d)(v:ag)(hv:v.2.1.length≤n+1):Bd (n+1) (dW v d.1,d.2) :=
 ⟨by rw[fW];have:=h.v;omega,by have:=h.e;simp only;omega,fun w hw=>by
  rcases lV.1 hw with rfl|hw
  ·exact hv
  ·have:=h.r w hw;omega⟩
theorem Bd.dp{n:Nat}{d:aj}(h:Bd n d)(v:ah):Bd (n+1) (d.1,dp v d.2) :=
 ⟨by have:=h.v;simp only;omega,by rw[kl];have:=h.e;omega,fun w hw=>by have:=h.r w hw;omega⟩
theorem xH(g:aw):∀l:List aw,(kV g l).length≤l.length+1
 |[]=>by simp[kV]
 |e::r=>by
  unfold kV
  split
  ·have:=List.length_filter_le (fun q:aw=>decide (q.1≠g.1)) (e::r)
   simp[mX];simp at this;omega
  ·have:=xH g r
   split<;>simp<;>omega
theorem eJ(l:List aw)(g:aw):(bK l g).length≤l.length+1:=by
 unfold bK;split
 ·omega
 ·exact xH g l
def fX(s:StateT)(o:ba):aj :=
 bN (bN (s.1.1,dp (aV o,(e0,0)) s.1.2) (aY s (oA o)).1 (aV o,0))
  (if(bp s.1 (oB o).1).isSome=true∧(oB o).2=(aV o,0) then oB o else(aY s (oB o)).1) (aV o,1)
def py(s:StateT)(o:ba):StateT×(Int×Unit) :=
 if(gD s.1 (aV o)).isSome=true then(zS,(12,()))
 else if 40≤s.1.2.length then(zS,(3,()))
 else if(aY s (oA o)).2.1≠0 then(zS,(13,()))
 else if(aY s (oB o)).2.1≠0 then(zS,(13,()))
 else if jg (fX s o)≠0 then(zS,(15,()))
 else((fX s o,s.2),(0,()))
theorem afH(hG:HG G){n:Nat}(s:StateT)(o:ba)(hs:Bd n s.1)(hn:n≤4000000)(hg:s.2.length≤50000000):FX G 82 O6 ((s,o,()),())=some (py s o,()):=by
  have hv:=hs.v;have he:=hs.e
  have Tw:=hs.sm (by omega)
  refine au (fn:=Tryz.f82) (hG _ _ rfl) (by kernel_rfl) (by kernel_rfl) ((aek _ _ _).trans ?_)
  refine aa (Tq (hG _ _ rfl) s.1 (aV o) (by omega)) ?_
  rw[show(pw zE (gD s.1 (aV o))).2.1=(gD s.1 (aV o)).isSome from gX _ _]
  unfold py
  cases h1:(gD s.1 (aV o)).isSome
  case true=>rw[if_pos rfl];rfl
  rw[if_neg (by simp)]
  by_cases h2:40≤s.1.2.length
  · have d:decide (((s.1.2.length:Nat):Int)≥40)=true:=decide_eq_true (by omega)
    rw[if_pos h2];simp only[d];rfl
  have d2:decide (((s.1.2.length:Nat):Int)≥40)=false:=decide_eq_false (by omega)
  rw[if_neg h2];simp only[d2]
  refine aa (aaI hG s (oA o) Tw hg) ?_
  refine aa (aaI hG s (oB o) Tw hg) ?_
  refine aa (Cw (hG _ _ rfl) s.1 (oB o).1 (by omega)) ?_
  rw[show(pw zV (bp s.1 (oB o).1)).2.1=(bp s.1 (oB o).1).isSome from gX _ _]
  have b1:=hs.dp (aV o,(e0,0))
  have b2:=b1.bN (aY s (oA o)).1 (aV o,0)
  have fin:∀(bc:pn),fX s o=bN (bN (s.1.1,dp (aV o,(e0,0)) s.1.2) (aY s (oA o)).1 (aV o,0)) bc (aV o,1) →
      (cond ((aY s (oA o)).2.1 != 0) (some (((([],[]),[]),((13:Int),())),()))
       (cond ((aY s (oB o)).2.1 != 0) (some (((([],[]),[]),((13:Int),())),()))
        ((FX G 115 xW ((s.1,((aV o,(e0,(0:Int))),())),())).bind fun(y5:((aj×Unit)×Unit)) =>
        (FX G 116 xX ((y5.1.1,((aY s (oA o)).1,((aV o,(0:Int)),()))),())).bind fun(y6:((aj×Unit)×Unit)) =>
        (FX G 116 xX ((y6.1.1,(bc,((aV o,(1:Int)),()))),())).bind fun(y7:((aj×Unit)×Unit)) =>
        (FX G 107 GB ((y7.1.1,()),())).bind fun(y8:((Int×Unit)×Unit)) =>
        cond (y8.1.1 != (0:Int))
         (some (((([],[]),[]),((15:Int),())),()))
         (some (((y7.1.1,s.2),((0:Int),())),())))):Option ((StateT×(Int×Unit))×Unit)) =
      some ((if(aY s (oA o)).2.1≠0 then(zS,(13,())) else if(aY s (oB o)).2.1≠0 then(zS,(13,())) else if jg (fX s o)≠0 then(zS,(15,())) else((fX s o,s.2),(0,())):StateT×(Int×Unit)),()):=by
    intro bc hbc
    by_cases h3:(aY s (oA o)).2.1=0
    case neg =>
      have d:((aY s (oA o)).2.1 != 0)=true:=by simp[h3]
      rw[if_pos h3,d];rfl
    rw[if_neg (by simp[h3]),show((aY s (oA o)).2.1 != 0)=false by simp[h3]]
    by_cases h4:(aY s (oB o)).2.1=0
    case neg =>
      have d:((aY s (oB o)).2.1 != 0)=true:=by simp[h4]
      rw[if_pos h4,d];rfl
    rw[if_neg (by simp[h4]),show((aY s (oB o)).2.1 != 0)=false by simp[h4]]
    simp only[cond_false]
    have b3:=b2.bN bc (aV o,1)
    rw[←hbc]at b3
    refine aa (aaz hG s.1 (aV o,(e0,0)) (by omega)) ?_
    refine aa (aaB hG _ _ _ (b1.sm (by omega))) ?_
    refine aa ((aaB hG (bN (s.1.1,dp (aV o,(e0,0)) s.1.2) (aY s (oA o)).1 (aV o,0)) bc (aV o,1) (b2.sm (by omega))).trans (congrArg (fun z:aj=>some ((z,()),())) hbc.symm)) ?_
    refine aa (afB hG (fX s o) (b3.sm (by omega)) (by have:=b3.e;omega)) ?_
    by_cases h5:jg (fX s o)=0
    · rw[if_neg (by simp[h5])]
      have d:(jg (fX s o) != 0)=false:=by simp[h5]
      simp only[d];rfl
    · rw[if_pos h5]
      have d:(jg (fX s o) != 0)=true:=by simp[h5]
      simp only[d];rfl
  have hb:((((oB o).2.1.1==o.2.1.1)&&((oB o).2.1.2==o.2.1.2))&&((oB o).2.2==(0:Int)))=decide ((oB o).2=(aV o,0)):=kD (oB o).2 (aV o,0)
  simp only[hb]
  cases h6:(bp s.1 (oB o).1).isSome
  · exact fin (aY s (oB o)).1 (by unfold fX;rw[if_neg (by simp[h6])])
  · by_cases h7:(oB o).2=(aV o,0)
    · have d:=decide_eq_true h7
      simp only[d]
      exact fin (oB o) (by unfold fX;rw[if_pos ⟨h6,h7⟩])
    · have d:=decide_eq_false h7
      simp only[d]
      exact fin (aY s (oB o)).1 (by unfold fX;rw[if_neg (by simp[h7])])
def E0(s:StateT)(o:ba):StateT×(Int×Unit) :=
 if(gD s.1 (aV o)).isSome=false then(zS,(13,()))
 else((aS (aB (aB s.1 (aV o,0)) (aV o,1)) zI (aV o),
  bK (bK s.2 ((aV o,0),c9 s.1 (aV o,0))) ((aV o,1),c9 s.1 (aV o,1))),(0,()))
theorem afI(hG:HG G){n:Nat}(s:StateT)(o:ba)(hs:Bd n s.1)(hn:n≤4000000)(hg:s.2.length≤5000000):FX G 83 O7 ((s,o,()),())=some (E0 s o,()):=by
 have hv:=hs.v;have he:=hs.e
 have Tw:=hs.sm (by omega)
 refine au (fn:=Tryz.f83) (hG _ _ rfl) (by kernel_rfl) (by kernel_rfl) ((ael _ _ _).trans ?_)
 refine aa (Tq (hG _ _ rfl) s.1 (aV o) (by omega)) ?_
 rw[show(pw zE (gD s.1 (aV o))).2.1=(gD s.1 (aV o)).isSome from gX _ _]
 unfold E0
 cases h1:(gD s.1 (aV o)).isSome
 case false=>rw[if_pos rfl];rfl
 rw[if_neg (by simp)]
 have b1:=hs.aB (aV o,0)
 have b2:=b1.aB (aV o,1)
 have l1:=eJ s.2 ((aV o,0),c9 s.1 (aV o,0))
 refine aa (aaE hG s.1 (aV o,0) Tw) ?_
 refine aa (Tu hG s.2 ((aV o,0),c9 s.1 (aV o,0)) (by omega)) ?_
 refine aa (aaE hG s.1 (aV o,1) Tw) ?_
 refine aa (Tu hG (bK s.2 ((aV o,0),c9 s.1 (aV o,0))) ((aV o,1),c9 s.1 (aV o,1)) (by omega)) ?_
 refine aa (aaD hG s.1 (aV o,0) Tw) ?_
 refine aa (aaD hG (aB s.1 (aV o,0)) (aV o,1) (b1.sm (by omega))) ?_
 exact aa (Ts (hG _ _ rfl) (aB (aB s.1 (aV o,0)) (aV o,1)) zI (aV o) (by have:=b2.v;omega) (by have:=b2.e;omega)) rfl
def IB(o:ba):ab:=(aV o,IntKind.wrap .i64 (1-Int.tmod (oN o) 2))
def Ft(o:ba):ab:=(aZ o,IntKind.wrap .i64 (Int.tdiv (oN o) 2))
def Qq(s:StateT)(o:ba):aj :=
 (dW (eO o,(cI [IB o,Ft o],(e0,0))) (aC s.1 (IB o) (ao (Ft o))).1,dp (aZ o,(e0,0)) (aC s.1 (IB o) (ao (Ft o))).2)
def lW(s:StateT)(o:ba):StateT×(Int×Unit) :=
 if(gD s.1 (aV o)).isSome=false then(zS,(13,()))
 else if(bp s.1 (eO o)).isSome=true then(zS,(12,()))
 else if(gD s.1 (aZ o)).isSome=true then(zS,(12,()))
 else if 24≤s.1.1.length then(zS,(3,()))
 else if 40≤s.1.2.length then(zS,(3,()))
 else((Qq s o,s.2),(0,()))
theorem afJ(hG:HG G){n:Nat}(s:StateT)(o:ba)(hs:Bd n s.1)(hn:n≤4000000):FX G 84 O8 ((s,o,()),())=some (lW s o,()):=by
 have hv:=hs.v;have he:=hs.e
 have Tw:=hs.sm (by omega)
 refine au (fn:=Tryz.f84) (hG _ _ rfl) (by kernel_rfl) (by kernel_rfl) ((aem _ _ _).trans ?_)
 refine aa (Tq (hG _ _ rfl) s.1 (aV o) (by omega)) ?_
 rw[show(pw zE (gD s.1 (aV o))).2.1=(gD s.1 (aV o)).isSome from gX _ _]
 unfold lW
 cases h1:(gD s.1 (aV o)).isSome
 case false=>rw[if_pos rfl];rfl
 rw[if_neg (by simp)]
 refine aa (Cw (hG _ _ rfl) s.1 (eO o) (by omega)) ?_
 rw[show(pw zV (bp s.1 (eO o))).2.1=(bp s.1 (eO o)).isSome from gX _ _]
 refine aa (Tq (hG _ _ rfl) s.1 (aZ o) (by omega)) ?_
 rw[show(pw zE (gD s.1 (aZ o))).2.1=(gD s.1 (aZ o)).isSome from gX _ _]
 cases h2:(bp s.1 (eO o)).isSome
 case true=>rw[if_pos rfl];rfl
 rw[if_neg (by simp)]
 cases h3:(gD s.1 (aZ o)).isSome
 case true=>rw[if_pos rfl];rfl
 rw[if_neg (by simp)]
 by_cases h4:24≤s.1.1.length
 ·have d:decide (((s.1.1.length:Nat):Int)≥24)=true:=decide_eq_true (by omega)
  rw[if_pos h4];simp only[d];rfl
 have d4:decide (((s.1.1.length:Nat):Int)≥24)=false:=decide_eq_false (by omega)
 rw[if_neg h4]
 by_cases h5:40≤s.1.2.length
 ·have d:decide (((s.1.2.length:Nat):Int)≥40)=true:=decide_eq_true (by omega)
  rw[if_pos h5];simp only[d4,d];rfl
 have d5:decide (((s.1.2.length:Nat):Int)≥40)=false:=decide_eq_false (by omega)
 rw[if_neg h5]
 simp only[d4,d5]
 have d6:((2:Int)==0)=false:=rfl
 simp only[d6]
 have b1:=hs.aC (IB o) (ao (Ft o))
 have b2:=b1.dp (aZ o,(e0,0))
 refine aa (Wt (hG _ _ rfl) (Ft o)) ?_
 refine aa (aaC hG s.1 (IB o) (ao (Ft o)) Tw) ?_
 refine aa (aaz hG (aC s.1 (IB o) (ao (Ft o))) (aZ o,(e0,0)) (by have:=b1.e;omega)) ?_
 refine aa (Hr hG [IB o,Ft o] (by simp)) ?_
 exact aa (aay hG ((aC s.1 (IB o) (ao (Ft o))).1,dp (aZ o,(e0,0)) (aC s.1 (IB o) (ao (Ft o))).2) (eO o,(cI [IB o,Ft o],(e0,0))) (Nat.le_trans b1.v (by omega))) rfl
end Go.Vs
namespace Go.Vs
open Go.Proofs
variable {G:(f:FuncId)→(g:aJ)→Option (g.A→Option g.B)}
def pP(a b:ab)(i:Int):ab:=if(b.1,i)=ao b then a else zD
def Hz(g:List aw)(a b:ab):List aw:=bK (bK g ((b.1,0),pP a b 0)) ((b.1,1),pP a b 1)
def JG(s:StateT)(o:ba)(a b:ab):aj:=aS (aC (aS s.1 (aV o) zI) (ao b) a) zI b.1
theorem afK(hG:HG G)(g:List aw)(a b:ab)(d:aj)(hg:g.length≤5000000) :
  LX G 85 xV Tryz.f85 lP (aN Tryz.prog 85 0) ((g,((0:Int),())),(((([]:List ag),(([]:List ah),(([]:List aw),()))),((a,()),((b,()),((ao b,()),((d,()),()))))),()))=some (((d,Hz g a b),((0:Int),())),()):=by
 have l2:∀g2:List aw,LX G 85 xV Tryz.f85 lP (aN Tryz.prog 85 0) ((g2,((2:Int),())),(((([]:List ag),(([]:List ah),(([]:List aw),()))),((a,()),((b,()),((ao b,()),((d,()),()))))),()))=some (((d,g2),((0:Int),())),()):=fun g2 =>
  ar (j:=0) (by kernel_rfl) ((PC _ _ _).trans (af rfl rfl))
 have step:∀(i:Int) (g1:List aw) (r:(StateT×(Int×Unit))×Unit),i<2→g1.length≤5000001→LX G 85 xV Tryz.f85 lP (aN Tryz.prog 85 0) ((bK g1 ((b.1,i),pP a b i),(IntKind.wrap .i64 (i+1),())),(((([]:List ag),(([]:List ah),(([]:List aw),()))),((a,()),((b,()),((ao b,()),((d,()),()))))),()))=some r →
   LX G 85 xV Tryz.f85 lP (aN Tryz.prog 85 0) ((g1,(i,())),(((([]:List ag),(([]:List ah),(([]:List aw),()))),((a,()),((b,()),((ao b,()),((d,()),()))))),()))=some r:=fun i g1 r hi hg1 h=>by
  refine ar (j:=0) (by kernel_rfl) ((PC _ _ _).trans ?_)
  refine ae (decide_eq_true hi) ?_
  unfold pP at h
  by_cases he:((b.1,i):ab)=ao b
  ·rw[if_pos he]at h
   refine ae ((kD (b.1,i) (ao b)).trans (decide_eq_true he)) ?_
   refine aa (Tu hG g1 ((b.1,i),a) (by omega)) ?_
   exact h
  ·rw[if_neg he]at h
   refine af ((kD (b.1,i) (ao b)).trans (decide_eq_false he)) ?_
   refine aa (Tu hG g1 ((b.1,i),zD) (by omega)) ?_
   exact h
 have a1:=eJ g ((b.1,0),pP a b 0)
 refine step 0 g _ (by omega) (by omega) ?_
 refine step 1 _ _ (by omega) (by omega) ?_
 exact l2 _
def jX(s:StateT)(o:ba)(r0 r1:ab):StateT×(Int×Unit) :=
 if r0.1=r1.1 then(zS,(14,()))
 else if r0.1=aZ o then((JG s o r1 r0,Hz s.2 r1 r0),(0,()))
 else if r1.1=aZ o then((JG s o r0 r1,Hz s.2 r0 r1),(0,()))
 else(zS,(14,()))
def kW(s:StateT)(o:ba):StateT×(Int×Unit):=match bp s.1 (aV o) with
 |none=>(zS,(13,()))
 |some v=>match v.2.1 with
  |[r0,r1]=>jX s o r0 r1
  |_=>(zS,(14,()))
theorem afL(hG:HG G){n:Nat}(s:StateT)(o:ba)(hs:Bd n s.1)(hn:n≤4000000)(hg:s.2.length≤5000000):FX G 85 xV ((s,o,()),())=some (kW s o,()):=by
  have hv:=hs.v;have he:=hs.e
  have Tw:=hs.sm (by omega)
  refine au (fn:=Tryz.f85) (hG _ _ rfl) (by kernel_rfl) (by kernel_rfl) ((aen _ _ _).trans ?_)
  refine aa (Cw (hG _ _ rfl) s.1 (aV o) (by omega)) ?_
  unfold kW
  cases hf:bp s.1 (aV o) with
  |none=>rfl
  |some v =>
    refine af (show(!true)=false from rfl) ?_
    have two:∀(a b:ab) (r:Option ((StateT×(Int×Unit))×Unit)),r=some (((JG s o a b,Hz s.2 a b),((0:Int),())),()) →
        ((FX G 121 Cq ((b,()),())).bind fun(y8:((ab×Unit)×Unit)) =>
         (FX G 81 oO ((s.1,(aV o,(zI,()))),())).bind fun(y9:((aj×Unit)×Unit)) =>
         (FX G 120 GD ((y9.1.1,(y8.1.1,(a,()))),())).bind fun(oR:((aj×Unit)×Unit)) =>
         (FX G 81 oO ((oR.1.1,(zI,(b.1,()))),())).bind fun(mg:((aj×Unit)×Unit)) =>
         LX G 85 xV Tryz.f85 lP (aN Tryz.prog 85 0) ((s.2,((0:Int),())),(((([]:List ag),(([]:List ah),(([]:List aw),()))),((a,()),((b,()),((y8.1.1,()),((mg.1.1,()),()))))),())))=r:=fun a b r hr=>by
      subst hr
      have b1:=hs.aS (aV o) zI
      have b2:=b1.aC (ao b) a
      refine aa (Wt (hG _ _ rfl) b) ?_
      refine aa (Ts (hG _ _ rfl) s.1 (aV o) zI (by omega) (by omega)) ?_
      refine aa (aaC hG (aS s.1 (aV o) zI) (ao b) a (b1.sm (by omega))) ?_
      refine aa (Ts (hG _ _ rfl) (aC (aS s.1 (aV o) zI) (ao b) a) zI b.1 (by have:=b2.v;omega) (by have:=b2.e;omega)) ?_
      exact afK hG s.2 a b (JG s o a b) hg
    obtain⟨vi,ring,vr⟩:=v
    by_cases hl:ring.length=2
    case neg =>
      refine ae (show((((ring.length:Nat):Int)) != 2)=true by simp;omega) ?_
      match ring,hl with
      |[],_=>rfl
      |[_],_=>rfl
      |[_,_],h=>exact absurd rfl h
      |_::_::_::_,_=>rfl
    match ring,hl with
    |[r0,r1],_ =>
      refine af (show((((2:Nat):Int)) != 2)=false from rfl) ?_
      refine aa (show aX [r0,r1] 0=some r0 from rfl) ?_
      refine aa (show aX [r0,r1] 1=some r1 from rfl) ?_
      show _=some (jX s o r0 r1,())
      unfold jX
      by_cases h1:r0.1=r1.1
      · rw[if_pos h1]
        exact ae ((jn r0.1 r1.1).trans (decide_eq_true h1)) rfl
      rw[if_neg h1]
      refine af ((jn r0.1 r1.1).trans (decide_eq_false h1)) ?_
      refine aa (show aX [r0,r1] 0=some r0 from rfl) ?_
      refine aa (show aX [r0,r1] 1=some r1 from rfl) ?_
      by_cases h2:r0.1=aZ o
      · rw[if_pos h2]
        refine ae ((jn r0.1 (aZ o)).trans (decide_eq_true h2)) ?_
        refine aa (show aX [r0,r1] 1=some r1 from rfl) ?_
        refine aa (show aX [r0,r1] 0=some r0 from rfl) ?_
        refine af (by rw[show((r0.1.1==(aZ o).1)&&(r0.1.2==(aZ o).2))=true from(jn r0.1 (aZ o)).trans (decide_eq_true h2)];rfl) ?_
        exact two r1 r0 _ rfl
      rw[if_neg h2]
      refine af ((jn r0.1 (aZ o)).trans (decide_eq_false h2)) ?_
      by_cases h3:r1.1=aZ o
      · rw[if_pos h3]
        refine af (by rw[show((r1.1.1==(aZ o).1)&&(r1.1.2==(aZ o).2))=true from(jn r1.1 (aZ o)).trans (decide_eq_true h3)];rfl) ?_
        exact two r0 r1 _ rfl
      · rw[if_neg h3]
        exact ae (by rw[show((r1.1.1==(aZ o).1)&&(r1.1.2==(aZ o).2))=false from(jn r1.1 (aZ o)).trans (decide_eq_false h3)];rfl) rfl
def pz(s:StateT)(o:ba):StateT×(Int×Unit) :=
 if(bp s.1 (aV o)).isSome=true then(zS,(12,())) else if 24≤s.1.1.length then(zS,(3,())) else(((dW (aV o,([],(e0,0))) s.1.1,s.1.2),s.2),(0,()))
def xI(s:StateT)(o:ba):StateT×(Int×Unit):=match bp s.1 (aV o) with
 |none=>(zS,(13,()))
 |some v=>if 0<v.2.1.length then(zS,(14,())) else((aS s.1 (aV o) zI,s.2),(0,()))
def kX(s:StateT)(o:ba):StateT×(Int×Unit) :=
 if cf o≠0 then(zS,(cf o,()))
 else if o.1=1 then pz s o else if o.1=2 then xI s o else if o.1=3 then py s o else if o.1=4 then E0 s o else if o.1=5 then lW s o else if o.1=6 then kW s o else wu s o
theorem afM(hG:HG G){n:Nat}(s:StateT)(o:ba)(hs:Bd n s.1)(hn:n≤4000000)(hg:s.2.length≤5000000)(ht:tw o):FX G 45 O2 ((s,o,()),())=some (kX s o,()):=by
 have hv:=hs.v;have he:=hs.e
 refine au (fn:=Tryz.f45) (hG _ _ rfl) (by kernel_rfl) (by kernel_rfl) ((adU _ _ _).trans ?_)
 refine aa (aaM hG o ht) ?_
 unfold kX
 by_cases h0:cf o=0
 case neg =>
  rw[if_pos h0]
  exact ae (show(cf o != 0)=true by simp[h0]) rfl
 rw[if_neg (by simp[h0])]
 refine af (show(cf o != 0)=false by simp[h0]) ?_
 refine aa (Cw (hG _ _ rfl) s.1 (aV o) (by omega)) ?_
 by_cases h1:o.1=1
 ·rw[if_pos h1]
  refine ae (show(o.1==(1:Int))=true by simp[h1]) ?_
  rw[show(pw zV (bp s.1 (aV o))).2.1=(bp s.1 (aV o)).isSome from gX _ _]
  unfold pz
  cases hf:(bp s.1 (aV o)).isSome
  ·rw[if_neg (by simp)]
   refine af rfl ?_
   by_cases h4:24≤s.1.1.length
   ·rw[if_pos h4]
    exact ae (decide_eq_true (show((s.1.1.length:Nat):Int)≥24 by omega)) rfl
   ·rw[if_neg h4]
    refine af (decide_eq_false (show ¬((s.1.1.length:Nat):Int)≥24 by omega)) ?_
    exact aa (aay hG s.1 (aV o,([],(e0,0))) (by omega)) rfl
  ·rw[if_pos rfl];rfl
 rw[if_neg h1]
 refine af (show(o.1==(1:Int))=false by simp[h1]) ?_
 by_cases h2:o.1=2
 ·rw[if_pos h2]
  refine ae (show(o.1==(2:Int))=true by simp[h2]) ?_
  unfold xI
  cases hf:bp s.1 (aV o) with
  |none=>rfl
  |some v =>
   refine af (show(!true)=false from rfl) ?_
   by_cases h4:0<v.2.1.length
   ·show _=some ((if 0<v.2.1.length then(zS,(14,())) else((aS s.1 (aV o) zI,s.2),(0,())):StateT×(Int×Unit)),())
    rw[if_pos h4]
    exact ae (decide_eq_true (show((v.2.1.length:Nat):Int)>0 by omega)) rfl
   ·show _=some ((if 0<v.2.1.length then(zS,(14,())) else((aS s.1 (aV o) zI,s.2),(0,())):StateT×(Int×Unit)),())
    rw[if_neg h4]
    refine af (decide_eq_false (show ¬((v.2.1.length:Nat):Int)>0 by omega)) ?_
    exact aa (Ts (hG _ _ rfl) s.1 (aV o) zI (by omega) (by omega)) rfl
 rw[if_neg h2]
 refine af (show(o.1==(2:Int))=false by simp[h2]) ?_
 by_cases h3:o.1=3
 ·rw[if_pos h3]
  refine ae (show(o.1==(3:Int))=true by simp[h3]) ?_
  exact aa (afH hG s o hs hn (by omega)) rfl
 rw[if_neg h3]
 refine af (show(o.1==(3:Int))=false by simp[h3]) ?_
 by_cases h4:o.1=4
 ·rw[if_pos h4]
  refine ae (show(o.1==(4:Int))=true by simp[h4]) ?_
  exact aa (afI hG s o hs hn hg) rfl
 rw[if_neg h4]
 refine af (show(o.1==(4:Int))=false by simp[h4]) ?_
 by_cases h5:o.1=5
 ·rw[if_pos h5]
  refine ae (show(o.1==(5:Int))=true by simp[h5]) ?_
  exact aa (afJ hG s o hs hn) rfl
 rw[if_neg h5]
 refine af (show(o.1==(5:Int))=false by simp[h5]) ?_
 by_cases h6:o.1=6
 ·rw[if_pos h6]
  refine ae (show(o.1==(6:Int))=true by simp[h6]) ?_
  exact aa (afL hG s o hs hn hg) rfl
 rw[if_neg h6]
 refine af (show(o.1==(6:Int))=false by simp[h6]) ?_
 exact aa (afG hG s o (hs.sm (by omega))) rfl
structure Bs(n:Nat)(s:StateT):Prop where
 d:Bd n s.1
 g:s.2.length≤n
theorem Bs.mono{n m:Nat}{s:StateT}(h:Bs n s)(hm:n≤m):Bs m s:=⟨h.d.mono hm,by have:=h.g;omega⟩
theorem Bs.zero(n:Nat):Bs n zS:=⟨⟨Nat.zero_le _,Nat.zero_le _,fun w hw=>by simp[zS]at hw⟩,Nat.zero_le _⟩
theorem Bs.one{n:Nat}{s:StateT}(h:Bs n s)(o:ba):Bs (n+3) (kX s o).1:=by
 have h1:=h.d;have h2:=h.g
 unfold kX
 split
 ·exact Bs.zero _
 split
 ·unfold pz;split
  ·exact Bs.zero _
  split
  ·exact Bs.zero _
  ·exact⟨(h1.dW _ (by simp)).mono (by omega),by simp only;omega⟩
 split
 ·unfold xI
  cases bp s.1 (aV o) with
  |none=>exact Bs.zero _
  |some v =>
   simp only
   split
   ·exact Bs.zero _
   ·exact⟨(h1.aS _ _).mono (by omega),by simp only;omega⟩
 split
 ·unfold py
  split;· exact Bs.zero _
  split;· exact Bs.zero _
  split;· exact Bs.zero _
  split;· exact Bs.zero _
  split;· exact Bs.zero _
  exact⟨by unfold fX;exact((h1.dp _).bN _ _).bN _ _,by simp only;omega⟩
 split
 ·unfold E0
  split;· exact Bs.zero _
  refine⟨(((h1.aB _).aB _).aS _ _).mono (by omega),?_⟩
  have a1:=eJ s.2 ((aV o,0),c9 s.1 (aV o,0))
  have a2:=eJ (bK s.2 ((aV o,0),c9 s.1 (aV o,0))) ((aV o,1),c9 s.1 (aV o,1))
  simp only;omega
 split
 ·unfold lW
  split;· exact Bs.zero _
  split;· exact Bs.zero _
  split;· exact Bs.zero _
  split;· exact Bs.zero _
  split;· exact Bs.zero _
  refine⟨?_,by simp only;omega⟩
  have b2:=((h1.aC (IB o) (ao (Ft o))).dp (aZ o,(e0,0)))
  exact(b2.dW (eO o,(cI [IB o,Ft o],(e0,0))) (by simp[fU])).mono (by omega)
 split
 ·unfold kW
  have key:∀a b:ab,Bs (n+3) (JG s o a b,Hz s.2 a b):=fun a b=>by
   refine⟨(((h1.aS _ _).aC _ _).aS _ _).mono (by omega),?_⟩
   have a1:=eJ s.2 ((b.1,0),pP a b 0)
   have a2:=eJ (bK s.2 ((b.1,0),pP a b 0)) ((b.1,1),pP a b 1)
   simp only[Hz];omega
  split
  ·exact Bs.zero _
  ·split
   ·unfold jX
    split;· exact Bs.zero _
    split;· exact key _ _
    split;· exact key _ _
    exact Bs.zero _
   ·exact Bs.zero _
 ·unfold wu
  split
  ·refine⟨⟨by simp;have:=h1.v;omega,by simp;have:=h1.e;omega,fun w hw=>?_⟩,by simp only;omega⟩
   obtain⟨u,hu,rfl⟩:=List.mem_map.1 hw
   have hr:=h1.r u hu
   have e:(iH o u).2.1=u.2.1:=by unfold iH;split<;>(try split)<;>rfl
   rw[e];omega
  ·exact Bs.zero _
def E1:List ba→StateT→StateT×(Int×Unit)
 |[],s=>(s,(0,()))
 |o::r,s=>if(kX s o).2.1≠0 then(zS,(kX s o).2) else E1 r (kX s o).1
def cP(s:StateT)(l:List ba):StateT×(Int×Unit):=if ck l≠0 then(zS,(ck l,())) else E1 l s
theorem Bs.go{l:List ba}:∀{n:Nat} {s:StateT},Bs n s→Bs (n+3*l.length) (E1 l s).1:=by
 induction l with
 |nil=>intro n s h;exact h.mono (by simp)
 |cons o r ih =>
  intro n s h
  unfold E1
  split
  ·exact Bs.zero _
  ·exact(ih (h.one o)).mono (by simp;omega)
theorem afN(hG:HG G){n:Nat}(s:StateT)(l:List ba)(hs:Bs n s)(hn:n+3*l.length≤3000000)(ht:∀o∈l,tw o):FX G 49 Gu ((s,l,()),())=some (cP s l,()):=by
 refine au (fn:=Tryz.f49) (hG _ _ rfl) (by kernel_rfl) (by kernel_rfl) ((aea _ _ _).trans ?_)
 refine aa (afF hG l ht) ?_
 unfold cP
 by_cases h0:ck l=0
 case neg =>
  rw[if_pos h0]
  exact ae (show(ck l != 0)=true by simp[h0]) rfl
 rw[if_neg (by simp[h0])]
 refine af (show(ck l != 0)=false by simp[h0]) ?_
 have key:=bU l (fun i (s:StateT)=>LX G 49 Gu Tryz.f49 AL (aN Tryz.prog 49 0) ((i,()),(((s,()),((l,()),((([]:List ag),(([]:List ah),(([]:List aw),()))),()))),()))) (fun(r:List ba) (s:StateT)=>(E1 r s,()))
  (fun m s=>∃k,Bs k s∧k+3*m≤3000000)
  (fun s _=>by
   exact ar (j:=0) (by kernel_rfl) ((Pv _ _ _).trans (af (dn _) rfl)))
  (fun i o r s hi hx Bg hk ih=>by
   obtain⟨k,hb,hk⟩:=hk
   refine ar (j:=0) (by kernel_rfl) ((Pv _ _ _).trans ?_)
   refine ae (aW hi) ?_
   refine aa (aI hx) ?_
   have hbd:=hb.d;have hbg:=hb.g
   refine aa (afM hG s o hbd (by omega) (by omega) (ht o (List.mem_of_getElem? hx))) ?_
   rw[E1]
   by_cases h1:(kX s o).2.1=0
   ·rw[if_neg (by simp[h1])]
    refine af (show((kX s o).2.1 != 0)=false by simp[h1]) ?_
    rw[wI,aG hi (show l.length≤1073741824 by omega)]
    exact ih (kX s o).1 ⟨k+3,hb.one o,by omega⟩
   ·rw[if_pos h1]
    exact ae (show((kX s o).2.1 != 0)=true by simp[h1]) rfl)
  s ⟨n,hs,hn⟩
 exact key
def iI(s:StateT)(l:List ba):StateT:=if(cP s l).2.1≠0 then s else(cP s l).1
theorem afO(hG:HG G){n:Nat}(s:StateT)(l:List ba)(hs:Bs n s)(hn:n+3*l.length≤3000000)(ht:∀o∈l,tw o):FX G 64 O4 ((s,l,()),())=some ((iI s l,()),()):=by
 refine au (fn:=Tryz.f64) (hG _ _ rfl) (by kernel_rfl) (by kernel_rfl) ((aec _ _ _).trans ?_)
 refine aa (afN hG s l hs hn ht) ?_
 unfold iI
 by_cases h1:(cP s l).2.1=0
 ·rw[if_neg (by simp[h1])]
  exact af (show((cP s l).2.1 != 0)=false by simp[h1]) rfl
 ·rw[if_pos h1]
  exact ae (show((cP s l).2.1 != 0)=true by simp[h1]) rfl
theorem Bs.try{n:Nat}{s:StateT}{l:List ba}(h:Bs n s):Bs (n+3*l.length) (iI s l):=by
 unfold iI
 split
 ·exact h.mono (by omega)
 ·unfold cP
  split
  ·exact Bs.zero _
  ·exact h.go
def lX:Nat→List (List ba)→StateT→StateT
 |0,_,s=>s
 |_+1,[],s=>s
 |n+1,l::r,s=>lX n r (iI s (l.take 8))
def Bi(l:List (List ba)):StateT:=lX 30 l zS
theorem Bs.reach:∀(m:Nat) (l:List (List ba)) {n:Nat} {s:StateT},Bs n s→Bs (n+24*m) (lX m l s)
 |0,_,n,s,h=>by simpa[lX] using h
 |m+1,[],n,s,h=>h.mono (by omega)
 |m+1,l::r,n,s,h=>by
  rw[lX]
  have h1:Bs (n+3*(l.take 8).length) (iI s (l.take 8)):=h.try
  have hl:(l.take 8).length≤8:=by simp;omega
  exact(Bs.reach m r (h1.mono (show n+3*(l.take 8).length≤n+24 by omega))).mono (by omega)
theorem Bs.K8(l:List (List ba)):Bs 720 (Bi l):=(Bs.reach 30 l (Bs.zero 0)).mono (by omega)
end Go.Vs
