/- What the document's reference computes, written plainly, the second part. -/
import Derived.Test.YtpldhjjpeldkaaaGreatRefA
set_option linter.unusedVariables false
set_option linter.unusedSimpArgs false
namespace Go.Vs
open Go.Proofs
variable {G:(f:FuncId)→(g:aL)→Option (g.A→Option g.B)}
def yQ(x:ID):List aj→Int→Int
 | [],_ => -1
 | v::r,i=>if v.1=x then i else yQ x r (i+1)
theorem Ji(x:ID):∀(l:List aj) (i:Int),0≤i→yQ x l i = -1∨(i≤yQ x l i∧yQ x l i<i+l.length)
 | [],i,_=>.inl rfl
 | v::r,i,h=>by
  unfold yQ
  split
  ·right;simp;omega
  ·rcases Ji x r (i+1) (by omega) with h | h
   ·exact .inl h
   ·right;simp;omega
theorem ZF(hG:G 55 Cr=none)(d:ai)(x:ID)(hs:Sm d):FX G 55 Cr ((d,x,()),())=some ((yQ x d.1 0,()),()):=by
 have hv:=hs.v
 refine aC (fn:=Tryz.f55) hG (by kernel_rfl) (by kernel_rfl) ((adR _ _ _).trans ?_)
 have loop:∀(n i:Nat),i+n=d.1.length→LX G 55 Cr Tryz.f55 AT (aX Tryz.prog 55 0) (((i:Int),()),(((d,()),((x,()),())),()))=some ((yQ x (d.1.drop i) i,()),()):=by
  intro n
  induction n with
  | zero =>
   intro i hi
   refine aw (j:=0) (by kernel_rfl) ((OV _ _ _).trans ?_)
   have h1:¬((i:Int)<(d.1.length:Int)):=by omega
   have h2:d.1.drop i=[]:=List.drop_eq_nil_of_le (by omega)
   rw [h2]
   simp only [h1,decide_false];rfl
  | succ n ih =>
   intro i hi
   refine aw (j:=0) (by kernel_rfl) ((OV _ _ _).trans ?_)
   have aE:i<d.1.length:=by omega
   have h2:d.1.drop i=d.1[i]::d.1.drop (i+1):=List.drop_eq_getElem_cons aE
   have hx:d.1[i]? = some d.1[i]:=List.getElem?_eq_getElem aE
   rw [h2,yQ]
   simp only [ba aE,aD hx,Option.bind_some,wq,aO aE (show d.1.length≤1073741824 by omega)]
   by_cases he:d.1[i].1=x
   ·have d1:=decide_eq_true he
    rw [if_pos he];simp only [d1];rfl
   ·have d1:=decide_eq_false he
    rw [if_neg he];simp only [d1];exact ih (i+1) (by omega)
 exact loop d.1.length 0 (by omega)
def ET(d:ai)(e:au)(out:List Int):List Int :=
 let a:=yQ ((cS d (e.1,0)).getD zI) d.1 0
 let b:=yQ ((cS d (e.1,1)).getD zI) d.1 0
 if 0≤a∧0≤b then (out.set a.toNat (min (out.getD a.toNat 0) (out.getD b.toNat 0))).set b.toNat (min (out.getD a.toNat 0) (out.getD b.toNat 0)) else out
def js(d:ai):List au→List Int→List Int
 | [],out=>out
 | e::r,out=>js d r (ET d e out)
def G5(d:ai):Nat→List Int→List Int
 | 0,out=>out
 | n+1,out=>G5 d n (js d d.2 out)
def Cv(n:Nat):List Int:=(List.range n).map fun i=>((i:Nat):Int)
def labels(d:ai):List Int:=G5 d d.1.length (Cv d.1.length)
theorem G6(d:ai)(e:au)(out:List Int):(ET d e out).length=out.length:=by
 unfold ET;simp only;split<;>simp
theorem uQ(d:ai):∀(l:List au) (out:List Int),(js d l out).length=out.length
 | [],out=>rfl
 | e::r,out=>by rw [js,uQ d r,G6]
theorem xM(d:ai):∀(n:Nat) (out:List Int),(G5 d n out).length=out.length
 | 0,out=>rfl
 | n+1,out=>by rw [G5,xM d n,uQ]
theorem Cw(d:ai):(labels d).length=d.1.length:=by unfold labels;rw [xM];simp [Cv]
theorem VJ(hG:HG G)(d:ai)(hs:Sm d)(n:Int)(R:List Int→List Int)
  (hR:∀out:List Int,out.length=d.1.length→LX G 56 rN Tryz.f56 vW (aX Tryz.prog 56 1) ((IntKind.wrap .i64 (n+1),()),(((d,()),()),(out,())))=some ((R out,()),())) :
  ∀out:List Int,out.length=d.1.length→LX G 56 rN Tryz.f56 qv (aX Tryz.prog 56 2) ((n,((0:Int),())),(((d,()),()),(out,())))=some ((R (js d d.2 out),()),()):=by
 have hv:=hs.v;have he:=hs.e
 have loop:∀(m i:Nat) (out:List Int),i+m=d.2.length→out.length=d.1.length→LX G 56 rN Tryz.f56 qv (aX Tryz.prog 56 2) ((n,((i:Int),())),(((d,()),()),(out,())))=some ((R (js d (d.2.drop i) out),()),()):=by
  intro m
  induction m with
  | zero =>
   intro i out hi ho
   have h1:¬((i:Int)<(d.2.length:Int)):=by omega
   have h2:d.2.drop i=[]:=List.drop_eq_nil_of_le (by omega)
   rw [h2,js]
   refine aw (j:=2) (by kernel_rfl) ((OY _ _ _).trans ?_)
   simp only [h1,decide_false]
   exact hR out ho
  | succ m ih =>
   intro i out hi ho
   have aE:i<d.2.length:=by omega
   have h2:d.2.drop i=d.2[i]::d.2.drop (i+1):=List.drop_eq_getElem_cons aE
   have hx:d.2[i]? = some d.2[i]:=List.getElem?_eq_getElem aE
   rw [h2,js]
   generalize d.2[i]=e at *
   refine aw (j:=2) (by kernel_rfl) ((OY _ _ _).trans ?_)
   simp only [ba aE,aD hx,Option.bind_some,aO aE (show d.2.length≤1073741824 by omega)]
   refine aa (Sq hG d (e.1,0) (by omega) (fun w hw=>by have:=hs.r w hw;omega)) ?_
   refine aa (Sq hG d (e.1,1) (by omega) (fun w hw=>by have:=hs.r w hw;omega)) ?_
   rw [show (Cu zI (cS d (e.1,0))).1=(cS d (e.1,0)).getD zI from ER _ _,show (Cu zI (cS d (e.1,1))).1=(cS d (e.1,1)).getD zI from ER _ _]
   refine aa (ZF (hG _ _ rfl) d ((cS d (e.1,0)).getD zI) hs) ?_
   refine aa (ZF (hG _ _ rfl) d ((cS d (e.1,1)).getD zI) hs) ?_
   have hL:ET d e out=(if 0≤yQ ((cS d (e.1,0)).getD zI) d.1 0∧0≤yQ ((cS d (e.1,1)).getD zI) d.1 0 then (out.set (yQ ((cS d (e.1,0)).getD zI) d.1 0).toNat (min (out.getD (yQ ((cS d (e.1,0)).getD zI) d.1 0).toNat 0) (out.getD (yQ ((cS d (e.1,1)).getD zI) d.1 0).toNat 0))).set (yQ ((cS d (e.1,1)).getD zI) d.1 0).toNat (min (out.getD (yQ ((cS d (e.1,0)).getD zI) d.1 0).toNat 0) (out.getD (yQ ((cS d (e.1,1)).getD zI) d.1 0).toNat 0)) else out):=rfl
   have ha:=Ji ((cS d (e.1,0)).getD zI) d.1 0 (by omega)
   have hb:=Ji ((cS d (e.1,1)).getD zI) d.1 0 (by omega)
   generalize yQ ((cS d (e.1,0)).getD zI) d.1 0=a at *
   generalize yQ ((cS d (e.1,1)).getD zI) d.1 0=b at *
   by_cases h3:0≤a
   case neg =>
    have d3:decide (a≥0)=false:=decide_eq_false h3
    rw [hL,if_neg (by omega)]
    simp only [d3];exact ih (i+1) out (by omega) ho
   have d3:decide (a≥0)=true:=decide_eq_true h3
   by_cases h4:0≤b
   case neg =>
    have d4:decide (b≥0)=false:=decide_eq_false h4
    rw [hL,if_neg (by omega)]
    simp only [d3,d4];exact ih (i+1) out (by omega) ho
   have d4:decide (b≥0)=true:=decide_eq_true h4
   rw [if_pos ⟨h3,h4⟩] at hL
   have hal:a.toNat<out.length:=by omega
   have hbl:b.toNat<out.length:=by omega
   have xa:out[a.toNat]? = some out[a.toNat]:=List.getElem?_eq_getElem hal
   have xb:out[b.toNat]? = some out[b.toNat]:=List.getElem?_eq_getElem hbl
   have ga:out.getD a.toNat 0=out[a.toNat]:=by simp [List.getD,xa]
   have gb:out.getD b.toNat 0=out[b.toNat]:=by simp [List.getD,xb]
   rw [ga,gb] at hL
   generalize out[a.toNat]=p at *
   generalize out[b.toNat]=q at *
   have d5:decide ((0:Int)≤a)=true:=decide_eq_true h3
   have d6:decide ((0:Int)≤b)=true:=decide_eq_true h4
   have d7:decide (a<((out.length:Nat):Int))=true:=decide_eq_true (by omega)
   have d8:decide (b<((out.length:Nat):Int))=true:=decide_eq_true (by omega)
   have hbs:b.toNat<(out.set a.toNat (min p q)).length:=by simpa using hbl
   have d9:decide (b<(((out.set a.toNat (min p q)).length:Nat):Int))=true:=decide_eq_true (by simp;omega)
   have xs:(out.set a.toNat (min p q))[b.toNat]? = some (out.set a.toNat (min p q))[b.toNat]:=List.getElem?_eq_getElem hbs
   simp only [d3,d4,d5,d6,d7,d8,Bool.and_self,xa,xb,Option.bind_some,d9,xs]
   rw [hL]
   exact ih (i+1) ((out.set a.toNat (min p q)).set b.toNat (min p q)) (by omega) (by simp [ho])
 intro out ho
 exact loop d.2.length 0 out (by omega) ho
theorem aeQ(hG:HG G)(d:ai)(hs:Sm d):FX G 56 rN ((d,()),())=some ((labels d,()),()):=by
 have hv:=hs.v
 refine aC (fn:=Tryz.f56) (hG _ _ rfl) (by kernel_rfl) (by kernel_rfl) ((adS _ _ _).trans ?_)
 have l1:∀(n i:Nat) (out:List Int),i+n=d.1.length→out.length=d.1.length→LX G 56 rN Tryz.f56 vW (aX Tryz.prog 56 1) (((i:Int),()),(((d,()),()),(out,())))=some ((G5 d n out,()),()):=by
  intro n
  induction n with
  | zero =>
   intro i out hi ho
   refine aw (j:=1) (by kernel_rfl) ((OX _ _ _).trans ?_)
   have h1:¬((i:Int)<(d.1.length:Int)):=by omega
   simp only [h1,decide_false];rfl
  | succ n ih =>
   intro i out hi ho
   refine aw (j:=1) (by kernel_rfl) ((OX _ _ _).trans ?_)
   have aE:i<d.1.length:=by omega
   simp only [ba aE]
   exact VJ hG d hs (i:Int) (G5 d n) (fun out ho=>by rw [aO aE (show d.1.length≤1073741824 by omega)];exact ih (i+1) out (by omega) ho) out ho
 have l0:∀(n i:Nat) (out:List Int),i+n=d.1.length→out=Cv i→LX G 56 rN Tryz.f56 AU (aX Tryz.prog 56 0) (((i:Int),()),(((d,()),()),(out,())))=some ((labels d,()),()):=by
  intro n
  induction n with
  | zero =>
   intro i out hi ho
   refine aw (j:=0) (by kernel_rfl) ((OW _ _ _).trans ?_)
   have h1:¬((i:Int)<(d.1.length:Int)):=by omega
   have sM:i=d.1.length:=by omega
   subst sM
   simp only [h1,decide_false]
   have:=l1 d.1.length 0 out (by omega) (by rw [ho];simp [Cv])
   rw [ho] at this ⊢
   exact this
  | succ n ih =>
   intro i out hi ho
   refine aw (j:=0) (by kernel_rfl) ((OW _ _ _).trans ?_)
   have aE:i<d.1.length:=by omega
   have h6:bq out.length [(i:Int)].length=true:=fits (by rw [ho];simp [Cv];omega)
   simp only [ba aE,h6,aO aE (show d.1.length≤1073741824 by omega)]
   exact ih (i+1) (out++[(i:Int)]) (by omega) (by rw [ho];simp [Cv,List.range_succ])
 exact l0 d.1.length 0 [] (by omega) (by simp [Cv])
def oP:List Int→Int→Int→Int
 | [],_,n=>n
 | x::r,i,n=>oP r (i+1) (if x=i then IntKind.wrap .i64 (n+1) else n)
def eC(d:ai):Int:=oP (labels d) 0 0
theorem aeR(hG:HG G)(d:ai)(hs:Sm d):FX G 32 Gm ((d,()),())=some ((eC d,()),()):=by
 have hv:=hs.v
 have hl:=Cw d
 refine aC (fn:=Tryz.f32) (hG _ _ rfl) (by kernel_rfl) (by kernel_rfl) ((adI _ _ _).trans ?_)
 refine aa (aeQ hG d hs) ?_
 unfold eC
 generalize labels d=l at *
 have loop:∀(m i:Nat) (n:Int),i+m=l.length→LX G 32 Gm Tryz.f32 vU (aX Tryz.prog 32 0) ((n,((i:Int),())),((),(l,())))=some ((oP (l.drop i) i n,()),()):=by
  intro m
  induction m with
  | zero =>
   intro i n hi
   refine aw (j:=0) (by kernel_rfl) ((OS _ _ _).trans ?_)
   have h1:¬((i:Int)<(l.length:Int)):=by omega
   have h2:l.drop i=[]:=List.drop_eq_nil_of_le (by omega)
   rw [h2]
   simp only [h1,decide_false];rfl
  | succ m ih =>
   intro i n hi
   refine aw (j:=0) (by kernel_rfl) ((OS _ _ _).trans ?_)
   have aE:i<l.length:=by omega
   have h2:l.drop i=l[i]::l.drop (i+1):=List.drop_eq_getElem_cons aE
   have hx:l[i]? = some l[i]:=List.getElem?_eq_getElem aE
   rw [h2,oP]
   simp only [ba aE,jf,Bool.and_self,Int.toNat_natCast,hx,Option.bind_some,aO aE (show l.length≤1073741824 by omega)]
   by_cases he:l[i]=(i:Int)
   ·have d1:(l[i]==(i:Int))=true:=by simp [he]
    rw [if_pos he];simp only [d1];exact ih (i+1) _ (by omega)
   ·have d1:(l[i]==(i:Int))=false:=by simp [he]
    rw [if_neg he];simp only [d1];exact ih (i+1) _ (by omega)
 exact loop l.length 0 0 (by omega)
def qA:List aj→Int→Int
 | [],n=>n
 | v::r,n=>qA r (if v.2.1.length=0 then IntKind.wrap .i64 (n+1) else n)
def Bf(d:ai):Int:=qA d.1 ((((bK d).length:Nat)):Int)
theorem aeS(hG:HG G)(d:ai)(hs:Sm d)(he:d.2.length≤5000000):FX G 85 Gq ((d,()),())=some ((((d.1.length:Nat):Int),(((d.2.length:Nat):Int),(Bf d,(eC d,())))),()):=by
 have hv:=hs.v
 refine aC (fn:=Tryz.f85) (hG _ _ rfl) (by kernel_rfl) (by kernel_rfl) ((ad9 _ _ _).trans ?_)
 refine aa (aeO hG d hs he) ?_
 unfold Bf
 generalize (((bK d).length:Nat):Int)=f0
 have key:=c8 d.1 (fun i (n:Int)=>LX G 85 Gq Tryz.f85 wa (aX Tryz.prog 85 0) ((n,(i,())),(((d,()),()),()))) (fun (r:List aj) (n:Int)=>((((d.1.length:Nat):Int),(((d.2.length:Nat):Int),(qA r n,(eC d,())))),())) (fun _ _=>True)
  (fun n _=>by
   refine aw (j:=0) (by kernel_rfl) ((Pf _ _ _).trans ?_)
   simp only [je]
   exact aa (aeR hG d hs) rfl)
  (fun i y r n hi hx Fi _ ih=>by
   refine aw (j:=0) (by kernel_rfl) ((Pf _ _ _).trans ?_)
   simp only [ba hi,aD hx,Option.bind_some,aO hi (show d.1.length≤1073741824 by omega)]
   by_cases he:y.2.1.length=0
   ·have d1:((((y.2.1.length:Nat)):Int)==0)=true:=by simp [he]
    simp only [d1,qA,if_pos he];exact ih _ trivial
   ·have d1:((((y.2.1.length:Nat)):Int)==0)=false:=by simp;intro e;rw [e] at he;simp at he
    simp only [d1,qA,if_neg he];exact ih _ trivial)
  f0 trivial
 exact key
def bS(d:ai):Int:=IntKind.wrap .i64 (Int.tdiv (IntKind.wrap .i64 (IntKind.wrap .i64 (IntKind.wrap .i64 (IntKind.wrap .i64 (2 * eC d) - ((d.1.length:Nat):Int))+((d.2.length:Nat):Int)) - Bf d)) 2)
theorem ZG(hG:HG G)(d:ai)(hs:Sm d)(he:d.2.length≤5000000):FX G 64 OD ((d,()),())=some ((bS d,()),()):=by
 refine aC (fn:=Tryz.f64) (hG _ _ rfl) (by kernel_rfl) (by kernel_rfl) ((adZ _ _ _).trans ?_)
 exact aa (aeS hG d hs he) rfl
end Go.Vs
namespace Go.Vs
open Go.Proofs
variable {G:(f:FuncId)→(g:aL)→Option (g.A→Option g.B)}
theorem Ss{s:ByteArray}{i:Nat}{c:UInt8}(h:s.data.toList[i]? = some c):(if (0:Int)≤(i:Int) then s[Int.toNat (i:Int)]? else none)=some c:=by
 have hi:i<s.size:=by have:=(List.getElem?_eq_some_iff.1 h).1;simpa using this
 rw [if_pos (by omega),Int.toNat_natCast,getElem?_pos s i hi]
 have h2:=(List.getElem?_eq_some_iff.1 h).2
 rw [←h2]
 rfl
def ke(c:UInt8):Bool:=decide (32≤c.toNat)&&decide (c.toNat≤126)
def oQ(s:ByteArray):Bool:=s.data.toList.all ke&&decide (s.size≤16)
theorem ZH(hG:G 28 yf=none)(s:ByteArray)(hs:s.size≤100000000):FX G 28 yf ((s,()),())=some ((oQ s,()),()):=by
 refine aC (fn:=Tryz.f28) hG (by kernel_rfl) (by kernel_rfl) ((adF _ _ _).trans ?_)
 have hl:s.data.toList.length=s.size:=by simp
 have key:=c8 s.data.toList (fun i (_:Unit)=>LX G 28 yf Tryz.f28 AO (aX Tryz.prog 28 0) ((s,(i,())),((),()))) (fun (r:List UInt8) (_:Unit)=>((r.all ke&&decide (s.size≤16),()),())) (fun _ _=>True)
  (fun _ _=>by
   refine aw (j:=0) (by kernel_rfl) ((OQ _ _ _).trans ?_)
   rw [hl]
   have h2:decide (((s.size:Nat):Int)≤16)=decide (s.size≤16):=by
    rw [Bool.eq_iff_iff];simp;omega
   simp only [je,h2,List.all_nil,Bool.true_and];rfl)
  (fun i c r _ hi hx Fi _ ih=>by
   refine aw (j:=0) (by kernel_rfl) ((OQ _ _ _).trans ?_)
   rw [hl] at hi
   have hb:=Ss hx
   simp only [ba hi,hb,Option.bind_some,aO hi (show s.size≤1073741824 by omega)]
   by_cases h1:c.toNat<32
   ·have d1:decide (((c.toNat:Nat):Int)<32)=true:=decide_eq_true (by omega)
    have d2:ke c=false:=by unfold ke;simp;omega
    simp only [d1,List.all_cons,d2,Bool.false_and];rfl
   ·have d1:decide (((c.toNat:Nat):Int)<32)=false:=decide_eq_false (by omega)
    by_cases h2:126<c.toNat
    ·have d2:decide (((c.toNat:Nat):Int) > 126)=true:=decide_eq_true (by omega)
     have d3:ke c=false:=by unfold ke;simp;omega
     simp only [d1,d2,List.all_cons,d3,Bool.false_and];rfl
    ·have d2:decide (((c.toNat:Nat):Int) > 126)=false:=decide_eq_false (by omega)
     have d3:ke c=true:=by unfold ke;simp;omega
     simp only [d1,d2,List.all_cons,d3,Bool.true_and];exact ih () trivial)
  () trivial
 exact key
def nI(n:Int):Bool:=decide (-1099511627776≤n∧n≤1099511627776)
theorem ZI(hG:G 29 As=none)(n:Int):FX G 29 As ((n,()),())=some ((nI n,()),()):=by
 refine aC (fn:=Tryz.f29) hG (by kernel_rfl) (by kernel_rfl) ((adG _ _ _).trans ?_)
 show (cond (decide (n≥-1099511627776)) (some ((decide (n≤1099511627776),()),())) (some ((false,()),())):Option ((Bool×Unit)×Unit))=some ((nI n,()),())
 unfold nI
 by_cases h1 : -1099511627776≤n<;>simp [h1]
def G7(c:vf):Bool:=cK c.1&&(VB c.2 || decide (c.2=zD))
def ZJ:bW:=(0,(zI,(zI,(zI,(zC,(zC,(false,(e0,0))))))))
def G8(o:bW):bW :=
 if o.1=3 then (0,(zI,(o.2.2.1,(o.2.2.2.1,(zC,(zC,(o.2.2.2.2.2.2.1,o.2.2.2.2.2.2.2)))))))
 else if o.1=5 then (0,(zI,(zI,(zI,(o.2.2.2.2.1,(o.2.2.2.2.2.1,(o.2.2.2.2.2.2.1,(o.2.2.2.2.2.2.2.1,0))))))))
 else if o.1=6 then (0,(zI,(o.2.2.1,(zI,(o.2.2.2.2.1,(o.2.2.2.2.2.1,(o.2.2.2.2.2.2.1,o.2.2.2.2.2.2.2)))))))
 else if o.1=7 then (0,(zI,(o.2.2.1,(o.2.2.2.1,(o.2.2.2.2.1,(o.2.2.2.2.2.1,(false,(e0,o.2.2.2.2.2.2.2.2))))))))
 else if o.1=8 then (0,(zI,(o.2.2.1,(o.2.2.2.1,(o.2.2.2.2.1,(o.2.2.2.2.2.1,(false,(o.2.2.2.2.2.2.2.1,0))))))))
 else (0,(zI,(o.2.2.1,(o.2.2.2.1,(o.2.2.2.2.1,(o.2.2.2.2.2.1,(o.2.2.2.2.2.2.1,o.2.2.2.2.2.2.2)))))))
def Cx(x y:bW):Bool :=
 (x.1==y.1)&&(((x.2.1.1==y.2.1.1)&&(x.2.1.2==y.2.1.2))&&(((x.2.2.1.1==y.2.2.1.1)&&(x.2.2.1.2==y.2.2.1.2))&&(((x.2.2.2.1.1==y.2.2.2.1.1)&&(x.2.2.2.1.2==y.2.2.2.1.2)) &&
  ((((x.2.2.2.2.1.1.1==y.2.2.2.2.1.1.1)&&(x.2.2.2.2.1.1.2==y.2.2.2.2.1.1.2))&&(((x.2.2.2.2.1.2.1.1==y.2.2.2.2.1.2.1.1)&&(x.2.2.2.2.1.2.1.2==y.2.2.2.2.1.2.1.2))&&(x.2.2.2.2.1.2.2==y.2.2.2.2.1.2.2))) &&
  ((((x.2.2.2.2.2.1.1.1==y.2.2.2.2.2.1.1.1)&&(x.2.2.2.2.2.1.1.2==y.2.2.2.2.2.1.1.2))&&(((x.2.2.2.2.2.1.2.1.1==y.2.2.2.2.2.1.2.1.1)&&(x.2.2.2.2.2.1.2.1.2==y.2.2.2.2.2.1.2.1.2))&&(x.2.2.2.2.2.1.2.2==y.2.2.2.2.2.1.2.2))) &&
  ((x.2.2.2.2.2.2.1==y.2.2.2.2.2.2.1)&&((x.2.2.2.2.2.2.2.1==y.2.2.2.2.2.2.2.1)&&(x.2.2.2.2.2.2.2.2==y.2.2.2.2.2.2.2.2))))))))
theorem Bg(x y:bW):Cx x y=true↔x=y:=by
 obtain ⟨x1,⟨x2,x3⟩,⟨x4,x5⟩,⟨x6,x7⟩,⟨⟨x8,x9⟩,⟨x10,x11⟩,x12⟩,⟨⟨x13,x14⟩,⟨x15,x16⟩,x17⟩,x18,x19,x20⟩:=x
 obtain ⟨y1,⟨y2,y3⟩,⟨y4,y5⟩,⟨y6,y7⟩,⟨⟨y8,y9⟩,⟨pQ,mn⟩,pz⟩,⟨⟨lA,Dd⟩,⟨uJ,TT⟩,Vl⟩,W9,TU,GL⟩:=y
 unfold Cx
 simp only [VA]
 simp [and_assoc]
theorem aJ{α:Type}{c b:Bool}{x y r:α}(h:c=b)(k:cond (not b) x y=r):cond (not c) x y=r:=by subst h;exact k
def dd(o:bW):Int :=
 if o.1<1 then 1 else if 8<o.1 then 1 else if cK o.2.1=false then 1 else if Cx (G8 o) ZJ=false then 1
 else if o.1=3 then (if G7 o.2.2.2.2.1=true∧G7 o.2.2.2.2.2.1=true then 0 else 1)
 else if o.1=5 then (if cK o.2.2.1=true∧cK o.2.2.2.1=true∧0≤o.2.2.2.2.2.2.2.2∧o.2.2.2.2.2.2.2.2≤3 then 0 else 1)
 else if o.1=6 then (if cK o.2.2.2.1=true then 0 else 1)
 else if o.1=8 then (if nI o.2.2.2.2.2.2.2.2=true then 0 else 1)
 else if o.1=7 then (if oQ o.2.2.2.2.2.2.2.1=true then 0 else 4)
 else 0
def I1(n:Int):Option ((Int×Unit)×Unit):=some ((n,()),())
def EU(o:bW):Prop:=o.2.2.2.2.2.2.2.1.size≤100000000
def nJ:List bW→Int
 | []=>0
 | o::r=>if dd o≠0 then dd o else nJ r
def kF(l:List bW):Int:=if 1≤l.length∧l.length≤6 then nJ l else 3
theorem aeT(hG:G 34 Ew=none)(l:List bW):FX G 34 Ew ((l,()),())=some ((l.take 8,()),()):=by
 refine aC (fn:=Tryz.f34) hG (by kernel_rfl) (by kernel_rfl) ((adJ _ _ _).trans ?_)
 by_cases h:8<l.length
 ·have d1:decide (((l.length:Nat):Int) > 8)=true:=decide_eq_true (by omega)
  have d2:aT l.length 0 8=true:=by simp [aT];omega
  simp only [d1,d2];rfl
 ·have d1:decide (((l.length:Nat):Int) > 8)=false:=decide_eq_false (by omega)
  rw [List.take_of_length_le (by omega)]
  simp only [d1];rfl
end Go.Vs
namespace Go.Vs
open Go.Proofs
variable {G:(f:FuncId)→(g:aL)→Option (g.A→Option g.B)}
theorem af{α:Type}{c:Bool}{x y r:α}(h:c=true)(k:x=r):cond c x y=r:=by subst h;exact k
theorem ag{α:Type}{c:Bool}{x y r:α}(h:c=false)(k:y=r):cond c x y=r:=by subst h;exact k
theorem dM{a b:Bool}(h:a=true)(k:b=true):(a&&b)=true:=by rw [h,k];rfl
def zS:StateT:=(([],[]),[])
abbrev bB(o:bW):ID:=o.2.1
abbrev fG(o:bW):ID:=o.2.2.1
abbrev bP(o:bW):ID:=o.2.2.2.1
abbrev oA(o:bW):vf:=o.2.2.2.2.1
abbrev oB(o:bW):vf:=o.2.2.2.2.2.1
abbrev wx(o:bW):Bool:=o.2.2.2.2.2.2.1
abbrev uR(o:bW):ByteArray:=o.2.2.2.2.2.2.2.1
abbrev oN(o:bW):Int:=o.2.2.2.2.2.2.2.2
def lW(o:bW)(w:aj):aj:=if wx o=false∧w.1=bB o then (if o.1=7 then (w.1,(w.2.1,(uR o,w.2.2.2))) else (w.1,(w.2.1,(w.2.2.1,oN o)))) else w
def qB(o:bW)(w:au):au:=if wx o=true∧w.1=bB o then (if o.1=7 then (w.1,(uR o,w.2.2)) else (w.1,(w.2.1,oN o))) else w
def ZK(o:bW)(l:List aj):Bool := !(wx o)&&l.any fun w=>decide (w.1=bB o)
def ZL(o:bW)(l:List au):Bool:=wx o&&l.any fun w=>decide (w.1=bB o)
def wy(s:StateT)(o:bW):StateT×(Int×Unit) :=
 if ZK o s.1.1 || ZL o s.1.2 then (((s.1.1.map (lW o),s.1.2.map (qB o)),s.2),(0,())) else (zS,(13,()))
end Go.Vs
namespace Go.Vs
open Go.Proofs
variable {G:(f:FuncId)→(g:aL)→Option (g.A→Option g.B)}
structure Bd(n:Nat)(d:ai):Prop where
 v:d.1.length≤n
 e:d.2.length≤n
 r:∀w∈d.1,w.2.1.length≤n
theorem Bd.sm{n:Nat}{d:ai}(h:Bd n d)(hn:n≤50000000):Sm d:=⟨by have:=h.v;omega,by have:=h.e;omega,fun w hw=>by have:=h.r w hw;omega⟩
theorem Bd.mono{n m:Nat}{d:ai}(h:Bd n d)(hm:n≤m):Bd m d:=⟨by have:=h.v;omega,by have:=h.e;omega,fun w hw=>by have:=h.r w hw;omega⟩
theorem fU(v:aj):∀l:List aj,(c7 v l).length=l.length+1
 | []=>rfl
 | w::r=>by unfold c7;split<;>simp [fU v r]
theorem my(v:au):∀l:List au,(fb v l).length=l.length+1
 | []=>rfl
 | w::r=>by unfold fb;split<;>simp [my v r]
theorem lF{v w:aj}:∀{l:List aj},w∈c7 v l↔w=v∨w∈l
 | []=>by simp [c7]
 | u::r=>by
  unfold c7
  split
  ·simp
  ·simp only [List.mem_cons,lF (l:=r)]
   exact ⟨fun h=>by rcases h with h | h | h<;>simp [h],fun h=>by rcases h with h | h | h<;>simp [h]⟩
theorem uU{v w:au}:∀{l:List au},w∈fb v l↔w=v∨w∈l
 | []=>by simp [fb]
 | u::r=>by
  unfold fb
  split
  ·simp
  ·simp only [List.mem_cons,uU (l:=r)]
   exact ⟨fun h=>by rcases h with h | h | h<;>simp [h],fun h=>by rcases h with h | h | h<;>simp [h]⟩
theorem xN(row:List ae)(a d:ae):(pN row a d).length≤row.length+1:=by
 unfold pN
 split
 ·rw [fS];omega
 ·rw [fS];simp;omega
theorem G9(row:List ae)(d:ae):(iJ row d).length≤row.length:=by
 unfold iJ;rw [fS];exact List.length_filter_le _ _
theorem EV(row:List ae)(a d:ae):(fT row a d).length=row.length:=by
 unfold fT;rw [fS];split<;>simp
theorem Bd.cv{n:Nat}{d:ai}(h:Bd n d)(x:ID):(cv d x).length≤n:=by
 unfold Vs.cv
 cases hf:bZ d x with
 | none=>simp [zV]
 | some v=>exact h.r v (List.mem_of_find?_eq_some hf)
theorem Bd.cf{n:Nat}{d:ai}(h:Bd n d){x:ID}{l:List ae}(hl:l.length≤n):Bd n (cf d x l):=by
 refine ⟨by simp [Vs.cf];exact h.v,h.e,fun w hw => ?_⟩
 obtain ⟨u,hu,rfl⟩:=List.mem_map.1 hw
 unfold wu
 split
 ·exact hl
 ·exact h.r u hu
theorem Bd.cI{n:Nat}{d:ai}(h:Bd n d)(c:vf)(x:ae):Bd (n+1) (cI d c x) :=
 (h.mono (by omega)).cf (by have:=xN (Vs.cv d c.1) c.2 x;have:=h.cv c.1;omega)
theorem Bd.az{n:Nat}{d:ai}(h:Bd n d)(a x:ae):Bd n (az d a x) :=
 h.cf (by rw [EV];exact h.cv _)
theorem Bd.aH{n:Nat}{d:ai}(h:Bd n d)(x:ae):Bd n (aH d x) :=
 h.cf (by have:=G9 (Vs.cv d ((cS d x).getD zI)) x;have:=h.cv ((cS d x).getD zI);omega)
theorem Bd.aN{n:Nat}{d:ai}(h:Bd n d)(v e:ID):Bd n (aN d v e) :=
 ⟨Nat.le_trans (List.length_filter_le _ _) h.v,Nat.le_trans (List.length_filter_le _ _) h.e,fun w hw=>h.r w (List.mem_filter.1 hw).1⟩
theorem Bd.c7{n:Nat}{d:ai}(h:Bd n d)(v:aj)(hv:v.2.1.length≤n+1):Bd (n+1) (c7 v d.1,d.2) :=
 ⟨by rw [fU];have:=h.v;omega,by have:=h.e;simp only;omega,fun w hw=>by
  rcases lF.1 hw with rfl | hw
  ·exact hv
  ·have:=h.r w hw;omega⟩
theorem Bd.fb{n:Nat}{d:ai}(h:Bd n d)(v:au):Bd (n+1) (d.1,fb v d.2) :=
 ⟨by have:=h.v;simp only;omega,by rw [my];have:=h.e;omega,fun w hw=>by have:=h.r w hw;omega⟩
theorem xO(g:aM):∀l:List aM,(pO g l).length≤l.length+1
 | []=>by simp [pO]
 | e::r=>by
  unfold pO
  split
  ·have:=List.length_filter_le (fun q:aM=>decide (q.1≠g.1)) (e::r)
   simp [rR];simp at this;omega
  ·have:=xO g r
   split<;>simp<;>omega
theorem jg(l:List aM)(g:aM):(bU l g).length≤l.length+1:=by
 unfold bU;split
 ·omega
 ·exact xO g l
def Dk(s:StateT)(o:bW):ai :=
 cI (cI (s.1.1,fb (bB o,(e0,0)) s.1.2) (bY s (oA o)).1 (bB o,0))
  (if (bZ s.1 (oB o).1).isSome=true∧(oB o).2=(bB o,0) then oB o else (bY s (oB o)).1) (bB o,1)
def uV(s:StateT)(o:bW):StateT×(Int×Unit) :=
 if (lV s.1 (bB o)).isSome=true then (zS,(12,()))
 else if 40≤s.1.2.length then (zS,(3,()))
 else if (bY s (oA o)).2.1≠0 then (zS,(13,()))
 else if (bY s (oB o)).2.1≠0 then (zS,(13,()))
 else if bS (Dk s o)≠0 then (zS,(15,()))
 else ((Dk s o,s.2),(0,()))
def Hc(s:StateT)(o:bW):StateT×(Int×Unit) :=
 if (lV s.1 (bB o)).isSome=false then (zS,(13,()))
 else ((aN (aH (aH s.1 (bB o,0)) (bB o,1)) zI (bB o),
  bU (bU s.2 ((bB o,0),eW s.1 (bB o,0))) ((bB o,1),eW s.1 (bB o,1))),(0,()))
def Rm(o:bW):ae:=(bB o,IntKind.wrap .i64 (1 - Int.tmod (oN o) 2))
def Nh(o:bW):ae:=(bP o,IntKind.wrap .i64 (Int.tdiv (oN o) 2))
def PJ(s:StateT)(o:bW):ai :=
 (c7 (fG o,(b5 [Rm o,Nh o],(e0,0))) (az s.1 (Rm o) (ah (Nh o))).1,fb (bP o,(e0,0)) (az s.1 (Rm o) (ah (Nh o))).2)
def mR(s:StateT)(o:bW):StateT×(Int×Unit) :=
 if (lV s.1 (bB o)).isSome=false then (zS,(13,()))
 else if (bZ s.1 (fG o)).isSome=true then (zS,(12,()))
 else if (lV s.1 (bP o)).isSome=true then (zS,(12,()))
 else if 24≤s.1.1.length then (zS,(3,()))
 else if 40≤s.1.2.length then (zS,(3,()))
 else ((PJ s o,s.2),(0,()))
end Go.Vs
namespace Go.Vs
open Go.Proofs
variable {G:(f:FuncId)→(g:aL)→Option (g.A→Option g.B)}
def tn(a b:ae)(i:Int):ae:=if (b.1,i)=ah b then a else zD
def Jj(g:List aM)(a b:ae):List aM:=bU (bU g ((b.1,0),tn a b 0)) ((b.1,1),tn a b 1)
def H6(s:StateT)(o:bW)(a b:ae):ai:=aN (az (aN s.1 (bB o) zI) (ah b) a) zI b.1
def kG(s:StateT)(o:bW)(r0 r1:ae):StateT×(Int×Unit) :=
 if r0.1=r1.1 then (zS,(14,()))
 else if r0.1=bP o then ((H6 s o r1 r0,Jj s.2 r1 r0),(0,()))
 else if r1.1=bP o then ((H6 s o r0 r1,Jj s.2 r0 r1),(0,()))
 else (zS,(14,()))
def mz(s:StateT)(o:bW):StateT×(Int×Unit):=match bZ s.1 (bB o) with
 | none=>(zS,(13,()))
 | some v=>match v.2.1 with
  | [r0,r1]=>kG s o r0 r1
  | _=>(zS,(14,()))
def sy(s:StateT)(o:bW):StateT×(Int×Unit) :=
 if (bZ s.1 (bB o)).isSome=true then (zS,(12,())) else if 24≤s.1.1.length then (zS,(3,())) else (((c7 (bB o,([],(e0,0))) s.1.1,s.1.2),s.2),(0,()))
def xQ(s:StateT)(o:bW):StateT×(Int×Unit):=match bZ s.1 (bB o) with
 | none=>(zS,(13,()))
 | some v=>if 0<v.2.1.length then (zS,(14,())) else ((aN s.1 (bB o) zI,s.2),(0,()))
def wz(s:StateT)(o:bW):StateT×(Int×Unit) :=
 if dd o≠0 then (zS,(dd o,()))
 else if o.1=1 then sy s o else if o.1=2 then xQ s o else if o.1=3 then uV s o else if o.1=4 then Hc s o else if o.1=5 then mR s o else if o.1=6 then mz s o else wy s o
structure Bs(n:Nat)(s:StateT):Prop where
 d:Bd n s.1
 g:s.2.length≤n
theorem Bs.mono{n m:Nat}{s:StateT}(h:Bs n s)(hm:n≤m):Bs m s:=⟨h.d.mono hm,by have:=h.g;omega⟩
theorem Bs.zero(n:Nat):Bs n zS:=⟨⟨Nat.zero_le _,Nat.zero_le _,fun w hw=>by simp [zS] at hw⟩,Nat.zero_le _⟩
theorem Bs.one{n:Nat}{s:StateT}(h:Bs n s)(o:bW):Bs (n+3) (wz s o).1:=by
 have h1:=h.d;have h2:=h.g
 unfold wz
 split
 ·exact Bs.zero _
 split
 ·unfold sy;split
  ·exact Bs.zero _
  split
  ·exact Bs.zero _
  ·exact ⟨(h1.c7 _ (by simp)).mono (by omega),by simp only;omega⟩
 split
 ·unfold xQ
  cases bZ s.1 (bB o) with
  | none=>exact Bs.zero _
  | some v =>
   simp only
   split
   ·exact Bs.zero _
   ·exact ⟨(h1.aN _ _).mono (by omega),by simp only;omega⟩
 split
 ·unfold uV
  split;· exact Bs.zero _
  split;· exact Bs.zero _
  split;· exact Bs.zero _
  split;· exact Bs.zero _
  split;· exact Bs.zero _
  exact ⟨by unfold Dk;exact ((h1.fb _).cI _ _).cI _ _,by simp only;omega⟩
 split
 ·unfold Hc
  split;· exact Bs.zero _
  refine ⟨(((h1.aH _).aH _).aN _ _).mono (by omega),?_⟩
  have a1:=jg s.2 ((bB o,0),eW s.1 (bB o,0))
  have a2:=jg (bU s.2 ((bB o,0),eW s.1 (bB o,0))) ((bB o,1),eW s.1 (bB o,1))
  simp only;omega
 split
 ·unfold mR
  split;· exact Bs.zero _
  split;· exact Bs.zero _
  split;· exact Bs.zero _
  split;· exact Bs.zero _
  split;· exact Bs.zero _
  refine ⟨?_,by simp only;omega⟩
  have b2:=((h1.az (Rm o) (ah (Nh o))).fb (bP o,(e0,0)))
  exact (b2.c7 (fG o,(b5 [Rm o,Nh o],(e0,0))) (by simp [fS])).mono (by omega)
 split
 ·unfold mz
  have key:∀a b:ae,Bs (n+3) (H6 s o a b,Jj s.2 a b):=fun a b=>by
   refine ⟨(((h1.aN _ _).az _ _).aN _ _).mono (by omega),?_⟩
   have a1:=jg s.2 ((b.1,0),tn a b 0)
   have a2:=jg (bU s.2 ((b.1,0),tn a b 0)) ((b.1,1),tn a b 1)
   simp only [Jj];omega
  split
  ·exact Bs.zero _
  ·split
   ·unfold kG
    split;· exact Bs.zero _
    split;· exact key _ _
    split;· exact key _ _
    exact Bs.zero _
   ·exact Bs.zero _
 ·unfold wy
  split
  ·refine ⟨⟨by simp;have:=h1.v;omega,by simp;have:=h1.e;omega,fun w hw => ?_⟩,by simp only;omega⟩
   obtain ⟨u,hu,rfl⟩:=List.mem_map.1 hw
   have hr:=h1.r u hu
   have e:(lW o u).2.1=u.2.1:=by unfold lW;split<;>(try split)<;>rfl
   rw [e];omega
  ·exact Bs.zero _
def Mq:List bW→StateT→StateT×(Int×Unit)
 | [],s=>(s,(0,()))
 | o::r,s=>if (wz s o).2.1≠0 then (zS,(wz s o).2) else Mq r (wz s o).1
def fC(s:StateT)(l:List bW):StateT×(Int×Unit):=if kF l≠0 then (zS,(kF l,())) else Mq l s
theorem Bs.go{l:List bW}:∀{n:Nat} {s:StateT},Bs n s→Bs (n+3 * l.length) (Mq l s).1:=by
 induction l with
 | nil=>intro n s h;exact h.mono (by simp)
 | cons o r ih =>
  intro n s h
  unfold Mq
  split
  ·exact Bs.zero _
  ·exact (ih (h.one o)).mono (by simp;omega)
def mS(s:StateT)(l:List bW):StateT:=if (fC s l).2.1≠0 then s else (fC s l).1
theorem Bs.try{n:Nat}{s:StateT}{l:List bW}(h:Bs n s):Bs (n+3 * l.length) (mS s l):=by
 unfold mS
 split
 ·exact h.mono (by omega)
 ·unfold fC
  split
  ·exact Bs.zero _
  ·exact h.go
def lG:Nat→List (List bW)→StateT→StateT
 | 0,_,s=>s
 | _+1,[],s=>s
 | n+1,l::r,s=>lG n r (mS s (l.take 8))
def Bh(l:List (List bW)):StateT:=lG 30 l zS
theorem Bs.reach:∀(m:Nat) (l:List (List bW)) {n:Nat} {s:StateT},Bs n s→Bs (n+24 * m) (lG m l s)
 | 0,_,n,s,h=>by simpa [lG] using h
 | m+1,[],n,s,h=>h.mono (by omega)
 | m+1,l::r,n,s,h=>by
  rw [lG]
  have h1:Bs (n+3 * (l.take 8).length) (mS s (l.take 8)):=h.try
  have hl:(l.take 8).length≤8:=by simp;omega
  exact (Bs.reach m r (h1.mono (show n+3 * (l.take 8).length≤n+24 by omega))).mono (by omega)
theorem Bs.KM(l:List (List bW)):Bs 720 (Bh l):=(Bs.reach 30 l (Bs.zero 0)).mono (by omega)
end Go.Vs
