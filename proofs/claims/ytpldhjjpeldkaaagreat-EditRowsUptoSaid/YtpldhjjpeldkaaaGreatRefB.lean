/- What the document's reference computes, written plainly, the second part. -/
import Derived.Test.YtpldhjjpeldkaaaGreatRefA
set_option linter.unusedVariables false
set_option linter.unusedSimpArgs false
namespace Go.Vs
open Go.Proofs
variable {G:(f:FuncId)→(g:aJ)→Option (g.A→Option g.B)}
def xT(x:ID):List ah→Int→Int
 | [],_ => -1
 | v::r,i=>if v.1=x then i else xT x r (i+1)
theorem IA(x:ID):∀(l:List ah) (i:Int),0≤i→xT x l i = -1∨(i≤xT x l i∧xT x l i<i+l.length)
 | [],i,_=>.inl rfl
 | v::r,i,h=>by
  unfold xT
  split
  ·right;simp;omega
  ·rcases IA x r (i+1) (by omega) with h | h
   ·exact .inl h
   ·right;simp;omega
theorem YF(hG:G 55 BM=none)(d:ai)(x:ID)(hs:Sm d):FX G 55 BM ((d,x,()),())=some ((xT x d.1 0,()),()):=by
 have hv:=hs.v
 refine ar (fn:=Tryz.f55) hG (by kernel_rfl) (by kernel_rfl) ((acv _ _ _).trans ?_)
 have loop:∀(n i:Nat),i+n=d.1.length→LX G 55 BM Tryz.f55 Ac (aP Tryz.prog 55 0) (((i:Int),()),(((d,()),((x,()),())),()))=some ((xT x (d.1.drop i) i,()),()):=by
  intro n
  induction n with
  | zero =>
   intro i hi
   refine au (j:=0) (by kernel_rfl) ((N8 _ _ _).trans ?_)
   have h1:¬((i:Int)<(d.1.length:Int)):=by omega
   have h2:d.1.drop i=[]:=List.drop_eq_nil_of_le (by omega)
   rw [h2]
   simp only [h1,decide_false];rfl
  | succ n ih =>
   intro i hi
   refine au (j:=0) (by kernel_rfl) ((N8 _ _ _).trans ?_)
   have aH:i<d.1.length:=by omega
   have h2:d.1.drop i=d.1[i]::d.1.drop (i+1):=List.drop_eq_getElem_cons aH
   have hx:d.1[i]? = some d.1[i]:=List.getElem?_eq_getElem aH
   rw [h2,xT]
   simp only [aX aH,aK hx,Option.bind_some,iY,aI aH (show d.1.length≤1073741824 by omega)]
   by_cases he:d.1[i].1=x
   ·have d1:=decide_eq_true he
    rw [if_pos he];simp only [d1];rfl
   ·have d1:=decide_eq_false he
    rw [if_neg he];simp only [d1];exact ih (i+1) (by omega)
 exact loop d.1.length 0 (by omega)
def Eb(d:ai)(e:af)(out:List Int):List Int :=
 let a:=xT ((cp d (e.1,0)).getD zI) d.1 0
 let b:=xT ((cp d (e.1,1)).getD zI) d.1 0
 if 0≤a∧0≤b then (out.set a.toNat (min (out.getD a.toNat 0) (out.getD b.toNat 0))).set b.toNat (min (out.getD a.toNat 0) (out.getD b.toNat 0)) else out
def jf(d:ai):List af→List Int→List Int
 | [],out=>out
 | e::r,out=>jf d r (Eb d e out)
def Gr(d:ai):Nat→List Int→List Int
 | 0,out=>out
 | n+1,out=>Gr d n (jf d d.2 out)
def BS(n:Nat):List Int:=(List.range n).map fun i=>((i:Nat):Int)
def labels(d:ai):List Int:=Gr d d.1.length (BS d.1.length)
theorem Gs(d:ai)(e:af)(out:List Int):(Eb d e out).length=out.length:=by
 unfold Eb;simp only;split<;>simp
theorem uo(d:ai):∀(l:List af) (out:List Int),(jf d l out).length=out.length
 | [],out=>rfl
 | e::r,out=>by rw [jf,uo d r,Gs]
theorem wS(d:ai):∀(n:Nat) (out:List Int),(Gr d n out).length=out.length
 | 0,out=>rfl
 | n+1,out=>by rw [Gr,wS d n,uo]
theorem BT(d:ai):(labels d).length=d.1.length:=by unfold labels;rw [wS];simp [BS]
theorem UA(hG:HG G)(d:ai)(hs:Sm d)(n:Int)(R:List Int→List Int)
  (hR:∀out:List Int,out.length=d.1.length→LX G 56 rk Tryz.f56 vp (aP Tryz.prog 56 1) ((IntKind.wrap .i64 (n+1),()),(((d,()),()),(out,())))=some ((R out,()),())) :
  ∀out:List Int,out.length=d.1.length→LX G 56 rk Tryz.f56 p6 (aP Tryz.prog 56 2) ((n,((0:Int),())),(((d,()),()),(out,())))=some ((R (jf d d.2 out),()),()):=by
 have hv:=hs.v;have he:=hs.e
 have loop:∀(m i:Nat) (out:List Int),i+m=d.2.length→out.length=d.1.length→LX G 56 rk Tryz.f56 p6 (aP Tryz.prog 56 2) ((n,((i:Int),())),(((d,()),()),(out,())))=some ((R (jf d (d.2.drop i) out),()),()):=by
  intro m
  induction m with
  | zero =>
   intro i out hi ho
   have h1:¬((i:Int)<(d.2.length:Int)):=by omega
   have h2:d.2.drop i=[]:=List.drop_eq_nil_of_le (by omega)
   rw [h2,jf]
   refine au (j:=2) (by kernel_rfl) ((Oc _ _ _).trans ?_)
   simp only [h1,decide_false]
   exact hR out ho
  | succ m ih =>
   intro i out hi ho
   have aH:i<d.2.length:=by omega
   have h2:d.2.drop i=d.2[i]::d.2.drop (i+1):=List.drop_eq_getElem_cons aH
   have hx:d.2[i]? = some d.2[i]:=List.getElem?_eq_getElem aH
   rw [h2,jf]
   generalize d.2[i]=e at *
   refine au (j:=2) (by kernel_rfl) ((Oc _ _ _).trans ?_)
   simp only [aX aH,aK hx,Option.bind_some,aI aH (show d.2.length≤1073741824 by omega)]
   refine aa (Gp hG d (e.1,0) (by omega) (fun w hw=>by have:=hs.r w hw;omega)) ?_
   refine aa (Gp hG d (e.1,1) (by omega) (fun w hw=>by have:=hs.r w hw;omega)) ?_
   rw [show (oP zI (cp d (e.1,0))).1=(cp d (e.1,0)).getD zI from jK _ _,show (oP zI (cp d (e.1,1))).1=(cp d (e.1,1)).getD zI from jK _ _]
   refine aa (YF (hG _ _ rfl) d ((cp d (e.1,0)).getD zI) hs) ?_
   refine aa (YF (hG _ _ rfl) d ((cp d (e.1,1)).getD zI) hs) ?_
   have hL:Eb d e out=(if 0≤xT ((cp d (e.1,0)).getD zI) d.1 0∧0≤xT ((cp d (e.1,1)).getD zI) d.1 0 then (out.set (xT ((cp d (e.1,0)).getD zI) d.1 0).toNat (min (out.getD (xT ((cp d (e.1,0)).getD zI) d.1 0).toNat 0) (out.getD (xT ((cp d (e.1,1)).getD zI) d.1 0).toNat 0))).set (xT ((cp d (e.1,1)).getD zI) d.1 0).toNat (min (out.getD (xT ((cp d (e.1,0)).getD zI) d.1 0).toNat 0) (out.getD (xT ((cp d (e.1,1)).getD zI) d.1 0).toNat 0)) else out):=rfl
   have ha:=IA ((cp d (e.1,0)).getD zI) d.1 0 (by omega)
   have hb:=IA ((cp d (e.1,1)).getD zI) d.1 0 (by omega)
   generalize xT ((cp d (e.1,0)).getD zI) d.1 0=a at *
   generalize xT ((cp d (e.1,1)).getD zI) d.1 0=b at *
   by_cases h3:0≤a
   case neg =>
    have d3:decide (a≥0)=false:=decide_eq_false h3
    rw [hL,if_neg (by omega)]
    simp only [d3];exact ih (i+1) out (by omega) ho
   have d3:decide (a≥0)=true:=decide_eq_true h3
   by_cases h4:0≤b
   case neg =>
    have d4:decide (b≥0)=false:=decide_eq_false h4
    rw [hL,if_neg (by omega)]
    simp only [d3,d4];exact ih (i+1) out (by omega) ho
   have d4:decide (b≥0)=true:=decide_eq_true h4
   rw [if_pos ⟨h3,h4⟩] at hL
   have hal:a.toNat<out.length:=by omega
   have hbl:b.toNat<out.length:=by omega
   have xa:out[a.toNat]? = some out[a.toNat]:=List.getElem?_eq_getElem hal
   have xb:out[b.toNat]? = some out[b.toNat]:=List.getElem?_eq_getElem hbl
   have ga:out.getD a.toNat 0=out[a.toNat]:=by simp [List.getD,xa]
   have gb:out.getD b.toNat 0=out[b.toNat]:=by simp [List.getD,xb]
   rw [ga,gb] at hL
   generalize out[a.toNat]=p at *
   generalize out[b.toNat]=q at *
   have d5:decide ((0:Int)≤a)=true:=decide_eq_true h3
   have d6:decide ((0:Int)≤b)=true:=decide_eq_true h4
   have d7:decide (a<((out.length:Nat):Int))=true:=decide_eq_true (by omega)
   have d8:decide (b<((out.length:Nat):Int))=true:=decide_eq_true (by omega)
   have hbs:b.toNat<(out.set a.toNat (min p q)).length:=by simpa using hbl
   have d9:decide (b<(((out.set a.toNat (min p q)).length:Nat):Int))=true:=decide_eq_true (by simp;omega)
   have xs:(out.set a.toNat (min p q))[b.toNat]? = some (out.set a.toNat (min p q))[b.toNat]:=List.getElem?_eq_getElem hbs
   simp only [d3,d4,d5,d6,d7,d8,Bool.and_self,xa,xb,Option.bind_some,d9,xs]
   rw [hL]
   exact ih (i+1) ((out.set a.toNat (min p q)).set b.toNat (min p q)) (by omega) (by simp [ho])
 intro out ho
 exact loop d.2.length 0 out (by omega) ho
theorem adC(hG:HG G)(d:ai)(hs:Sm d):FX G 56 rk ((d,()),())=some ((labels d,()),()):=by
 have hv:=hs.v
 refine ar (fn:=Tryz.f56) (hG _ _ rfl) (by kernel_rfl) (by kernel_rfl) ((acw _ _ _).trans ?_)
 have l1:∀(n i:Nat) (out:List Int),i+n=d.1.length→out.length=d.1.length→LX G 56 rk Tryz.f56 vp (aP Tryz.prog 56 1) (((i:Int),()),(((d,()),()),(out,())))=some ((Gr d n out,()),()):=by
  intro n
  induction n with
  | zero =>
   intro i out hi ho
   refine au (j:=1) (by kernel_rfl) ((Oa _ _ _).trans ?_)
   have h1:¬((i:Int)<(d.1.length:Int)):=by omega
   simp only [h1,decide_false];rfl
  | succ n ih =>
   intro i out hi ho
   refine au (j:=1) (by kernel_rfl) ((Oa _ _ _).trans ?_)
   have aH:i<d.1.length:=by omega
   simp only [aX aH]
   exact UA hG d hs (i:Int) (Gr d n) (fun out ho=>by rw [aI aH (show d.1.length≤1073741824 by omega)];exact ih (i+1) out (by omega) ho) out ho
 have l0:∀(n i:Nat) (out:List Int),i+n=d.1.length→out=BS i→LX G 56 rk Tryz.f56 Ad (aP Tryz.prog 56 0) (((i:Int),()),(((d,()),()),(out,())))=some ((labels d,()),()):=by
  intro n
  induction n with
  | zero =>
   intro i out hi ho
   refine au (j:=0) (by kernel_rfl) ((N9 _ _ _).trans ?_)
   have h1:¬((i:Int)<(d.1.length:Int)):=by omega
   have sj:i=d.1.length:=by omega
   subst sj
   simp only [h1,decide_false]
   have:=l1 d.1.length 0 out (by omega) (by rw [ho];simp [BS])
   rw [ho] at this ⊢
   exact this
  | succ n ih =>
   intro i out hi ho
   refine au (j:=0) (by kernel_rfl) ((N9 _ _ _).trans ?_)
   have aH:i<d.1.length:=by omega
   have h6:aM out.length [(i:Int)].length=true:=fits (by rw [ho];simp [BS];omega)
   simp only [aX aH,h6,aI aH (show d.1.length≤1073741824 by omega)]
   exact ih (i+1) (out++[(i:Int)]) (by omega) (by rw [ho];simp [BS,List.range_succ])
 exact l0 d.1.length 0 [] (by omega) (by simp [BS])
def ou:List Int→Int→Int→Int
 | [],_,n=>n
 | x::r,i,n=>ou r (i+1) (if x=i then IntKind.wrap .i64 (n+1) else n)
def fN(d:ai):Int:=ou (labels d) 0 0
theorem adD(hG:HG G)(d:ai)(hs:Sm d):FX G 32 Fv ((d,()),())=some ((fN d,()),()):=by
 have hv:=hs.v
 have hl:=BT d
 refine ar (fn:=Tryz.f32) (hG _ _ rfl) (by kernel_rfl) (by kernel_rfl) ((aca _ _ _).trans ?_)
 refine aa (adC hG d hs) ?_
 unfold fN
 generalize labels d=l at *
 have loop:∀(m i:Nat) (n:Int),i+m=l.length→LX G 32 Fv Tryz.f32 vm (aP Tryz.prog 32 0) ((n,((i:Int),())),((),(l,())))=some ((ou (l.drop i) i n,()),()):=by
  intro m
  induction m with
  | zero =>
   intro i n hi
   refine au (j:=0) (by kernel_rfl) ((NX _ _ _).trans ?_)
   have h1:¬((i:Int)<(l.length:Int)):=by omega
   have h2:l.drop i=[]:=List.drop_eq_nil_of_le (by omega)
   rw [h2]
   simp only [h1,decide_false];rfl
  | succ m ih =>
   intro i n hi
   refine au (j:=0) (by kernel_rfl) ((NX _ _ _).trans ?_)
   have aH:i<l.length:=by omega
   have h2:l.drop i=l[i]::l.drop (i+1):=List.drop_eq_getElem_cons aH
   have hx:l[i]? = some l[i]:=List.getElem?_eq_getElem aH
   rw [h2,ou]
   simp only [aX aH,eC,Bool.and_self,Int.toNat_natCast,hx,Option.bind_some,aI aH (show l.length≤1073741824 by omega)]
   by_cases he:l[i]=(i:Int)
   ·have d1:(l[i]==(i:Int))=true:=by simp [he]
    rw [if_pos he];simp only [d1];exact ih (i+1) _ (by omega)
   ·have d1:(l[i]==(i:Int))=false:=by simp [he]
    rw [if_neg he];simp only [d1];exact ih (i+1) _ (by omega)
 exact loop l.length 0 0 (by omega)
def qg:List ah→Int→Int
 | [],n=>n
 | v::r,n=>qg r (if v.2.1.length=0 then IntKind.wrap .i64 (n+1) else n)
def Ay(d:ai):Int:=qg d.1 ((((dD d).length:Nat)):Int)
theorem adE(hG:HG G)(d:ai)(hs:Sm d)(he:d.2.length≤5000000):FX G 85 FD ((d,()),())=some ((((d.1.length:Nat):Int),(((d.2.length:Nat):Int),(Ay d,(fN d,())))),()):=by
 have hv:=hs.v
 refine ar (fn:=Tryz.f85) (hG _ _ rfl) (by kernel_rfl) (by kernel_rfl) ((acS _ _ _).trans ?_)
 refine aa (adB hG d hs he) ?_
 unfold Ay
 generalize (((dD d).length:Nat):Int)=f0
 have key:=bT d.1 (fun i (n:Int)=>LX G 85 FD Tryz.f85 vt (aP Tryz.prog 85 0) ((n,(i,())),(((d,()),()),()))) (fun (r:List ah) (n:Int)=>((((d.1.length:Nat):Int),(((d.2.length:Nat):Int),(qg r n,(fN d,())))),())) (fun _ _=>True)
  (fun n _=>by
   refine au (j:=0) (by kernel_rfl) ((Om _ _ _).trans ?_)
   simp only [db]
   exact aa (adD hG d hs) rfl)
  (fun i y r n hi hx BR _ ih=>by
   refine au (j:=0) (by kernel_rfl) ((Om _ _ _).trans ?_)
   simp only [aX hi,aK hx,Option.bind_some,aI hi (show d.1.length≤1073741824 by omega)]
   by_cases he:y.2.1.length=0
   ·have d1:((((y.2.1.length:Nat)):Int)==0)=true:=by simp [he]
    simp only [d1,qg,if_pos he];exact ih _ trivial
   ·have d1:((((y.2.1.length:Nat)):Int)==0)=false:=by simp;intro e;rw [e] at he;simp at he
    simp only [d1,qg,if_neg he];exact ih _ trivial)
  f0 trivial
 exact key
def iU(d:ai):Int:=IntKind.wrap .i64 (Int.tdiv (IntKind.wrap .i64 (IntKind.wrap .i64 (IntKind.wrap .i64 (IntKind.wrap .i64 (2 * fN d) - ((d.1.length:Nat):Int))+((d.2.length:Nat):Int)) - Ay d)) 2)
theorem adF(hG:HG G)(d:ai)(hs:Sm d)(he:d.2.length≤5000000):FX G 64 Fz ((d,()),())=some ((iU d,()),()):=by
 refine ar (fn:=Tryz.f64) (hG _ _ rfl) (by kernel_rfl) (by kernel_rfl) ((acC _ _ _).trans ?_)
 exact aa (adE hG d hs he) rfl
end Go.Vs
namespace Go.Vs
open Go.Proofs
variable {G:(f:FuncId)→(g:aJ)→Option (g.A→Option g.B)}
theorem Rt{s:ByteArray}{i:Nat}{c:UInt8}(h:s.data.toList[i]? = some c):(if (0:Int)≤(i:Int) then s[Int.toNat (i:Int)]? else none)=some c:=by
 have hi:i<s.size:=by have:=(List.getElem?_eq_some_iff.1 h).1;simpa using this
 rw [if_pos (by omega),Int.toNat_natCast,getElem?_pos s i hi]
 have h2:=(List.getElem?_eq_some_iff.1 h).2
 rw [←h2]
 rfl
def j4(c:UInt8):Bool:=decide (32≤c.toNat)&&decide (c.toNat≤126)
def BU(s:ByteArray):Bool:=s.data.toList.all j4&&decide (s.size≤16)
theorem adG(hG:G 28 DN=none)(s:ByteArray)(hs:s.size≤100000000):FX G 28 DN ((s,()),())=some ((BU s,()),()):=by
 refine ar (fn:=Tryz.f28) hG (by kernel_rfl) (by kernel_rfl) ((ab7 _ _ _).trans ?_)
 have hl:s.data.toList.length=s.size:=by simp
 have key:=bT s.data.toList (fun i (_:Unit)=>LX G 28 DN Tryz.f28 z5 (aP Tryz.prog 28 0) ((s,(i,())),((),()))) (fun (r:List UInt8) (_:Unit)=>((r.all j4&&decide (s.size≤16),()),())) (fun _ _=>True)
  (fun _ _=>by
   refine au (j:=0) (by kernel_rfl) ((NV _ _ _).trans ?_)
   rw [hl]
   have h2:decide (((s.size:Nat):Int)≤16)=decide (s.size≤16):=by
    rw [Bool.eq_iff_iff];simp;omega
   simp only [db,h2,List.all_nil,Bool.true_and];rfl)
  (fun i c r _ hi hx BR _ ih=>by
   refine au (j:=0) (by kernel_rfl) ((NV _ _ _).trans ?_)
   rw [hl] at hi
   have hb:=Rt hx
   simp only [aX hi,hb,Option.bind_some,aI hi (show s.size≤1073741824 by omega)]
   by_cases h1:c.toNat<32
   ·have d1:decide (((c.toNat:Nat):Int)<32)=true:=decide_eq_true (by omega)
    have d2:j4 c=false:=by unfold j4;simp;omega
    simp only [d1,List.all_cons,d2,Bool.false_and];rfl
   ·have d1:decide (((c.toNat:Nat):Int)<32)=false:=decide_eq_false (by omega)
    by_cases h2:126<c.toNat
    ·have d2:decide (((c.toNat:Nat):Int) > 126)=true:=decide_eq_true (by omega)
     have d3:j4 c=false:=by unfold j4;simp;omega
     simp only [d1,d2,List.all_cons,d3,Bool.false_and];rfl
    ·have d2:decide (((c.toNat:Nat):Int) > 126)=false:=decide_eq_false (by omega)
     have d3:j4 c=true:=by unfold j4;simp;omega
     simp only [d1,d2,List.all_cons,d3,Bool.true_and];exact ih () trivial)
  () trivial
 exact key
def uq(n:Int):Bool:=decide (-1099511627776≤n∧n≤1099511627776)
theorem adH(hG:G 29 K9=none)(n:Int):FX G 29 K9 ((n,()),())=some ((uq n,()),()):=by
 refine ar (fn:=Tryz.f29) hG (by kernel_rfl) (by kernel_rfl) ((ab8 _ _ _).trans ?_)
 show (cond (decide (n≥-1099511627776)) (some ((decide (n≤1099511627776),()),())) (some ((false,()),())):Option ((Bool×Unit)×Unit))=some ((uq n,()),())
 unfold uq
 by_cases h1 : -1099511627776≤n<;>simp [h1]
def xk(c:oU):Bool:=cT c.1&&(Iz c.2 || decide (c.2=zD))
theorem YG(hG:HG G)(c:oU):FX G 68 Le ((c,()),())=some ((xk c,()),()):=by
 refine ar (fn:=Tryz.f68) (hG _ _ rfl) (by kernel_rfl) (by kernel_rfl) ((acE _ _ _).trans ?_)
 refine aa (Lt (hG _ _ rfl) c.1) ?_
 refine aa (ads hG c.2) ?_
 have hb:(((c.2.1.1==(0:Int))&&(c.2.1.2==(0:Int)))&&(c.2.2==(0:Int)))=decide (c.2=zD):=kh c.2 zD
 unfold xk
 simp only [hb]
 cases h1:cT c.1<;>cases h2:Iz c.2<;>rfl
def UB:bB:=(0,(zI,(zI,(zI,(zC,(zC,(false,(e0,0))))))))
def uu(o:bB):bB :=
 if o.1=3 then (0,(zI,(o.2.2.1,(o.2.2.2.1,(zC,(zC,(o.2.2.2.2.2.2.1,o.2.2.2.2.2.2.2)))))))
 else if o.1=5 then (0,(zI,(zI,(zI,(o.2.2.2.2.1,(o.2.2.2.2.2.1,(o.2.2.2.2.2.2.1,(o.2.2.2.2.2.2.2.1,0))))))))
 else if o.1=6 then (0,(zI,(o.2.2.1,(zI,(o.2.2.2.2.1,(o.2.2.2.2.2.1,(o.2.2.2.2.2.2.1,o.2.2.2.2.2.2.2)))))))
 else if o.1=7 then (0,(zI,(o.2.2.1,(o.2.2.2.1,(o.2.2.2.2.1,(o.2.2.2.2.2.1,(false,(e0,o.2.2.2.2.2.2.2.2))))))))
 else if o.1=8 then (0,(zI,(o.2.2.1,(o.2.2.2.1,(o.2.2.2.2.1,(o.2.2.2.2.2.1,(false,(o.2.2.2.2.2.2.2.1,0))))))))
 else (0,(zI,(o.2.2.1,(o.2.2.2.1,(o.2.2.2.2.1,(o.2.2.2.2.2.1,(o.2.2.2.2.2.2.1,o.2.2.2.2.2.2.2)))))))
theorem adI(hG:G 67 Ld=none)(o:bB):FX G 67 Ld ((o,()),())=some ((uu o,()),()):=by
 refine ar (fn:=Tryz.f67) hG (by kernel_rfl) (by kernel_rfl) ((acD _ _ _).trans ?_)
 unfold uu
 by_cases h3:o.1=3
 ·have d:(o.1==(3:Int))=true:=by simp [h3]
  rw [if_pos h3];simp only [d];rfl
 have d3:(o.1==(3:Int))=false:=by simp [h3]
 rw [if_neg h3]
 by_cases h5:o.1=5
 ·have d:(o.1==(5:Int))=true:=by simp [h5]
  rw [if_pos h5];simp only [d3,d];rfl
 have d5:(o.1==(5:Int))=false:=by simp [h5]
 rw [if_neg h5]
 by_cases h6:o.1=6
 ·have d:(o.1==(6:Int))=true:=by simp [h6]
  rw [if_pos h6];simp only [d3,d5,d];rfl
 have d6:(o.1==(6:Int))=false:=by simp [h6]
 rw [if_neg h6]
 by_cases h7:o.1=7
 ·have d:(o.1==(7:Int))=true:=by simp [h7]
  rw [if_pos h7];simp only [d3,d5,d6,d];rfl
 have d7:(o.1==(7:Int))=false:=by simp [h7]
 rw [if_neg h7]
 by_cases h8:o.1=8
 ·have d:(o.1==(8:Int))=true:=by simp [h8]
  rw [if_pos h8];simp only [d3,d5,d6,d7,d];rfl
 have d8:(o.1==(8:Int))=false:=by simp [h8]
 rw [if_neg h8];simp only [d3,d5,d6,d7,d8];rfl
def xl(x y:bB):Bool :=
 (x.1==y.1)&&(((x.2.1.1==y.2.1.1)&&(x.2.1.2==y.2.1.2))&&(((x.2.2.1.1==y.2.2.1.1)&&(x.2.2.1.2==y.2.2.1.2))&&(((x.2.2.2.1.1==y.2.2.2.1.1)&&(x.2.2.2.1.2==y.2.2.2.1.2)) &&
  ((((x.2.2.2.2.1.1.1==y.2.2.2.2.1.1.1)&&(x.2.2.2.2.1.1.2==y.2.2.2.2.1.1.2))&&(((x.2.2.2.2.1.2.1.1==y.2.2.2.2.1.2.1.1)&&(x.2.2.2.2.1.2.1.2==y.2.2.2.2.1.2.1.2))&&(x.2.2.2.2.1.2.2==y.2.2.2.2.1.2.2))) &&
  ((((x.2.2.2.2.2.1.1.1==y.2.2.2.2.2.1.1.1)&&(x.2.2.2.2.2.1.1.2==y.2.2.2.2.2.1.1.2))&&(((x.2.2.2.2.2.1.2.1.1==y.2.2.2.2.2.1.2.1.1)&&(x.2.2.2.2.2.1.2.1.2==y.2.2.2.2.2.1.2.1.2))&&(x.2.2.2.2.2.1.2.2==y.2.2.2.2.2.1.2.2))) &&
  ((x.2.2.2.2.2.2.1==y.2.2.2.2.2.2.1)&&((x.2.2.2.2.2.2.2.1==y.2.2.2.2.2.2.2.1)&&(x.2.2.2.2.2.2.2.2==y.2.2.2.2.2.2.2.2))))))))
theorem Az(x y:bB):xl x y=true↔x=y:=by
 obtain ⟨x1,⟨x2,x3⟩,⟨x4,x5⟩,⟨x6,x7⟩,⟨⟨x8,x9⟩,⟨x10,x11⟩,x12⟩,⟨⟨x13,x14⟩,⟨x15,x16⟩,x17⟩,x18,x19,x20⟩:=x
 obtain ⟨y1,⟨y2,y3⟩,⟨y4,y5⟩,⟨y6,y7⟩,⟨⟨y8,y9⟩,⟨oq,kz⟩,lM⟩,⟨⟨kA,Bl⟩,⟨p7,Qk⟩,Q7⟩,VJ,SM,F5⟩:=y
 unfold xl
 simp only [Uu]
 simp [and_assoc]
theorem aY{α:Type}{c b:Bool}{x y r:α}(h:c=b)(k:cond (not b) x y=r):cond (not c) x y=r:=by subst h;exact k
def cx(o:bB):Int :=
 if o.1<1 then 1 else if 8<o.1 then 1 else if cT o.2.1=false then 1 else if xl (uu o) UB=false then 1
 else if o.1=3 then (if xk o.2.2.2.2.1=true∧xk o.2.2.2.2.2.1=true then 0 else 1)
 else if o.1=5 then (if cT o.2.2.1=true∧cT o.2.2.2.1=true∧0≤o.2.2.2.2.2.2.2.2∧o.2.2.2.2.2.2.2.2≤3 then 0 else 1)
 else if o.1=6 then (if cT o.2.2.2.1=true then 0 else 1)
 else if o.1=8 then (if uq o.2.2.2.2.2.2.2.2=true then 0 else 1)
 else if o.1=7 then (if BU o.2.2.2.2.2.2.2.1=true then 0 else 4)
 else 0
def I1(n:Int):Option ((Int×Unit)×Unit):=some ((n,()),())
theorem YH(hG:HG G)(o:bB)(ht:o.2.2.2.2.2.2.2.1.size≤100000000):FX G 45 La ((o,()),())=some ((cx o,()),()):=by
 refine ar (fn:=Tryz.f45) (hG _ _ rfl) (by kernel_rfl) (by kernel_rfl) ((acj _ _ _).trans ?_)
 refine aa (Lt (hG _ _ rfl) o.2.1) ?_
 unfold cx
 by_cases h1:o.1<1
 ·rw [if_pos h1];have d:=decide_eq_true h1;simp only [d];rfl
 rw [if_neg h1];have d1:=decide_eq_false h1
 by_cases h2:8<o.1
 ·rw [if_pos h2];have d:decide (o.1 > 8)=true:=decide_eq_true h2;simp only [d1,d];rfl
 rw [if_neg h2];have d2:decide (o.1 > 8)=false:=decide_eq_false h2
 cases hm:cT o.2.1
 ·rw [if_pos rfl];simp only [d1,d2];rfl
 rw [if_neg (by simp)]
 simp only [d1,d2]
 refine aa (adI (hG _ _ rfl) o) ?_
 refine aY (b:=xl (uu o) UB) rfl ?_
 cases he:xl (uu o) UB
 ·rw [if_pos rfl];rfl
 rw [if_neg (by simp)]
 by_cases h3:o.1=3
 ·rw [if_pos h3]
  have d:(o.1==(3:Int))=true:=by simp [h3]
  simp only [d]
  refine aa (YG hG o.2.2.2.2.1) ?_
  refine aa (YG hG o.2.2.2.2.2.1) ?_
  cases hc:xk o.2.2.2.2.1<;>cases tc:xk o.2.2.2.2.2.1<;>rfl
 rw [if_neg h3]
 have d3:(o.1==(3:Int))=false:=by simp [h3]
 by_cases h5:o.1=5
 ·rw [if_pos h5]
  have d:(o.1==(5:Int))=true:=by simp [h5]
  simp only [d3,d]
  refine aa (Lt (hG _ _ rfl) o.2.2.1) ?_
  refine aa (Lt (hG _ _ rfl) o.2.2.2.1) ?_
  cases hc:cT o.2.2.1
  ·rw [if_neg (by simp)];rfl
  cases tc:cT o.2.2.2.1
  ·rw [if_neg (by simp)];rfl
  by_cases h6:o.2.2.2.2.2.2.2.2<0
  ·have d6:=decide_eq_true h6
   rw [if_neg (by omega)];simp only [d6];rfl
  have d6:=decide_eq_false h6
  by_cases h7:o.2.2.2.2.2.2.2.2 > 3
  ·have d7:=decide_eq_true h7
   rw [if_neg (by omega)];simp only [d6,d7];rfl
  have d7:=decide_eq_false h7
  rw [if_pos ⟨rfl,rfl,by omega,by omega⟩];simp only [d6,d7];rfl
 rw [if_neg h5]
 have d5:(o.1==(5:Int))=false:=by simp [h5]
 by_cases h6:o.1=6
 ·rw [if_pos h6]
  have d:(o.1==(6:Int))=true:=by simp [h6]
  simp only [d3,d5,d]
  refine aa (Lt (hG _ _ rfl) o.2.2.2.1) ?_
  cases hc:cT o.2.2.2.1<;>rfl
 rw [if_neg h6]
 have d6:(o.1==(6:Int))=false:=by simp [h6]
 by_cases h8:o.1=8
 ·rw [if_pos h8]
  have d:(o.1==(8:Int))=true:=by simp [h8]
  simp only [d3,d5,d6,d]
  refine aa (adH (hG _ _ rfl) o.2.2.2.2.2.2.2.2) ?_
  cases hc:uq o.2.2.2.2.2.2.2.2<;>rfl
 rw [if_neg h8]
 have d8:(o.1==(8:Int))=false:=by simp [h8]
 by_cases h7:o.1=7
 ·rw [if_pos h7]
  have d:(o.1==(7:Int))=true:=by simp [h7]
  simp only [d3,d5,d6,d8,d]
  refine aa (adG (hG _ _ rfl) o.2.2.2.2.2.2.2.1 (by omega)) ?_
  cases hc:BU o.2.2.2.2.2.2.2.1<;>rfl
 rw [if_neg h7]
 have d7:(o.1==(7:Int))=false:=by simp [h7]
 simp only [d3,d5,d6,d8,d7];rfl
def mC(o:bB):Prop:=o.2.2.2.2.2.2.2.1.size≤100000000
def j5:List bB→Int
 | []=>0
 | o::r=>if cx o≠0 then cx o else j5 r
def fq(l:List bB):Int:=if 1≤l.length∧l.length≤6 then j5 l else 3
theorem adJ(hG:HG G)(l:List bB)(ht:∀o∈l,mC o):FX G 41 Fw ((l,()),())=some ((fq l,()),()):=by
 refine ar (fn:=Tryz.f41) (hG _ _ rfl) (by kernel_rfl) (by kernel_rfl) ((ach _ _ _).trans ?_)
 unfold fq
 by_cases h1:l.length<1
 ·have d:decide (((l.length:Nat):Int)<1)=true:=decide_eq_true (by omega)
  rw [if_neg (by omega)];simp only [d];rfl
 have d1:decide (((l.length:Nat):Int)<1)=false:=decide_eq_false (by omega)
 by_cases h2:6<l.length
 ·have d:decide (((l.length:Nat):Int) > 6)=true:=decide_eq_true (by omega)
  rw [if_neg (by omega)];simp only [d1,d];rfl
 have d2:decide (((l.length:Nat):Int) > 6)=false:=decide_eq_false (by omega)
 rw [if_pos (by omega)]
 simp only [d1,d2]
 have key:=bT l (fun i (_:Unit)=>LX G 41 Fw Tryz.f41 z8 (aP Tryz.prog 41 0) ((i,()),(((l,()),()),()))) (fun (r:List bB) (_:Unit)=>((j5 r,()),())) (fun _ _=>True)
  (fun _ _=>by
   refine au (j:=0) (by kernel_rfl) ((N0 _ _ _).trans ?_)
   simp only [db];rfl)
  (fun i o r _ hi hx BR _ ih=>by
   refine au (j:=0) (by kernel_rfl) ((N0 _ _ _).trans ?_)
   simp only [aX hi,aK hx,Option.bind_some,aI hi (show l.length≤1073741824 by omega)]
   refine aa (YH hG o (ht o (List.mem_of_getElem? hx))) ?_
   rw [j5]
   by_cases h:cx o=0
   ·have d:(cx o != 0)=false:=by simp [h]
    rw [if_neg (by simp [h])];simp only [d];exact ih () trivial
   ·have d:(cx o != 0)=true:=by simp [h]
    rw [if_pos h];simp only [d];rfl)
  () trivial
 exact key
theorem adK(hG:G 34 BH=none)(l:List bB):FX G 34 BH ((l,()),())=some ((l.take 8,()),()):=by
 refine ar (fn:=Tryz.f34) hG (by kernel_rfl) (by kernel_rfl) ((acb _ _ _).trans ?_)
 by_cases h:8<l.length
 ·have d1:decide (((l.length:Nat):Int) > 8)=true:=decide_eq_true (by omega)
  have d2:aW l.length 0 8=true:=by simp [aW];omega
  simp only [d1,d2];rfl
 ·have d1:decide (((l.length:Nat):Int) > 8)=false:=decide_eq_false (by omega)
  rw [List.take_of_length_le (by omega)]
  simp only [d1];rfl
end Go.Vs
namespace Go.Vs
open Go.Proofs
variable {G:(f:FuncId)→(g:aJ)→Option (g.A→Option g.B)}
theorem ae{α:Type}{c:Bool}{x y r:α}(h:c=true)(k:x=r):cond c x y=r:=by subst h;exact k
theorem ag{α:Type}{c:Bool}{x y r:α}(h:c=false)(k:y=r):cond c x y=r:=by subst h;exact k
theorem dv{a b:Bool}(h:a=true)(k:b=true):(a&&b)=true:=by rw [h,k];rfl
def zS:StateT:=(([],[]),[])
abbrev aS(o:bB):ID:=o.2.1
abbrev ed(o:bB):ID:=o.2.2.1
abbrev aU(o:bB):ID:=o.2.2.2.1
abbrev oA(o:bB):oU:=o.2.2.2.2.1
abbrev oB(o:bB):oU:=o.2.2.2.2.2.1
abbrev mD(o:bB):Bool:=o.2.2.2.2.2.2.1
abbrev nj(o:bB):ByteArray:=o.2.2.2.2.2.2.2.1
abbrev oN(o:bB):Int:=o.2.2.2.2.2.2.2.2
def iB(o:bB)(w:ah):ah:=if mD o=false∧w.1=aS o then (if o.1=7 then (w.1,(w.2.1,(nj o,w.2.2.2))) else (w.1,(w.2.1,(w.2.2.1,oN o)))) else w
def jx(o:bB)(w:af):af:=if mD o=true∧w.1=aS o then (if o.1=7 then (w.1,(nj o,w.2.2)) else (w.1,(w.2.1,oN o))) else w
def Gt(o:bB)(l:List ah):Bool := !(mD o)&&l.any fun w=>decide (w.1=aS o)
def Ec(o:bB)(l:List af):Bool:=mD o&&l.any fun w=>decide (w.1=aS o)
def vE(s:StateT)(o:bB):StateT×(Int×Unit) :=
 if Gt o s.1.1 || Ec o s.1.2 then (((s.1.1.map (iB o),s.1.2.map (jx o)),s.2),(0,())) else (zS,(13,()))
theorem UC(s:StateT)(o:bB)(vs:List ah)(hs:Sm s.1):∀(n i:Nat) (fd:Bool) (out fin:List af),i+n=s.1.2.length→out=(s.1.2.take i).map (jx o)++s.1.2.drop i→fin=s.1.2.map (jx o) →
  LX G 52 zB Tryz.f52 p4 (aP Tryz.prog 52 1) ((fd,((i:Int),())),(((s,()),((o,()),((([]:List ah),(([]:List af),(([]:List ak),()))),((vs,(out,())),())))),())) =
   some ((if (fd || Ec o (s.1.2.drop i)) then ((((vs,fin),s.2),((0:Int),())):StateT×(Int×Unit)) else (zS,(13,()))),()):=by
 have he:=hs.e
 intro n
 induction n with
 | zero =>
  intro i fd out fin hi ho hf
  refine au (j:=1) (by kernel_rfl) ((N6 _ _ _).trans ?_)
  have SV:out.length=s.1.2.length:=by rw [ho];simp;omega
  have h1:¬((i:Int)<(out.length:Int)):=by omega
  have h2:out=fin:=by rw [ho,hf,List.take_of_length_le (by omega),List.drop_eq_nil_of_le (by omega),List.append_nil]
  have h3:Ec o (s.1.2.drop i)=false:=by rw [List.drop_eq_nil_of_le (by omega)];simp [Ec]
  subst h2
  rw [h3]
  simp only [h1,decide_false]
  cases fd<;>rfl
 | succ n ih =>
  intro i fd out fin hi ho hf
  refine au (j:=1) (by kernel_rfl) ((N6 _ _ _).trans ?_)
  have SV:out.length=s.1.2.length:=by rw [ho];simp;omega
  have aH:i<s.1.2.length:=by omega
  have hx:s.1.2[i]? = some s.1.2[i]:=List.getElem?_eq_getElem aH
  have hg:out[i]? = some s.1.2[i]:=by rw [ho];exact Ea _ _ _ _ hx
  have h2:s.1.2.drop i=s.1.2[i]::s.1.2.drop (i+1):=List.drop_eq_getElem_cons aH
  have vF:=aX (show i<out.length by omega)
  have hw:=aI aH (show s.1.2.length≤1073741824 by omega)
  rw [h2]
  generalize s.1.2[i]=y at *
  have hE:Ec o (y::s.1.2.drop (i+1))=((mD o&&decide (y.1=aS o)) || Ec o (s.1.2.drop (i+1))):=by
   unfold Ec;cases mD o<;>simp
  rw [hE]
  refine ae vF ?_
  cases OV:mD o
  ·have e1:jx o y=y:=by unfold jx;rw [if_neg (by simp [OV])]
   rw [Bool.false_and,Bool.false_or]
   refine ag OV ?_
   rw [hw]
   exact ih (i+1) fd out fin (by omega) (by rw [ho];exact qe _ _ _ _ hx e1) hf
  ·rw [Bool.true_and]
   refine ae OV ?_
   refine ae (dv (eC i) vF) ?_
   refine aa hg ?_
   by_cases hq:y.1=aS o
   ·refine ae ((iY y.1 (aS o)).trans (decide_eq_true hq)) ?_
    rw [decide_eq_true hq,Bool.true_or,Bool.or_true,hw]
    by_cases h7:o.1=7
    ·have e1:jx o y=(y.1,(nj o,y.2.2)):=by unfold jx;rw [if_pos ⟨OV,hq⟩,if_pos h7]
     refine ae (show (o.1==(7:Int))=true by simp [h7]) ?_
     refine ae (dv (eC i) vF) ?_
     refine aa hg ?_
     have:=ih (i+1) true (out.set i (y.1,(nj o,y.2.2))) fin (by omega) (by rw [ho,←uk _ _ _ _ hx,e1]) hf
     rw [Bool.true_or] at this;exact this
    ·have e1:jx o y=(y.1,(y.2.1,oN o)):=by unfold jx;rw [if_pos ⟨OV,hq⟩,if_neg h7]
     refine ag (show (o.1==(7:Int))=false by simp [h7]) ?_
     refine ae (dv (eC i) vF) ?_
     refine aa hg ?_
     have:=ih (i+1) true (out.set i (y.1,(y.2.1,oN o))) fin (by omega) (by rw [ho,←uk _ _ _ _ hx,e1]) hf
     rw [Bool.true_or] at this;exact this
   ·have e1:jx o y=y:=by unfold jx;rw [if_neg (fun h=>hq h.2)]
    refine ag ((iY y.1 (aS o)).trans (decide_eq_false hq)) ?_
    rw [decide_eq_false hq,Bool.false_or,hw]
    exact ih (i+1) fd out fin (by omega) (by rw [ho];exact qe _ _ _ _ hx e1) hf
theorem UD(s:StateT)(o:bB)(hs:Sm s.1):∀(n i:Nat) (fd:Bool) (out fin:List ah),i+n=s.1.1.length→out=(s.1.1.take i).map (iB o)++s.1.1.drop i→fin=s.1.1.map (iB o) →
  LX G 52 zB Tryz.f52 pZ (aP Tryz.prog 52 0) ((fd,((i:Int),())),(((s,()),((o,()),((([]:List ah),(([]:List af),(([]:List ak),()))),((out,(s.1.2,())),())))),())) =
   some ((if ((fd || Gt o (s.1.1.drop i)) || Ec o s.1.2) then ((((fin,s.1.2.map (jx o)),s.2),((0:Int),())):StateT×(Int×Unit)) else (zS,(13,()))),()):=by
 have hv:=hs.v
 intro n
 induction n with
 | zero =>
  intro i fd out fin hi ho hf
  refine au (j:=0) (by kernel_rfl) ((N5 _ _ _).trans ?_)
  have SV:out.length=s.1.1.length:=by rw [ho];simp;omega
  have h1:¬((i:Int)<(out.length:Int)):=by omega
  have h2:out=fin:=by rw [ho,hf,List.take_of_length_le (by omega),List.drop_eq_nil_of_le (by omega),List.append_nil]
  have h3:Gt o (s.1.1.drop i)=false:=by rw [List.drop_eq_nil_of_le (by omega)];simp [Gt]
  subst h2
  rw [h3,Bool.or_false]
  simp only [h1,decide_false]
  exact UC s o out hs s.1.2.length 0 fd s.1.2 (s.1.2.map (jx o)) (by omega) (by simp) rfl
 | succ n ih =>
  intro i fd out fin hi ho hf
  refine au (j:=0) (by kernel_rfl) ((N5 _ _ _).trans ?_)
  have SV:out.length=s.1.1.length:=by rw [ho];simp;omega
  have aH:i<s.1.1.length:=by omega
  have hx:s.1.1[i]? = some s.1.1[i]:=List.getElem?_eq_getElem aH
  have hg:out[i]? = some s.1.1[i]:=by rw [ho];exact Ea _ _ _ _ hx
  have h2:s.1.1.drop i=s.1.1[i]::s.1.1.drop (i+1):=List.drop_eq_getElem_cons aH
  have vF:=aX (show i<out.length by omega)
  have hw:=aI aH (show s.1.1.length≤1073741824 by omega)
  rw [h2]
  generalize s.1.1[i]=y at *
  have hE:Gt o (y::s.1.1.drop (i+1))=((!(mD o)&&decide (y.1=aS o)) || Gt o (s.1.1.drop (i+1))):=by
   unfold Gt;cases mD o<;>simp
  rw [hE]
  refine ae vF ?_
  cases OV:mD o
  ·rw [Bool.not_false,Bool.true_and]
   refine ae (show (!(mD o))=true by rw [OV];rfl) ?_
   refine ae (dv (eC i) vF) ?_
   refine aa hg ?_
   by_cases hq:y.1=aS o
   ·refine ae ((iY y.1 (aS o)).trans (decide_eq_true hq)) ?_
    rw [decide_eq_true hq,Bool.true_or,Bool.or_true,Bool.true_or,hw]
    by_cases h7:o.1=7
    ·have e1:iB o y=(y.1,(y.2.1,(nj o,y.2.2.2))):=by unfold iB;rw [if_pos ⟨OV,hq⟩,if_pos h7]
     refine ae (show (o.1==(7:Int))=true by simp [h7]) ?_
     refine ae (dv (eC i) vF) ?_
     refine aa hg ?_
     have:=ih (i+1) true (out.set i (y.1,(y.2.1,(nj o,y.2.2.2)))) fin (by omega) (by rw [ho,←uk _ _ _ _ hx,e1]) hf
     rw [Bool.true_or,Bool.true_or] at this;exact this
    ·have e1:iB o y=(y.1,(y.2.1,(y.2.2.1,oN o))):=by unfold iB;rw [if_pos ⟨OV,hq⟩,if_neg h7]
     refine ag (show (o.1==(7:Int))=false by simp [h7]) ?_
     refine ae (dv (eC i) vF) ?_
     refine aa hg ?_
     have:=ih (i+1) true (out.set i (y.1,(y.2.1,(y.2.2.1,oN o)))) fin (by omega) (by rw [ho,←uk _ _ _ _ hx,e1]) hf
     rw [Bool.true_or,Bool.true_or] at this;exact this
   ·have e1:iB o y=y:=by unfold iB;rw [if_neg (fun h=>hq h.2)]
    refine ag ((iY y.1 (aS o)).trans (decide_eq_false hq)) ?_
    rw [decide_eq_false hq,Bool.false_or,hw]
    exact ih (i+1) fd out fin (by omega) (by rw [ho];exact qe _ _ _ _ hx e1) hf
  ·have e1:iB o y=y:=by unfold iB;rw [if_neg (by simp [OV])]
   rw [Bool.not_true,Bool.false_and,Bool.false_or]
   refine ag (show (!(mD o))=false by rw [OV];rfl) ?_
   rw [hw]
   exact ih (i+1) fd out fin (by omega) (by rw [ho];exact qe _ _ _ _ hx e1) hf
theorem adL(hG:HG G)(s:StateT)(o:bB)(hs:Sm s.1):FX G 52 zB ((s,o,()),())=some (vE s o,()):=by
 have hv:=hs.v;have he:=hs.e
 refine ar (fn:=Tryz.f52) (hG _ _ rfl) (by kernel_rfl) (by kernel_rfl) ((acr _ _ _).trans ?_)
 refine aa (Ys (hG _ _ rfl) s.1 (by omega) (by omega) (fun w hw=>by have:=hs.r w hw;omega)) ?_
 have:=UD (G:=G) s o hs s.1.1.length 0 false s.1.1 (s.1.1.map (iB o)) (by omega) (by simp) rfl
 rw [Bool.false_or] at this
 exact this
end Go.Vs
namespace Go.Vs
open Go.Proofs
variable {G:(f:FuncId)→(g:aJ)→Option (g.A→Option g.B)}
structure Bd(n:Nat)(d:ai):Prop where
 v:d.1.length≤n
 e:d.2.length≤n
 r:∀w∈d.1,w.2.1.length≤n
theorem Bd.sm{n:Nat}{d:ai}(h:Bd n d)(hn:n≤50000000):Sm d:=⟨by have:=h.v;omega,by have:=h.e;omega,fun w hw=>by have:=h.r w hw;omega⟩
theorem Bd.mono{n m:Nat}{d:ai}(h:Bd n d)(hm:n≤m):Bd m d:=⟨by have:=h.v;omega,by have:=h.e;omega,fun w hw=>by have:=h.r w hw;omega⟩
theorem iu(v:ah):∀l:List ah,(dR v l).length=l.length+1
 | []=>rfl
 | w::r=>by unfold dR;split<;>simp [iu v r]
theorem me(v:af):∀l:List af,(dm v l).length=l.length+1
 | []=>rfl
 | w::r=>by unfold dm;split<;>simp [me v r]
theorem qh{v w:ah}:∀{l:List ah},w∈dR v l↔w=v∨w∈l
 | []=>by simp [dR]
 | u::r=>by
  unfold dR
  split
  ·simp
  ·simp only [List.mem_cons,qh (l:=r)]
   exact ⟨fun h=>by rcases h with h | h | h<;>simp [h],fun h=>by rcases h with h | h | h<;>simp [h]⟩
theorem ux{v w:af}:∀{l:List af},w∈dm v l↔w=v∨w∈l
 | []=>by simp [dm]
 | u::r=>by
  unfold dm
  split
  ·simp
  ·simp only [List.mem_cons,ux (l:=r)]
   exact ⟨fun h=>by rcases h with h | h | h<;>simp [h],fun h=>by rcases h with h | h | h<;>simp [h]⟩
theorem wT(row:List ab)(a d:ab):(lz row a d).length≤row.length+1:=by
 unfold lz
 split
 ·rw [fL];omega
 ·rw [fL];simp;omega
theorem Gu(row:List ab)(d:ab):(gH row d).length≤row.length:=by
 unfold gH;rw [fL];exact List.length_filter_le _ _
theorem Ed(row:List ab)(a d:ab):(je row a d).length=row.length:=by
 unfold je;rw [fL];split<;>simp
theorem Bd.bJ{n:Nat}{d:ai}(h:Bd n d)(x:ID):(bJ d x).length≤n:=by
 unfold Vs.bJ
 cases hf:bh d x with
 | none=>simp [zV]
 | some v=>exact h.r v (List.mem_of_find?_eq_some hf)
theorem Bd.b5{n:Nat}{d:ai}(h:Bd n d){x:ID}{l:List ab}(hl:l.length≤n):Bd n (b5 d x l):=by
 refine ⟨by simp [Vs.b5];exact h.v,h.e,fun w hw => ?_⟩
 obtain ⟨u,hu,rfl⟩:=List.mem_map.1 hw
 unfold qR
 split
 ·exact hl
 ·exact h.r u hu
theorem Bd.bR{n:Nat}{d:ai}(h:Bd n d)(c:oU)(x:ab):Bd (n+1) (bR d c x) :=
 (h.mono (by omega)).b5 (by have:=wT (Vs.bJ d c.1) c.2 x;have:=h.bJ c.1;omega)
theorem Bd.aD{n:Nat}{d:ai}(h:Bd n d)(a x:ab):Bd n (aD d a x) :=
 h.b5 (by rw [Ed];exact h.bJ _)
theorem Bd.aB{n:Nat}{d:ai}(h:Bd n d)(x:ab):Bd n (aB d x) :=
 h.b5 (by have:=Gu (Vs.bJ d ((cp d x).getD zI)) x;have:=h.bJ ((cp d x).getD zI);omega)
theorem Bd.bu{n:Nat}{d:ai}(h:Bd n d)(v e:ID):Bd n (bu d v e) :=
 ⟨Nat.le_trans (List.length_filter_le _ _) h.v,Nat.le_trans (List.length_filter_le _ _) h.e,fun w hw=>h.r w (List.mem_filter.1 hw).1⟩
theorem Bd.dR{n:Nat}{d:ai}(h:Bd n d)(v:ah)(hv:v.2.1.length≤n+1):Bd (n+1) (dR v d.1,d.2) :=
 ⟨by rw [iu];have:=h.v;omega,by have:=h.e;simp only;omega,fun w hw=>by
  rcases qh.1 hw with rfl | hw
  ·exact hv
  ·have:=h.r w hw;omega⟩
theorem Bd.dm{n:Nat}{d:ai}(h:Bd n d)(v:af):Bd (n+1) (d.1,dm v d.2) :=
 ⟨by have:=h.v;simp only;omega,by rw [me];have:=h.e;omega,fun w hw=>by have:=h.r w hw;omega⟩
theorem wU(g:ak):∀l:List ak,(kD g l).length≤l.length+1
 | []=>by simp [kD]
 | e::r=>by
  unfold kD
  split
  ·have:=List.length_filter_le (fun q:ak=>decide (q.1≠g.1)) (e::r)
   simp [mB];simp at this;omega
  ·have:=wU g r
   split<;>simp<;>omega
theorem dZ(l:List ak)(g:ak):(bK l g).length≤l.length+1:=by
 unfold bK;split
 ·omega
 ·exact wU g l
def kr(s:StateT)(o:bB):ai :=
 bR (bR (s.1.1,dm (aS o,(e0,0)) s.1.2) (aT s (oA o)).1 (aS o,0))
  (if (bh s.1 (oB o).1).isSome=true∧(oB o).2=(aS o,0) then oB o else (aT s (oB o)).1) (aS o,1)
def rR(s:StateT)(o:bB):StateT×(Int×Unit) :=
 if (gI s.1 (aS o)).isSome=true then (zS,(12,()))
 else if 40≤s.1.2.length then (zS,(3,()))
 else if (aT s (oA o)).2.1≠0 then (zS,(13,()))
 else if (aT s (oB o)).2.1≠0 then (zS,(13,()))
 else if iU (kr s o)≠0 then (zS,(15,()))
 else ((kr s o,s.2),(0,()))
theorem adM(hG:HG G){n:Nat}(s:StateT)(o:bB)(hs:Bd n s.1)(hn:n≤4000000)(hg:s.2.length≤50000000):FX G 48 NF ((s,o,()),())=some (rR s o,()):=by
  have hv:=hs.v;have he:=hs.e
  have OW:=hs.sm (by omega)
  refine ar (fn:=Tryz.f48) (hG _ _ rfl) (by kernel_rfl) (by kernel_rfl) ((acn _ _ _).trans ?_)
  refine aa (Rp (hG _ _ rfl) s.1 (aS o) (by omega)) ?_
  rw [show (oP zE (gI s.1 (aS o))).2.1=(gI s.1 (aS o)).isSome from gP _ _]
  unfold rR
  cases h1:(gI s.1 (aS o)).isSome
  case true=>rw [if_pos rfl];rfl
  rw [if_neg (by simp)]
  by_cases h2:40≤s.1.2.length
  · have d:decide (((s.1.2.length:Nat):Int)≥40)=true:=decide_eq_true (by omega)
    rw [if_pos h2];simp only [d];rfl
  have d2:decide (((s.1.2.length:Nat):Int)≥40)=false:=decide_eq_false (by omega)
  rw [if_neg h2];simp only [d2]
  refine aa (YD hG s (oA o) OW hg) ?_
  refine aa (YD hG s (oB o) OW hg) ?_
  refine aa (BQ (hG _ _ rfl) s.1 (oB o).1 (by omega)) ?_
  rw [show (oP zV (bh s.1 (oB o).1)).2.1=(bh s.1 (oB o).1).isSome from gP _ _]
  have b1:=hs.dm (aS o,(e0,0))
  have b2:=b1.bR (aT s (oA o)).1 (aS o,0)
  have fin:∀(bc:oU),kr s o=bR (bR (s.1.1,dm (aS o,(e0,0)) s.1.2) (aT s (oA o)).1 (aS o,0)) bc (aS o,1) →
      (cond ((aT s (oA o)).2.1 != 0) (some (((([],[]),[]),((13:Int),())),()))
       (cond ((aT s (oB o)).2.1 != 0) (some (((([],[]),[]),((13:Int),())),()))
        ((FX G 71 xe ((s.1,((aS o,(e0,(0:Int))),())),())).bind fun (y5:((ai×Unit)×Unit)) =>
        (FX G 72 xf ((y5.1.1,((aT s (oA o)).1,((aS o,(0:Int)),()))),())).bind fun (y6:((ai×Unit)×Unit)) =>
        (FX G 72 xf ((y6.1.1,(bc,((aS o,(1:Int)),()))),())).bind fun (y7:((ai×Unit)×Unit)) =>
        (FX G 64 Fz ((y7.1.1,()),())).bind fun (y8:((Int×Unit)×Unit)) =>
        cond (y8.1.1 != (0:Int))
         (some (((([],[]),[]),((15:Int),())),()))
         (some (((y7.1.1,s.2),((0:Int),())),())))):Option ((StateT×(Int×Unit))×Unit)) =
      some ((if (aT s (oA o)).2.1≠0 then (zS,(13,())) else if (aT s (oB o)).2.1≠0 then (zS,(13,())) else if iU (kr s o)≠0 then (zS,(15,())) else ((kr s o,s.2),(0,())):StateT×(Int×Unit)),()):=by
    intro bc hbc
    by_cases h3:(aT s (oA o)).2.1=0
    case neg =>
      have d:((aT s (oA o)).2.1 != 0)=true:=by simp [h3]
      rw [if_pos h3,d];rfl
    rw [if_neg (by simp [h3]),show ((aT s (oA o)).2.1 != 0)=false by simp [h3]]
    by_cases h4:(aT s (oB o)).2.1=0
    case neg =>
      have d:((aT s (oB o)).2.1 != 0)=true:=by simp [h4]
      rw [if_pos h4,d];rfl
    rw [if_neg (by simp [h4]),show ((aT s (oB o)).2.1 != 0)=false by simp [h4]]
    simp only [cond_false]
    have b3:=b2.bR bc (aS o,1)
    rw [←hbc] at b3
    refine aa (Yu hG s.1 (aS o,(e0,0)) (by omega)) ?_
    refine aa (Yw hG _ _ _ (b1.sm (by omega))) ?_
    refine aa ((Yw hG (bR (s.1.1,dm (aS o,(e0,0)) s.1.2) (aT s (oA o)).1 (aS o,0)) bc (aS o,1) (b2.sm (by omega))).trans (congrArg (fun z:ai=>some ((z,()),())) hbc.symm)) ?_
    refine aa (adF hG (kr s o) (b3.sm (by omega)) (by have:=b3.e;omega)) ?_
    by_cases h5:iU (kr s o)=0
    · rw [if_neg (by simp [h5])]
      have d:(iU (kr s o) != 0)=false:=by simp [h5]
      simp only [d];rfl
    · rw [if_pos h5]
      have d:(iU (kr s o) != 0)=true:=by simp [h5]
      simp only [d];rfl
  have hb:((((oB o).2.1.1==o.2.1.1)&&((oB o).2.1.2==o.2.1.2))&&((oB o).2.2==(0:Int)))=decide ((oB o).2=(aS o,0)):=kh (oB o).2 (aS o,0)
  simp only [hb]
  cases h6:(bh s.1 (oB o).1).isSome
  · exact fin (aT s (oB o)).1 (by unfold kr;rw [if_neg (by simp [h6])])
  · by_cases h7:(oB o).2=(aS o,0)
    · have d:=decide_eq_true h7
      simp only [d]
      exact fin (oB o) (by unfold kr;rw [if_pos ⟨h6,h7⟩])
    · have d:=decide_eq_false h7
      simp only [d]
      exact fin (aT s (oB o)).1 (by unfold kr;rw [if_neg (by simp [h7])])
def Ee(s:StateT)(o:bB):StateT×(Int×Unit) :=
 if (gI s.1 (aS o)).isSome=false then (zS,(13,()))
 else ((bu (aB (aB s.1 (aS o,0)) (aS o,1)) zI (aS o),
  bK (bK s.2 ((aS o,0),cZ s.1 (aS o,0))) ((aS o,1),cZ s.1 (aS o,1))),(0,()))
theorem adN(hG:HG G){n:Nat}(s:StateT)(o:bB)(hs:Bd n s.1)(hn:n≤4000000)(hg:s.2.length≤5000000):FX G 49 NG ((s,o,()),())=some (Ee s o,()):=by
 have hv:=hs.v;have he:=hs.e
 have OW:=hs.sm (by omega)
 refine ar (fn:=Tryz.f49) (hG _ _ rfl) (by kernel_rfl) (by kernel_rfl) ((aco _ _ _).trans ?_)
 refine aa (Rp (hG _ _ rfl) s.1 (aS o) (by omega)) ?_
 rw [show (oP zE (gI s.1 (aS o))).2.1=(gI s.1 (aS o)).isSome from gP _ _]
 unfold Ee
 cases h1:(gI s.1 (aS o)).isSome
 case false=>rw [if_pos rfl];rfl
 rw [if_neg (by simp)]
 have b1:=hs.aB (aS o,0)
 have b2:=b1.aB (aS o,1)
 have l1:=dZ s.2 ((aS o,0),cZ s.1 (aS o,0))
 refine aa (Yz hG s.1 (aS o,0) OW) ?_
 refine aa (Rs hG s.2 ((aS o,0),cZ s.1 (aS o,0)) (by omega)) ?_
 refine aa (Yz hG s.1 (aS o,1) OW) ?_
 refine aa (Rs hG (bK s.2 ((aS o,0),cZ s.1 (aS o,0))) ((aS o,1),cZ s.1 (aS o,1)) (by omega)) ?_
 refine aa (Yy hG s.1 (aS o,0) OW) ?_
 refine aa (Yy hG (aB s.1 (aS o,0)) (aS o,1) (b1.sm (by omega))) ?_
 exact aa (Rq (hG _ _ rfl) (aB (aB s.1 (aS o,0)) (aS o,1)) zI (aS o) (by have:=b2.v;omega) (by have:=b2.e;omega)) rfl
def Hu(o:bB):ab:=(aS o,IntKind.wrap .i64 (1 - Int.tmod (oN o) 2))
def Ez(o:bB):ab:=(aU o,IntKind.wrap .i64 (Int.tdiv (oN o) 2))
def OX(s:StateT)(o:bB):ai :=
 (dR (ed o,(cG [Hu o,Ez o],(e0,0))) (aD s.1 (Hu o) (aq (Ez o))).1,dm (aU o,(e0,0)) (aD s.1 (Hu o) (aq (Ez o))).2)
def lB(s:StateT)(o:bB):StateT×(Int×Unit) :=
 if (gI s.1 (aS o)).isSome=false then (zS,(13,()))
 else if (bh s.1 (ed o)).isSome=true then (zS,(12,()))
 else if (gI s.1 (aU o)).isSome=true then (zS,(12,()))
 else if 24≤s.1.1.length then (zS,(3,()))
 else if 40≤s.1.2.length then (zS,(3,()))
 else ((OX s o,s.2),(0,()))
theorem adO(hG:HG G){n:Nat}(s:StateT)(o:bB)(hs:Bd n s.1)(hn:n≤4000000):FX G 50 NH ((s,o,()),())=some (lB s o,()):=by
 have hv:=hs.v;have he:=hs.e
 have OW:=hs.sm (by omega)
 refine ar (fn:=Tryz.f50) (hG _ _ rfl) (by kernel_rfl) (by kernel_rfl) ((acp _ _ _).trans ?_)
 refine aa (Rp (hG _ _ rfl) s.1 (aS o) (by omega)) ?_
 rw [show (oP zE (gI s.1 (aS o))).2.1=(gI s.1 (aS o)).isSome from gP _ _]
 unfold lB
 cases h1:(gI s.1 (aS o)).isSome
 case false=>rw [if_pos rfl];rfl
 rw [if_neg (by simp)]
 refine aa (BQ (hG _ _ rfl) s.1 (ed o) (by omega)) ?_
 rw [show (oP zV (bh s.1 (ed o))).2.1=(bh s.1 (ed o)).isSome from gP _ _]
 refine aa (Rp (hG _ _ rfl) s.1 (aU o) (by omega)) ?_
 rw [show (oP zE (gI s.1 (aU o))).2.1=(gI s.1 (aU o)).isSome from gP _ _]
 cases h2:(bh s.1 (ed o)).isSome
 case true=>rw [if_pos rfl];rfl
 rw [if_neg (by simp)]
 cases h3:(gI s.1 (aU o)).isSome
 case true=>rw [if_pos rfl];rfl
 rw [if_neg (by simp)]
 by_cases h4:24≤s.1.1.length
 ·have d:decide (((s.1.1.length:Nat):Int)≥24)=true:=decide_eq_true (by omega)
  rw [if_pos h4];simp only [d];rfl
 have d4:decide (((s.1.1.length:Nat):Int)≥24)=false:=decide_eq_false (by omega)
 rw [if_neg h4]
 by_cases h5:40≤s.1.2.length
 ·have d:decide (((s.1.2.length:Nat):Int)≥40)=true:=decide_eq_true (by omega)
  rw [if_pos h5];simp only [d4,d];rfl
 have d5:decide (((s.1.2.length:Nat):Int)≥40)=false:=decide_eq_false (by omega)
 rw [if_neg h5]
 simp only [d4,d5]
 have d6:((2:Int)==0)=false:=rfl
 simp only [d6]
 have b1:=hs.aD (Hu o) (aq (Ez o))
 have b2:=b1.dm (aU o,(e0,0))
 refine aa (Uv (hG _ _ rfl) (Ez o)) ?_
 refine aa (Yx hG s.1 (Hu o) (aq (Ez o)) OW) ?_
 refine aa (Yu hG (aD s.1 (Hu o) (aq (Ez o))) (aU o,(e0,0)) (by have:=b1.e;omega)) ?_
 refine aa (Gm hG [Hu o,Ez o] (by simp)) ?_
 exact aa (Yt hG ((aD s.1 (Hu o) (aq (Ez o))).1,dm (aU o,(e0,0)) (aD s.1 (Hu o) (aq (Ez o))).2) (ed o,(cG [Hu o,Ez o],(e0,0))) (Nat.le_trans b1.v (by omega))) rfl
end Go.Vs
namespace Go.Vs
open Go.Proofs
variable {G:(f:FuncId)→(g:aJ)→Option (g.A→Option g.B)}
def oZ(a b:ab)(i:Int):ab:=if (b.1,i)=aq b then a else zD
def Gv(g:List ak)(a b:ab):List ak:=bK (bK g ((b.1,0),oZ a b 0)) ((b.1,1),oZ a b 1)
def IB(s:StateT)(o:bB)(a b:ab):ai:=bu (aD (bu s.1 (aS o) zI) (aq b) a) zI b.1
theorem adP(hG:HG G)(g:List ak)(a b:ab)(d:ai)(hg:g.length≤5000000) :
  LX G 51 xc Tryz.f51 lu (aP Tryz.prog 51 0) ((g,((0:Int),())),(((([]:List ah),(([]:List af),(([]:List ak),()))),((a,()),((b,()),((aq b,()),((d,()),()))))),()))=some (((d,Gv g a b),((0:Int),())),()):=by
 have l2:∀g2:List ak,LX G 51 xc Tryz.f51 lu (aP Tryz.prog 51 0) ((g2,((2:Int),())),(((([]:List ah),(([]:List af),(([]:List ak),()))),((a,()),((b,()),((aq b,()),((d,()),()))))),()))=some (((d,g2),((0:Int),())),()):=fun g2 =>
  au (j:=0) (by kernel_rfl) ((N4 _ _ _).trans (ag rfl rfl))
 have step:∀(i:Int) (g1:List ak) (r:(StateT×(Int×Unit))×Unit),i<2→g1.length≤5000001→LX G 51 xc Tryz.f51 lu (aP Tryz.prog 51 0) ((bK g1 ((b.1,i),oZ a b i),(IntKind.wrap .i64 (i+1),())),(((([]:List ah),(([]:List af),(([]:List ak),()))),((a,()),((b,()),((aq b,()),((d,()),()))))),()))=some r →
   LX G 51 xc Tryz.f51 lu (aP Tryz.prog 51 0) ((g1,(i,())),(((([]:List ah),(([]:List af),(([]:List ak),()))),((a,()),((b,()),((aq b,()),((d,()),()))))),()))=some r:=fun i g1 r hi hg1 h=>by
  refine au (j:=0) (by kernel_rfl) ((N4 _ _ _).trans ?_)
  refine ae (decide_eq_true hi) ?_
  unfold oZ at h
  by_cases he:((b.1,i):ab)=aq b
  ·rw [if_pos he] at h
   refine ae ((kh (b.1,i) (aq b)).trans (decide_eq_true he)) ?_
   refine aa (Rs hG g1 ((b.1,i),a) (by omega)) ?_
   exact h
  ·rw [if_neg he] at h
   refine ag ((kh (b.1,i) (aq b)).trans (decide_eq_false he)) ?_
   refine aa (Rs hG g1 ((b.1,i),zD) (by omega)) ?_
   exact h
 have a1:=dZ g ((b.1,0),oZ a b 0)
 refine step 0 g _ (by omega) (by omega) ?_
 refine step 1 _ _ (by omega) (by omega) ?_
 exact l2 _
def jL(s:StateT)(o:bB)(r0 r1:ab):StateT×(Int×Unit) :=
 if r0.1=r1.1 then (zS,(14,()))
 else if r0.1=aU o then ((IB s o r1 r0,Gv s.2 r1 r0),(0,()))
 else if r1.1=aU o then ((IB s o r0 r1,Gv s.2 r0 r1),(0,()))
 else (zS,(14,()))
def kE(s:StateT)(o:bB):StateT×(Int×Unit):=match bh s.1 (aS o) with
 | none=>(zS,(13,()))
 | some v=>match v.2.1 with
  | [r0,r1]=>jL s o r0 r1
  | _=>(zS,(14,()))
theorem adQ(hG:HG G){n:Nat}(s:StateT)(o:bB)(hs:Bd n s.1)(hn:n≤4000000)(hg:s.2.length≤5000000):FX G 51 xc ((s,o,()),())=some (kE s o,()):=by
  have hv:=hs.v;have he:=hs.e
  have OW:=hs.sm (by omega)
  refine ar (fn:=Tryz.f51) (hG _ _ rfl) (by kernel_rfl) (by kernel_rfl) ((acq _ _ _).trans ?_)
  refine aa (BQ (hG _ _ rfl) s.1 (aS o) (by omega)) ?_
  unfold kE
  cases hf:bh s.1 (aS o) with
  | none=>rfl
  | some v =>
    refine ag (show (!true)=false from rfl) ?_
    have two:∀(a b:ab) (r:Option ((StateT×(Int×Unit))×Unit)),r=some (((IB s o a b,Gv s.2 a b),((0:Int),())),()) →
        ((FX G 23 BG ((b,()),())).bind fun (y8:((ab×Unit)×Unit)) =>
         (FX G 47 oi ((s.1,(aS o,(zI,()))),())).bind fun (y9:((ai×Unit)×Unit)) =>
         (FX G 76 FC ((y9.1.1,(y8.1.1,(a,()))),())).bind fun (oq:((ai×Unit)×Unit)) =>
         (FX G 47 oi ((oq.1.1,(zI,(b.1,()))),())).bind fun (kz:((ai×Unit)×Unit)) =>
         LX G 51 xc Tryz.f51 lu (aP Tryz.prog 51 0) ((s.2,((0:Int),())),(((([]:List ah),(([]:List af),(([]:List ak),()))),((a,()),((b,()),((y8.1.1,()),((kz.1.1,()),()))))),())))=r:=fun a b r hr=>by
      subst hr
      have b1:=hs.bu (aS o) zI
      have b2:=b1.aD (aq b) a
      refine aa (Uv (hG _ _ rfl) b) ?_
      refine aa (Rq (hG _ _ rfl) s.1 (aS o) zI (by omega) (by omega)) ?_
      refine aa (Yx hG (bu s.1 (aS o) zI) (aq b) a (b1.sm (by omega))) ?_
      refine aa (Rq (hG _ _ rfl) (aD (bu s.1 (aS o) zI) (aq b) a) zI b.1 (by have:=b2.v;omega) (by have:=b2.e;omega)) ?_
      exact adP hG s.2 a b (IB s o a b) hg
    obtain ⟨vi,ring,vr⟩:=v
    by_cases hl:ring.length=2
    case neg =>
      refine ae (show ((((ring.length:Nat):Int)) != 2)=true by simp;omega) ?_
      match ring,hl with
      | [],_=>rfl
      | [_],_=>rfl
      | [_,_],h=>exact absurd rfl h
      | _::_::_::_,_=>rfl
    match ring,hl with
    | [r0,r1],_ =>
      refine ag (show ((((2:Nat):Int)) != 2)=false from rfl) ?_
      refine aa (show aV [r0,r1] 0=some r0 from rfl) ?_
      refine aa (show aV [r0,r1] 1=some r1 from rfl) ?_
      show _=some (jL s o r0 r1,())
      unfold jL
      by_cases h1:r0.1=r1.1
      · rw [if_pos h1]
        exact ae ((iY r0.1 r1.1).trans (decide_eq_true h1)) rfl
      rw [if_neg h1]
      refine ag ((iY r0.1 r1.1).trans (decide_eq_false h1)) ?_
      refine aa (show aV [r0,r1] 0=some r0 from rfl) ?_
      refine aa (show aV [r0,r1] 1=some r1 from rfl) ?_
      by_cases h2:r0.1=aU o
      · rw [if_pos h2]
        refine ae ((iY r0.1 (aU o)).trans (decide_eq_true h2)) ?_
        refine aa (show aV [r0,r1] 1=some r1 from rfl) ?_
        refine aa (show aV [r0,r1] 0=some r0 from rfl) ?_
        refine ag (by rw [show ((r0.1.1==(aU o).1)&&(r0.1.2==(aU o).2))=true from (iY r0.1 (aU o)).trans (decide_eq_true h2)];rfl) ?_
        exact two r1 r0 _ rfl
      rw [if_neg h2]
      refine ag ((iY r0.1 (aU o)).trans (decide_eq_false h2)) ?_
      by_cases h3:r1.1=aU o
      · rw [if_pos h3]
        refine ag (by rw [show ((r1.1.1==(aU o).1)&&(r1.1.2==(aU o).2))=true from (iY r1.1 (aU o)).trans (decide_eq_true h3)];rfl) ?_
        exact two r0 r1 _ rfl
      · rw [if_neg h3]
        exact ae (by rw [show ((r1.1.1==(aU o).1)&&(r1.1.2==(aU o).2))=false from (iY r1.1 (aU o)).trans (decide_eq_false h3)];rfl) rfl
def rS(s:StateT)(o:bB):StateT×(Int×Unit) :=
 if (bh s.1 (aS o)).isSome=true then (zS,(12,())) else if 24≤s.1.1.length then (zS,(3,())) else (((dR (aS o,([],(e0,0))) s.1.1,s.1.2),s.2),(0,()))
def wV(s:StateT)(o:bB):StateT×(Int×Unit):=match bh s.1 (aS o) with
 | none=>(zS,(13,()))
 | some v=>if 0<v.2.1.length then (zS,(14,())) else ((bu s.1 (aS o) zI,s.2),(0,()))
def qi(s:StateT)(o:bB):StateT×(Int×Unit) :=
 if cx o≠0 then (zS,(cx o,()))
 else if o.1=1 then rS s o else if o.1=2 then wV s o else if o.1=3 then rR s o else if o.1=4 then Ee s o else if o.1=5 then lB s o else if o.1=6 then kE s o else vE s o
theorem adR(hG:HG G){n:Nat}(s:StateT)(o:bB)(hs:Bd n s.1)(hn:n≤4000000)(hg:s.2.length≤5000000)(ht:mC o):FX G 15 NA ((s,o,()),())=some (qi s o,()):=by
 have hv:=hs.v;have he:=hs.e
 refine ar (fn:=Tryz.f15) (hG _ _ rfl) (by kernel_rfl) (by kernel_rfl) ((abW _ _ _).trans ?_)
 refine aa (YH hG o ht) ?_
 unfold qi
 by_cases h0:cx o=0
 case neg =>
  rw [if_pos h0]
  exact ae (show (cx o != 0)=true by simp [h0]) rfl
 rw [if_neg (by simp [h0])]
 refine ag (show (cx o != 0)=false by simp [h0]) ?_
 refine aa (BQ (hG _ _ rfl) s.1 (aS o) (by omega)) ?_
 by_cases h1:o.1=1
 ·rw [if_pos h1]
  refine ae (show (o.1==(1:Int))=true by simp [h1]) ?_
  rw [show (oP zV (bh s.1 (aS o))).2.1=(bh s.1 (aS o)).isSome from gP _ _]
  unfold rS
  cases hf:(bh s.1 (aS o)).isSome
  ·rw [if_neg (by simp)]
   refine ag rfl ?_
   by_cases h4:24≤s.1.1.length
   ·rw [if_pos h4]
    exact ae (decide_eq_true (show ((s.1.1.length:Nat):Int)≥24 by omega)) rfl
   ·rw [if_neg h4]
    refine ag (decide_eq_false (show ¬((s.1.1.length:Nat):Int)≥24 by omega)) ?_
    exact aa (Yt hG s.1 (aS o,([],(e0,0))) (by omega)) rfl
  ·rw [if_pos rfl];rfl
 rw [if_neg h1]
 refine ag (show (o.1==(1:Int))=false by simp [h1]) ?_
 by_cases h2:o.1=2
 ·rw [if_pos h2]
  refine ae (show (o.1==(2:Int))=true by simp [h2]) ?_
  unfold wV
  cases hf:bh s.1 (aS o) with
  | none=>rfl
  | some v =>
   refine ag (show (!true)=false from rfl) ?_
   by_cases h4:0<v.2.1.length
   ·show _=some ((if 0<v.2.1.length then (zS,(14,())) else ((bu s.1 (aS o) zI,s.2),(0,())):StateT×(Int×Unit)),())
    rw [if_pos h4]
    exact ae (decide_eq_true (show ((v.2.1.length:Nat):Int) > 0 by omega)) rfl
   ·show _=some ((if 0<v.2.1.length then (zS,(14,())) else ((bu s.1 (aS o) zI,s.2),(0,())):StateT×(Int×Unit)),())
    rw [if_neg h4]
    refine ag (decide_eq_false (show ¬((v.2.1.length:Nat):Int) > 0 by omega)) ?_
    exact aa (Rq (hG _ _ rfl) s.1 (aS o) zI (by omega) (by omega)) rfl
 rw [if_neg h2]
 refine ag (show (o.1==(2:Int))=false by simp [h2]) ?_
 by_cases h3:o.1=3
 ·rw [if_pos h3]
  refine ae (show (o.1==(3:Int))=true by simp [h3]) ?_
  exact aa (adM hG s o hs hn (by omega)) rfl
 rw [if_neg h3]
 refine ag (show (o.1==(3:Int))=false by simp [h3]) ?_
 by_cases h4:o.1=4
 ·rw [if_pos h4]
  refine ae (show (o.1==(4:Int))=true by simp [h4]) ?_
  exact aa (adN hG s o hs hn hg) rfl
 rw [if_neg h4]
 refine ag (show (o.1==(4:Int))=false by simp [h4]) ?_
 by_cases h5:o.1=5
 ·rw [if_pos h5]
  refine ae (show (o.1==(5:Int))=true by simp [h5]) ?_
  exact aa (adO hG s o hs hn) rfl
 rw [if_neg h5]
 refine ag (show (o.1==(5:Int))=false by simp [h5]) ?_
 by_cases h6:o.1=6
 ·rw [if_pos h6]
  refine ae (show (o.1==(6:Int))=true by simp [h6]) ?_
  exact aa (adQ hG s o hs hn hg) rfl
 rw [if_neg h6]
 refine ag (show (o.1==(6:Int))=false by simp [h6]) ?_
 exact aa (adL hG s o (hs.sm (by omega))) rfl
structure Bs(n:Nat)(s:StateT):Prop where
 d:Bd n s.1
 g:s.2.length≤n
theorem Bs.mono{n m:Nat}{s:StateT}(h:Bs n s)(hm:n≤m):Bs m s:=⟨h.d.mono hm,by have:=h.g;omega⟩
theorem Bs.zero(n:Nat):Bs n zS:=⟨⟨Nat.zero_le _,Nat.zero_le _,fun w hw=>by simp [zS] at hw⟩,Nat.zero_le _⟩
theorem Bs.one{n:Nat}{s:StateT}(h:Bs n s)(o:bB):Bs (n+3) (qi s o).1:=by
 have h1:=h.d;have h2:=h.g
 unfold qi
 split
 ·exact Bs.zero _
 split
 ·unfold rS;split
  ·exact Bs.zero _
  split
  ·exact Bs.zero _
  ·exact ⟨(h1.dR _ (by simp)).mono (by omega),by simp only;omega⟩
 split
 ·unfold wV
  cases bh s.1 (aS o) with
  | none=>exact Bs.zero _
  | some v =>
   simp only
   split
   ·exact Bs.zero _
   ·exact ⟨(h1.bu _ _).mono (by omega),by simp only;omega⟩
 split
 ·unfold rR
  split;· exact Bs.zero _
  split;· exact Bs.zero _
  split;· exact Bs.zero _
  split;· exact Bs.zero _
  split;· exact Bs.zero _
  exact ⟨by unfold kr;exact ((h1.dm _).bR _ _).bR _ _,by simp only;omega⟩
 split
 ·unfold Ee
  split;· exact Bs.zero _
  refine ⟨(((h1.aB _).aB _).bu _ _).mono (by omega),?_⟩
  have a1:=dZ s.2 ((aS o,0),cZ s.1 (aS o,0))
  have a2:=dZ (bK s.2 ((aS o,0),cZ s.1 (aS o,0))) ((aS o,1),cZ s.1 (aS o,1))
  simp only;omega
 split
 ·unfold lB
  split;· exact Bs.zero _
  split;· exact Bs.zero _
  split;· exact Bs.zero _
  split;· exact Bs.zero _
  split;· exact Bs.zero _
  refine ⟨?_,by simp only;omega⟩
  have b2:=((h1.aD (Hu o) (aq (Ez o))).dm (aU o,(e0,0)))
  exact (b2.dR (ed o,(cG [Hu o,Ez o],(e0,0))) (by simp [fL])).mono (by omega)
 split
 ·unfold kE
  have key:∀a b:ab,Bs (n+3) (IB s o a b,Gv s.2 a b):=fun a b=>by
   refine ⟨(((h1.bu _ _).aD _ _).bu _ _).mono (by omega),?_⟩
   have a1:=dZ s.2 ((b.1,0),oZ a b 0)
   have a2:=dZ (bK s.2 ((b.1,0),oZ a b 0)) ((b.1,1),oZ a b 1)
   simp only [Gv];omega
  split
  ·exact Bs.zero _
  ·split
   ·unfold jL
    split;· exact Bs.zero _
    split;· exact key _ _
    split;· exact key _ _
    exact Bs.zero _
   ·exact Bs.zero _
 ·unfold vE
  split
  ·refine ⟨⟨by simp;have:=h1.v;omega,by simp;have:=h1.e;omega,fun w hw => ?_⟩,by simp only;omega⟩
   obtain ⟨u,hu,rfl⟩:=List.mem_map.1 hw
   have hr:=h1.r u hu
   have e:(iB o u).2.1=u.2.1:=by unfold iB;split<;>(try split)<;>rfl
   rw [e];omega
  ·exact Bs.zero _
def Lv:List bB→StateT→StateT×(Int×Unit)
 | [],s=>(s,(0,()))
 | o::r,s=>if (qi s o).2.1≠0 then (zS,(qi s o).2) else Lv r (qi s o).1
def fi(s:StateT)(l:List bB):StateT×(Int×Unit):=if fq l≠0 then (zS,(fq l,())) else Lv l s
theorem Bs.go{l:List bB}:∀{n:Nat} {s:StateT},Bs n s→Bs (n+3 * l.length) (Lv l s).1:=by
 induction l with
 | nil=>intro n s h;exact h.mono (by simp)
 | cons o r ih =>
  intro n s h
  unfold Lv
  split
  ·exact Bs.zero _
  ·exact (ih (h.one o)).mono (by simp;omega)
theorem YI(hG:HG G){n:Nat}(s:StateT)(l:List bB)(hs:Bs n s)(hn:n+3 * l.length≤3000000)(ht:∀o∈l,mC o):FX G 35 DO ((s,l,()),())=some (fi s l,()):=by
 refine ar (fn:=Tryz.f35) (hG _ _ rfl) (by kernel_rfl) (by kernel_rfl) ((acd _ _ _).trans ?_)
 refine aa (adJ hG l ht) ?_
 unfold fi
 by_cases h0:fq l=0
 case neg =>
  rw [if_pos h0]
  exact ae (show (fq l != 0)=true by simp [h0]) rfl
 rw [if_neg (by simp [h0])]
 refine ag (show (fq l != 0)=false by simp [h0]) ?_
 have key:=bT l (fun i (s:StateT)=>LX G 35 DO Tryz.f35 z6 (aP Tryz.prog 35 0) ((i,()),(((s,()),((l,()),((([]:List ah),(([]:List af),(([]:List ak),()))),()))),()))) (fun (r:List bB) (s:StateT)=>(Lv r s,()))
  (fun m s=>∃k,Bs k s∧k+3 * m≤3000000)
  (fun s _=>by
   exact au (j:=0) (by kernel_rfl) ((NY _ _ _).trans (ag (db _) rfl)))
  (fun i o r s hi hx BR hk ih=>by
   obtain ⟨k,hb,hk⟩:=hk
   refine au (j:=0) (by kernel_rfl) ((NY _ _ _).trans ?_)
   refine ae (aX hi) ?_
   refine aa (aK hx) ?_
   have hbd:=hb.d;have hbg:=hb.g
   refine aa (adR hG s o hbd (by omega) (by omega) (ht o (List.mem_of_getElem? hx))) ?_
   rw [Lv]
   by_cases h1:(qi s o).2.1=0
   ·rw [if_neg (by simp [h1])]
    refine ag (show ((qi s o).2.1 != 0)=false by simp [h1]) ?_
    rw [aI hi (show l.length≤1073741824 by omega)]
    exact ih (qi s o).1 ⟨k+3,hb.one o,by omega⟩
   ·rw [if_pos h1]
    exact ae (show ((qi s o).2.1 != 0)=true by simp [h1]) rfl)
  s ⟨n,hs,hn⟩
 exact key
def rq(s:StateT)(l:List bB):StateT:=if (fi s l).2.1≠0 then s else (fi s l).1
theorem adS(hG:HG G){n:Nat}(s:StateT)(l:List bB)(hs:Bs n s)(hn:n+3 * l.length≤3000000)(ht:∀o∈l,mC o):FX G 37 NC ((s,l,()),())=some ((rq s l,()),()):=by
 refine ar (fn:=Tryz.f37) (hG _ _ rfl) (by kernel_rfl) (by kernel_rfl) ((acf _ _ _).trans ?_)
 refine aa (YI hG s l hs hn ht) ?_
 unfold rq
 by_cases h1:(fi s l).2.1=0
 ·rw [if_neg (by simp [h1])]
  exact ag (show ((fi s l).2.1 != 0)=false by simp [h1]) rfl
 ·rw [if_pos h1]
  exact ae (show ((fi s l).2.1 != 0)=true by simp [h1]) rfl
theorem Bs.try{n:Nat}{s:StateT}{l:List bB}(h:Bs n s):Bs (n+3 * l.length) (rq s l):=by
 unfold rq
 split
 ·exact h.mono (by omega)
 ·unfold fi
  split
  ·exact Bs.zero _
  ·exact h.go
def lC:Nat→List (List bB)→StateT→StateT
 | 0,_,s=>s
 | _+1,[],s=>s
 | n+1,l::r,s=>lC n r (rq s (l.take 8))
def AA(l:List (List bB)):StateT:=lC 30 l zS
theorem Bs.reach:∀(m:Nat) (l:List (List bB)) {n:Nat} {s:StateT},Bs n s→Bs (n+24 * m) (lC m l s)
 | 0,_,n,s,h=>by simpa [lC] using h
 | m+1,[],n,s,h=>h.mono (by omega)
 | m+1,l::r,n,s,h=>by
  rw [lC]
  have h1:Bs (n+3 * (l.take 8).length) (rq s (l.take 8)):=h.try
  have hl:(l.take 8).length≤8:=by simp;omega
  exact (Bs.reach m r (h1.mono (show n+3 * (l.take 8).length≤n+24 by omega))).mono (by omega)
theorem Bs.JZ(l:List (List bB)):Bs 720 (AA l):=(Bs.reach 30 l (Bs.zero 0)).mono (by omega)
end Go.Vs
