/- What the document's reference computes, written plainly, the second part. -/
import Derived.Test.YtpldhjjpeldkaaaGreatRefA
set_option linter.unusedVariables false
set_option linter.unusedSimpArgs false
namespace Go.Vs
open Go.Proofs
variable {G:(f:FuncId)→(g:aL)→Option (g.A→Option g.B)}
def yx(x:ID):List ai→Int→Int
 | [],_ => -1
 | v::r,i=>if v.1=x then i else yx x r (i+1)
theorem I3(x:ID):∀(l:List ai) (i:Int),0≤i→yx x l i = -1∨(i≤yx x l i∧yx x l i<i+l.length)
 | [],i,_=>.inl rfl
 | v::r,i,h=>by
  unfold yx
  split
  ·right;simp;omega
  ·rcases I3 x r (i+1) (by omega) with h | h
   ·exact .inl h
   ·right;simp;omega
theorem Y8(hG:G 55 B7=none)(d:aj)(x:ID)(hs:Sm d):FX G 55 B7 ((d,x,()),())=some ((yx x d.1 0,()),()):=by
 have hv:=hs.v
 refine aw (fn:=Tryz.f55) hG (by kernel_rfl) (by kernel_rfl) ((ac1 _ _ _).trans ?_)
 have loop:∀(n i:Nat),i+n=d.1.length→LX G 55 B7 Tryz.f55 Ay (aM Tryz.prog 55 0) (((i:Int),()),(((d,()),((x,()),())),()))=some ((yx x (d.1.drop i) i,()),()):=by
  intro n
  induction n with
  | zero =>
   intro i hi
   refine ar (j:=0) (by kernel_rfl) ((OF _ _ _).trans ?_)
   have h1:¬((i:Int)<(d.1.length:Int)):=by omega
   have h2:d.1.drop i=[]:=List.drop_eq_nil_of_le (by omega)
   rw [h2]
   simp only [h1,decide_false];rfl
  | succ n ih =>
   intro i hi
   refine ar (j:=0) (by kernel_rfl) ((OF _ _ _).trans ?_)
   have aJ:i<d.1.length:=by omega
   have h2:d.1.drop i=d.1[i]::d.1.drop (i+1):=List.drop_eq_getElem_cons aJ
   have hx:d.1[i]? = some d.1[i]:=List.getElem?_eq_getElem aJ
   rw [h2,yx]
   simp only [aT aJ,az hx,Option.bind_some,iZ,aH aJ (show d.1.length≤1073741824 by omega)]
   by_cases he:d.1[i].1=x
   ·have d1:=decide_eq_true he
    rw [if_pos he];simp only [d1];rfl
   ·have d1:=decide_eq_false he
    rw [if_neg he];simp only [d1];exact ih (i+1) (by omega)
 exact loop d.1.length 0 (by omega)
def EB(d:aj)(e:ah)(out:List Int):List Int :=
 let a:=yx ((ct d (e.1,0)).getD zI) d.1 0
 let b:=yx ((ct d (e.1,1)).getD zI) d.1 0
 if 0≤a∧0≤b then (out.set a.toNat (min (out.getD a.toNat 0) (out.getD b.toNat 0))).set b.toNat (min (out.getD a.toNat 0) (out.getD b.toNat 0)) else out
def jh(d:aj):List ah→List Int→List Int
 | [],out=>out
 | e::r,out=>jh d r (EB d e out)
def GN(d:aj):Nat→List Int→List Int
 | 0,out=>out
 | n+1,out=>GN d n (jh d d.2 out)
def Ce(n:Nat):List Int:=(List.range n).map fun i=>((i:Nat):Int)
def labels(d:aj):List Int:=GN d d.1.length (Ce d.1.length)
theorem GO(d:aj)(e:ah)(out:List Int):(EB d e out).length=out.length:=by
 unfold EB;simp only;split<;>simp
theorem uM(d:aj):∀(l:List ah) (out:List Int),(jh d l out).length=out.length
 | [],out=>rfl
 | e::r,out=>by rw [jh,uM d r,GO]
theorem xj(d:aj):∀(n:Nat) (out:List Int),(GN d n out).length=out.length
 | 0,out=>rfl
 | n+1,out=>by rw [GN,xj d n,uM]
theorem Cf(d:aj):(labels d).length=d.1.length:=by unfold labels;rw [xj];simp [Ce]
theorem U7(hG:HG G)(d:aj)(hs:Sm d)(n:Int)(R:List Int→List Int)
  (hR:∀out:List Int,out.length=d.1.length→LX G 56 rB Tryz.f56 vK (aM Tryz.prog 56 1) ((IntKind.wrap .i64 (n+1),()),(((d,()),()),(out,())))=some ((R out,()),())) :
  ∀out:List Int,out.length=d.1.length→LX G 56 rB Tryz.f56 qi (aM Tryz.prog 56 2) ((n,((0:Int),())),(((d,()),()),(out,())))=some ((R (jh d d.2 out),()),()):=by
 have hv:=hs.v;have he:=hs.e
 have loop:∀(m i:Nat) (out:List Int),i+m=d.2.length→out.length=d.1.length→LX G 56 rB Tryz.f56 qi (aM Tryz.prog 56 2) ((n,((i:Int),())),(((d,()),()),(out,())))=some ((R (jh d (d.2.drop i) out),()),()):=by
  intro m
  induction m with
  | zero =>
   intro i out hi ho
   have h1:¬((i:Int)<(d.2.length:Int)):=by omega
   have h2:d.2.drop i=[]:=List.drop_eq_nil_of_le (by omega)
   rw [h2,jh]
   refine ar (j:=2) (by kernel_rfl) ((OI _ _ _).trans ?_)
   simp only [h1,decide_false]
   exact hR out ho
  | succ m ih =>
   intro i out hi ho
   have aJ:i<d.2.length:=by omega
   have h2:d.2.drop i=d.2[i]::d.2.drop (i+1):=List.drop_eq_getElem_cons aJ
   have hx:d.2[i]? = some d.2[i]:=List.getElem?_eq_getElem aJ
   rw [h2,jh]
   generalize d.2[i]=e at *
   refine ar (j:=2) (by kernel_rfl) ((OI _ _ _).trans ?_)
   simp only [aT aJ,az hx,Option.bind_some,aH aJ (show d.2.length≤1073741824 by omega)]
   refine aa (GL hG d (e.1,0) (by omega) (fun w hw=>by have:=hs.r w hw;omega)) ?_
   refine aa (GL hG d (e.1,1) (by omega) (fun w hw=>by have:=hs.r w hw;omega)) ?_
   rw [show (oF zI (ct d (e.1,0))).1=(ct d (e.1,0)).getD zI from jM _ _,show (oF zI (ct d (e.1,1))).1=(ct d (e.1,1)).getD zI from jM _ _]
   refine aa (Y8 (hG _ _ rfl) d ((ct d (e.1,0)).getD zI) hs) ?_
   refine aa (Y8 (hG _ _ rfl) d ((ct d (e.1,1)).getD zI) hs) ?_
   have hL:EB d e out=(if 0≤yx ((ct d (e.1,0)).getD zI) d.1 0∧0≤yx ((ct d (e.1,1)).getD zI) d.1 0 then (out.set (yx ((ct d (e.1,0)).getD zI) d.1 0).toNat (min (out.getD (yx ((ct d (e.1,0)).getD zI) d.1 0).toNat 0) (out.getD (yx ((ct d (e.1,1)).getD zI) d.1 0).toNat 0))).set (yx ((ct d (e.1,1)).getD zI) d.1 0).toNat (min (out.getD (yx ((ct d (e.1,0)).getD zI) d.1 0).toNat 0) (out.getD (yx ((ct d (e.1,1)).getD zI) d.1 0).toNat 0)) else out):=rfl
   have ha:=I3 ((ct d (e.1,0)).getD zI) d.1 0 (by omega)
   have hb:=I3 ((ct d (e.1,1)).getD zI) d.1 0 (by omega)
   generalize yx ((ct d (e.1,0)).getD zI) d.1 0=a at *
   generalize yx ((ct d (e.1,1)).getD zI) d.1 0=b at *
   by_cases h3:0≤a
   case neg =>
    have d3:decide (a≥0)=false:=decide_eq_false h3
    rw [hL,if_neg (by omega)]
    simp only [d3];exact ih (i+1) out (by omega) ho
   have d3:decide (a≥0)=true:=decide_eq_true h3
   by_cases h4:0≤b
   case neg =>
    have d4:decide (b≥0)=false:=decide_eq_false h4
    rw [hL,if_neg (by omega)]
    simp only [d3,d4];exact ih (i+1) out (by omega) ho
   have d4:decide (b≥0)=true:=decide_eq_true h4
   rw [if_pos ⟨h3,h4⟩] at hL
   have hal:a.toNat<out.length:=by omega
   have hbl:b.toNat<out.length:=by omega
   have xa:out[a.toNat]? = some out[a.toNat]:=List.getElem?_eq_getElem hal
   have xb:out[b.toNat]? = some out[b.toNat]:=List.getElem?_eq_getElem hbl
   have ga:out.getD a.toNat 0=out[a.toNat]:=by simp [List.getD,xa]
   have gb:out.getD b.toNat 0=out[b.toNat]:=by simp [List.getD,xb]
   rw [ga,gb] at hL
   generalize out[a.toNat]=p at *
   generalize out[b.toNat]=q at *
   have d5:decide ((0:Int)≤a)=true:=decide_eq_true h3
   have d6:decide ((0:Int)≤b)=true:=decide_eq_true h4
   have d7:decide (a<((out.length:Nat):Int))=true:=decide_eq_true (by omega)
   have d8:decide (b<((out.length:Nat):Int))=true:=decide_eq_true (by omega)
   have hbs:b.toNat<(out.set a.toNat (min p q)).length:=by simpa using hbl
   have d9:decide (b<(((out.set a.toNat (min p q)).length:Nat):Int))=true:=decide_eq_true (by simp;omega)
   have xs:(out.set a.toNat (min p q))[b.toNat]? = some (out.set a.toNat (min p q))[b.toNat]:=List.getElem?_eq_getElem hbs
   simp only [d3,d4,d5,d6,d7,d8,Bool.and_self,xa,xb,Option.bind_some,d9,xs]
   rw [hL]
   exact ih (i+1) ((out.set a.toNat (min p q)).set b.toNat (min p q)) (by omega) (by simp [ho])
 intro out ho
 exact loop d.2.length 0 out (by omega) ho
theorem aed(hG:HG G)(d:aj)(hs:Sm d):FX G 56 rB ((d,()),())=some ((labels d,()),()):=by
 have hv:=hs.v
 refine aw (fn:=Tryz.f56) (hG _ _ rfl) (by kernel_rfl) (by kernel_rfl) ((ac2 _ _ _).trans ?_)
 have l1:∀(n i:Nat) (out:List Int),i+n=d.1.length→out.length=d.1.length→LX G 56 rB Tryz.f56 vK (aM Tryz.prog 56 1) (((i:Int),()),(((d,()),()),(out,())))=some ((GN d n out,()),()):=by
  intro n
  induction n with
  | zero =>
   intro i out hi ho
   refine ar (j:=1) (by kernel_rfl) ((OH _ _ _).trans ?_)
   have h1:¬((i:Int)<(d.1.length:Int)):=by omega
   simp only [h1,decide_false];rfl
  | succ n ih =>
   intro i out hi ho
   refine ar (j:=1) (by kernel_rfl) ((OH _ _ _).trans ?_)
   have aJ:i<d.1.length:=by omega
   simp only [aT aJ]
   exact U7 hG d hs (i:Int) (GN d n) (fun out ho=>by rw [aH aJ (show d.1.length≤1073741824 by omega)];exact ih (i+1) out (by omega) ho) out ho
 have l0:∀(n i:Nat) (out:List Int),i+n=d.1.length→out=Ce i→LX G 56 rB Tryz.f56 Az (aM Tryz.prog 56 0) (((i:Int),()),(((d,()),()),(out,())))=some ((labels d,()),()):=by
  intro n
  induction n with
  | zero =>
   intro i out hi ho
   refine ar (j:=0) (by kernel_rfl) ((OG _ _ _).trans ?_)
   have h1:¬((i:Int)<(d.1.length:Int)):=by omega
   have sF:i=d.1.length:=by omega
   subst sF
   simp only [h1,decide_false]
   have:=l1 d.1.length 0 out (by omega) (by rw [ho];simp [Ce])
   rw [ho] at this ⊢
   exact this
  | succ n ih =>
   intro i out hi ho
   refine ar (j:=0) (by kernel_rfl) ((OG _ _ _).trans ?_)
   have aJ:i<d.1.length:=by omega
   have h6:aO out.length [(i:Int)].length=true:=fits (by rw [ho];simp [Ce];omega)
   simp only [aT aJ,h6,aH aJ (show d.1.length≤1073741824 by omega)]
   exact ih (i+1) (out++[(i:Int)]) (by omega) (by rw [ho];simp [Ce,List.range_succ])
 exact l0 d.1.length 0 [] (by omega) (by simp [Ce])
def oG:List Int→Int→Int→Int
 | [],_,n=>n
 | x::r,i,n=>oG r (i+1) (if x=i then IntKind.wrap .i64 (n+1) else n)
def fO(d:aj):Int:=oG (labels d) 0 0
theorem aee(hG:HG G)(d:aj)(hs:Sm d):FX G 32 FY ((d,()),())=some ((fO d,()),()):=by
 have hv:=hs.v
 have hl:=Cf d
 refine aw (fn:=Tryz.f32) (hG _ _ rfl) (by kernel_rfl) (by kernel_rfl) ((acK _ _ _).trans ?_)
 refine aa (aed hG d hs) ?_
 unfold fO
 generalize labels d=l at *
 have loop:∀(m i:Nat) (n:Int),i+m=l.length→LX G 32 FY Tryz.f32 vH (aM Tryz.prog 32 0) ((n,((i:Int),())),((),(l,())))=some ((oG (l.drop i) i n,()),()):=by
  intro m
  induction m with
  | zero =>
   intro i n hi
   refine ar (j:=0) (by kernel_rfl) ((Ot _ _ _).trans ?_)
   have h1:¬((i:Int)<(l.length:Int)):=by omega
   have h2:l.drop i=[]:=List.drop_eq_nil_of_le (by omega)
   rw [h2]
   simp only [h1,decide_false];rfl
  | succ m ih =>
   intro i n hi
   refine ar (j:=0) (by kernel_rfl) ((Ot _ _ _).trans ?_)
   have aJ:i<l.length:=by omega
   have h2:l.drop i=l[i]::l.drop (i+1):=List.drop_eq_getElem_cons aJ
   have hx:l[i]? = some l[i]:=List.getElem?_eq_getElem aJ
   rw [h2,oG]
   simp only [aT aJ,eL,Bool.and_self,Int.toNat_natCast,hx,Option.bind_some,aH aJ (show l.length≤1073741824 by omega)]
   by_cases he:l[i]=(i:Int)
   ·have d1:(l[i]==(i:Int))=true:=by simp [he]
    rw [if_pos he];simp only [d1];exact ih (i+1) _ (by omega)
   ·have d1:(l[i]==(i:Int))=false:=by simp [he]
    rw [if_neg he];simp only [d1];exact ih (i+1) _ (by omega)
 exact loop l.length 0 0 (by omega)
def qo:List ai→Int→Int
 | [],n=>n
 | v::r,n=>qo r (if v.2.1.length=0 then IntKind.wrap .i64 (n+1) else n)
def AU(d:aj):Int:=qo d.1 ((((dF d).length:Nat)):Int)
theorem aef(hG:HG G)(d:aj)(hs:Sm d)(he:d.2.length≤5000000):FX G 85 F5 ((d,()),())=some ((((d.1.length:Nat):Int),(((d.2.length:Nat):Int),(AU d,(fO d,())))),()):=by
 have hv:=hs.v
 refine aw (fn:=Tryz.f85) (hG _ _ rfl) (by kernel_rfl) (by kernel_rfl) ((adw _ _ _).trans ?_)
 refine aa (aec hG d hs he) ?_
 unfold AU
 generalize (((dF d).length:Nat):Int)=f0
 have key:=bT d.1 (fun i (n:Int)=>LX G 85 F5 Tryz.f85 vQ (aM Tryz.prog 85 0) ((n,(i,())),(((d,()),()),()))) (fun (r:List ai) (n:Int)=>((((d.1.length:Nat):Int),(((d.2.length:Nat):Int),(qo r n,(fO d,())))),())) (fun _ _=>True)
  (fun n _=>by
   refine ar (j:=0) (by kernel_rfl) ((O2 _ _ _).trans ?_)
   simp only [dd]
   exact aa (aee hG d hs) rfl)
  (fun i y r n hi hx Cd _ ih=>by
   refine ar (j:=0) (by kernel_rfl) ((O2 _ _ _).trans ?_)
   simp only [aT hi,az hx,Option.bind_some,aH hi (show d.1.length≤1073741824 by omega)]
   by_cases he:y.2.1.length=0
   ·have d1:((((y.2.1.length:Nat)):Int)==0)=true:=by simp [he]
    simp only [d1,qo,if_pos he];exact ih _ trivial
   ·have d1:((((y.2.1.length:Nat)):Int)==0)=false:=by simp;intro e;rw [e] at he;simp at he
    simp only [d1,qo,if_neg he];exact ih _ trivial)
  f0 trivial
 exact key
def fP(d:aj):Int:=IntKind.wrap .i64 (Int.tdiv (IntKind.wrap .i64 (IntKind.wrap .i64 (IntKind.wrap .i64 (IntKind.wrap .i64 (2 * fO d) - ((d.1.length:Nat):Int))+((d.2.length:Nat):Int)) - AU d)) 2)
theorem U8(hG:HG G)(d:aj)(hs:Sm d)(he:d.2.length≤5000000):FX G 64 Eg ((d,()),())=some ((fP d,()),()):=by
 refine aw (fn:=Tryz.f64) (hG _ _ rfl) (by kernel_rfl) (by kernel_rfl) ((ada _ _ _).trans ?_)
 exact aa (aef hG d hs he) rfl
end Go.Vs
namespace Go.Vs
open Go.Proofs
variable {G:(f:FuncId)→(g:aL)→Option (g.A→Option g.B)}
theorem Sb{s:ByteArray}{i:Nat}{c:UInt8}(h:s.data.toList[i]? = some c):(if (0:Int)≤(i:Int) then s[Int.toNat (i:Int)]? else none)=some c:=by
 have hi:i<s.size:=by have:=(List.getElem?_eq_some_iff.1 h).1;simpa using this
 rw [if_pos (by omega),Int.toNat_natCast,getElem?_pos s i hi]
 have h2:=(List.getElem?_eq_some_iff.1 h).2
 rw [←h2]
 rfl
def j8(c:UInt8):Bool:=decide (32≤c.toNat)&&decide (c.toNat≤126)
def qp(s:ByteArray):Bool:=s.data.toList.all j8&&decide (s.size≤16)
theorem U9(hG:G 28 vE=none)(s:ByteArray)(hs:s.size≤100000000):FX G 28 vE ((s,()),())=some ((qp s,()),()):=by
 refine aw (fn:=Tryz.f28) hG (by kernel_rfl) (by kernel_rfl) ((acG _ _ _).trans ?_)
 have hl:s.data.toList.length=s.size:=by simp
 have key:=bT s.data.toList (fun i (_:Unit)=>LX G 28 vE Tryz.f28 Au (aM Tryz.prog 28 0) ((s,(i,())),((),()))) (fun (r:List UInt8) (_:Unit)=>((r.all j8&&decide (s.size≤16),()),())) (fun _ _=>True)
  (fun _ _=>by
   refine ar (j:=0) (by kernel_rfl) ((Oo _ _ _).trans ?_)
   rw [hl]
   have h2:decide (((s.size:Nat):Int)≤16)=decide (s.size≤16):=by
    rw [Bool.eq_iff_iff];simp;omega
   simp only [dd,h2,List.all_nil,Bool.true_and];rfl)
  (fun i c r _ hi hx Cd _ ih=>by
   refine ar (j:=0) (by kernel_rfl) ((Oo _ _ _).trans ?_)
   rw [hl] at hi
   have hb:=Sb hx
   simp only [aT hi,hb,Option.bind_some,aH hi (show s.size≤1073741824 by omega)]
   by_cases h1:c.toNat<32
   ·have d1:decide (((c.toNat:Nat):Int)<32)=true:=decide_eq_true (by omega)
    have d2:j8 c=false:=by unfold j8;simp;omega
    simp only [d1,List.all_cons,d2,Bool.false_and];rfl
   ·have d1:decide (((c.toNat:Nat):Int)<32)=false:=decide_eq_false (by omega)
    by_cases h2:126<c.toNat
    ·have d2:decide (((c.toNat:Nat):Int) > 126)=true:=decide_eq_true (by omega)
     have d3:j8 c=false:=by unfold j8;simp;omega
     simp only [d1,d2,List.all_cons,d3,Bool.false_and];rfl
    ·have d2:decide (((c.toNat:Nat):Int) > 126)=false:=decide_eq_false (by omega)
     have d3:j8 c=true:=by unfold j8;simp;omega
     simp only [d1,d2,List.all_cons,d3,Bool.true_and];exact ih () trivial)
  () trivial
 exact key
def mG(n:Int):Bool:=decide (-1099511627776≤n∧n≤1099511627776)
theorem Va(hG:G 29 xD=none)(n:Int):FX G 29 xD ((n,()),())=some ((mG n,()),()):=by
 refine aw (fn:=Tryz.f29) hG (by kernel_rfl) (by kernel_rfl) ((acH _ _ _).trans ?_)
 show (cond (decide (n≥-1099511627776)) (some ((decide (n≤1099511627776),()),())) (some ((false,()),())):Option ((Bool×Unit)×Unit))=some ((mG n,()),())
 unfold mG
 by_cases h1 : -1099511627776≤n<;>simp [h1]
def xO(c:o8):Bool:=cz c.1&&(I2 c.2 || decide (c.2=zD))
theorem Y9(hG:HG G)(c:o8):FX G 68 LF ((c,()),())=some ((xO c,()),()):=by
 refine aw (fn:=Tryz.f68) (hG _ _ rfl) (by kernel_rfl) (by kernel_rfl) ((ade _ _ _).trans ?_)
 refine aa (Cb (hG _ _ rfl) c.1) ?_
 refine aa (ad3 hG c.2) ?_
 have hb:(((c.2.1.1==(0:Int))&&(c.2.1.2==(0:Int)))&&(c.2.2==(0:Int)))=decide (c.2=zD):=j6 c.2 zD
 unfold xO
 simp only [hb]
 cases h1:cz c.1<;>cases h2:I2 c.2<;>rfl
def Vb:bY:=(0,(zI,(zI,(zI,(zC,(zC,(false,(e0,0))))))))
def uN(o:bY):bY :=
 if o.1=3 then (0,(zI,(o.2.2.1,(o.2.2.2.1,(zC,(zC,(o.2.2.2.2.2.2.1,o.2.2.2.2.2.2.2)))))))
 else if o.1=5 then (0,(zI,(zI,(zI,(o.2.2.2.2.1,(o.2.2.2.2.2.1,(o.2.2.2.2.2.2.1,(o.2.2.2.2.2.2.2.1,0))))))))
 else if o.1=6 then (0,(zI,(o.2.2.1,(zI,(o.2.2.2.2.1,(o.2.2.2.2.2.1,(o.2.2.2.2.2.2.1,o.2.2.2.2.2.2.2)))))))
 else if o.1=7 then (0,(zI,(o.2.2.1,(o.2.2.2.1,(o.2.2.2.2.1,(o.2.2.2.2.2.1,(false,(e0,o.2.2.2.2.2.2.2.2))))))))
 else if o.1=8 then (0,(zI,(o.2.2.1,(o.2.2.2.1,(o.2.2.2.2.1,(o.2.2.2.2.2.1,(false,(o.2.2.2.2.2.2.2.1,0))))))))
 else (0,(zI,(o.2.2.1,(o.2.2.2.1,(o.2.2.2.2.1,(o.2.2.2.2.2.1,(o.2.2.2.2.2.2.1,o.2.2.2.2.2.2.2)))))))
theorem aeg(hG:G 67 LD=none)(o:bY):FX G 67 LD ((o,()),())=some ((uN o,()),()):=by
 refine aw (fn:=Tryz.f67) hG (by kernel_rfl) (by kernel_rfl) ((adb _ _ _).trans ?_)
 unfold uN
 by_cases h3:o.1=3
 ·have d:(o.1==(3:Int))=true:=by simp [h3]
  rw [if_pos h3];simp only [d];rfl
 have d3:(o.1==(3:Int))=false:=by simp [h3]
 rw [if_neg h3]
 by_cases h5:o.1=5
 ·have d:(o.1==(5:Int))=true:=by simp [h5]
  rw [if_pos h5];simp only [d3,d];rfl
 have d5:(o.1==(5:Int))=false:=by simp [h5]
 rw [if_neg h5]
 by_cases h6:o.1=6
 ·have d:(o.1==(6:Int))=true:=by simp [h6]
  rw [if_pos h6];simp only [d3,d5,d];rfl
 have d6:(o.1==(6:Int))=false:=by simp [h6]
 rw [if_neg h6]
 by_cases h7:o.1=7
 ·have d:(o.1==(7:Int))=true:=by simp [h7]
  rw [if_pos h7];simp only [d3,d5,d6,d];rfl
 have d7:(o.1==(7:Int))=false:=by simp [h7]
 rw [if_neg h7]
 by_cases h8:o.1=8
 ·have d:(o.1==(8:Int))=true:=by simp [h8]
  rw [if_pos h8];simp only [d3,d5,d6,d7,d];rfl
 have d8:(o.1==(8:Int))=false:=by simp [h8]
 rw [if_neg h8];simp only [d3,d5,d6,d7,d8];rfl
def xQ(x y:bY):Bool :=
 (x.1==y.1)&&(((x.2.1.1==y.2.1.1)&&(x.2.1.2==y.2.1.2))&&(((x.2.2.1.1==y.2.2.1.1)&&(x.2.2.1.2==y.2.2.1.2))&&(((x.2.2.2.1.1==y.2.2.2.1.1)&&(x.2.2.2.1.2==y.2.2.2.1.2)) &&
  ((((x.2.2.2.2.1.1.1==y.2.2.2.2.1.1.1)&&(x.2.2.2.2.1.1.2==y.2.2.2.2.1.1.2))&&(((x.2.2.2.2.1.2.1.1==y.2.2.2.2.1.2.1.1)&&(x.2.2.2.2.1.2.1.2==y.2.2.2.2.1.2.1.2))&&(x.2.2.2.2.1.2.2==y.2.2.2.2.1.2.2))) &&
  ((((x.2.2.2.2.2.1.1.1==y.2.2.2.2.2.1.1.1)&&(x.2.2.2.2.2.1.1.2==y.2.2.2.2.2.1.1.2))&&(((x.2.2.2.2.2.1.2.1.1==y.2.2.2.2.2.1.2.1.1)&&(x.2.2.2.2.2.1.2.1.2==y.2.2.2.2.2.1.2.1.2))&&(x.2.2.2.2.2.1.2.2==y.2.2.2.2.2.1.2.2))) &&
  ((x.2.2.2.2.2.2.1==y.2.2.2.2.2.2.1)&&((x.2.2.2.2.2.2.2.1==y.2.2.2.2.2.2.2.1)&&(x.2.2.2.2.2.2.2.2==y.2.2.2.2.2.2.2.2))))))))
theorem AW(x y:bY):xQ x y=true↔x=y:=by
 obtain ⟨x1,⟨x2,x3⟩,⟨x4,x5⟩,⟨x6,x7⟩,⟨⟨x8,x9⟩,⟨x10,x11⟩,x12⟩,⟨⟨x13,x14⟩,⟨x15,x16⟩,x17⟩,x18,x19,x20⟩:=x
 obtain ⟨y1,⟨y2,y3⟩,⟨y4,y5⟩,⟨y6,y7⟩,⟨⟨y8,y9⟩,⟨oC,kB⟩,mE⟩,⟨⟨kC,BI⟩,⟨r8,Q3⟩,RP⟩,Wn,Tx,Gr⟩:=y
 unfold xQ
 simp only [UZ]
 simp [and_assoc]
theorem aN{α:Type}{c b:Bool}{x y r:α}(h:c=b)(k:cond (not b) x y=r):cond (not c) x y=r:=by subst h;exact k
def dG(o:bY):Int :=
 if o.1<1 then 1 else if 8<o.1 then 1 else if cz o.2.1=false then 1 else if xQ (uN o) Vb=false then 1
 else if o.1=3 then (if xO o.2.2.2.2.1=true∧xO o.2.2.2.2.2.1=true then 0 else 1)
 else if o.1=5 then (if cz o.2.2.1=true∧cz o.2.2.2.1=true∧0≤o.2.2.2.2.2.2.2.2∧o.2.2.2.2.2.2.2.2≤3 then 0 else 1)
 else if o.1=6 then (if cz o.2.2.2.1=true then 0 else 1)
 else if o.1=8 then (if mG o.2.2.2.2.2.2.2.2=true then 0 else 1)
 else if o.1=7 then (if qp o.2.2.2.2.2.2.2.1=true then 0 else 4)
 else 0
def I1(n:Int):Option ((Int×Unit)×Unit):=some ((n,()),())
theorem aeh(hG:HG G)(o:bY)(ht:o.2.2.2.2.2.2.2.1.size≤100000000):FX G 45 N5 ((o,()),())=some ((dG o,()),()):=by
 refine aw (fn:=Tryz.f45) (hG _ _ rfl) (by kernel_rfl) (by kernel_rfl) ((acR _ _ _).trans ?_)
 refine aa (Cb (hG _ _ rfl) o.2.1) ?_
 unfold dG
 by_cases h1:o.1<1
 ·rw [if_pos h1];have d:=decide_eq_true h1;simp only [d];rfl
 rw [if_neg h1];have d1:=decide_eq_false h1
 by_cases h2:8<o.1
 ·rw [if_pos h2];have d:decide (o.1 > 8)=true:=decide_eq_true h2;simp only [d1,d];rfl
 rw [if_neg h2];have d2:decide (o.1 > 8)=false:=decide_eq_false h2
 cases hm:cz o.2.1
 ·rw [if_pos rfl];simp only [d1,d2];rfl
 rw [if_neg (by simp)]
 simp only [d1,d2]
 refine aa (aeg (hG _ _ rfl) o) ?_
 refine aN (b:=xQ (uN o) Vb) rfl ?_
 cases he:xQ (uN o) Vb
 ·rw [if_pos rfl];rfl
 rw [if_neg (by simp)]
 by_cases h3:o.1=3
 ·rw [if_pos h3]
  have d:(o.1==(3:Int))=true:=by simp [h3]
  simp only [d]
  refine aa (Y9 hG o.2.2.2.2.1) ?_
  refine aa (Y9 hG o.2.2.2.2.2.1) ?_
  cases hc:xO o.2.2.2.2.1<;>cases tw:xO o.2.2.2.2.2.1<;>rfl
 rw [if_neg h3]
 have d3:(o.1==(3:Int))=false:=by simp [h3]
 by_cases h5:o.1=5
 ·rw [if_pos h5]
  have d:(o.1==(5:Int))=true:=by simp [h5]
  simp only [d3,d]
  refine aa (Cb (hG _ _ rfl) o.2.2.1) ?_
  refine aa (Cb (hG _ _ rfl) o.2.2.2.1) ?_
  cases hc:cz o.2.2.1
  ·rw [if_neg (by simp)];rfl
  cases tw:cz o.2.2.2.1
  ·rw [if_neg (by simp)];rfl
  by_cases h6:o.2.2.2.2.2.2.2.2<0
  ·have d6:=decide_eq_true h6
   rw [if_neg (by omega)];simp only [d6];rfl
  have d6:=decide_eq_false h6
  by_cases h7:o.2.2.2.2.2.2.2.2 > 3
  ·have d7:=decide_eq_true h7
   rw [if_neg (by omega)];simp only [d6,d7];rfl
  have d7:=decide_eq_false h7
  rw [if_pos ⟨rfl,rfl,by omega,by omega⟩];simp only [d6,d7];rfl
 rw [if_neg h5]
 have d5:(o.1==(5:Int))=false:=by simp [h5]
 by_cases h6:o.1=6
 ·rw [if_pos h6]
  have d:(o.1==(6:Int))=true:=by simp [h6]
  simp only [d3,d5,d]
  refine aa (Cb (hG _ _ rfl) o.2.2.2.1) ?_
  cases hc:cz o.2.2.2.1<;>rfl
 rw [if_neg h6]
 have d6:(o.1==(6:Int))=false:=by simp [h6]
 by_cases h8:o.1=8
 ·rw [if_pos h8]
  have d:(o.1==(8:Int))=true:=by simp [h8]
  simp only [d3,d5,d6,d]
  refine aa (Va (hG _ _ rfl) o.2.2.2.2.2.2.2.2) ?_
  cases hc:mG o.2.2.2.2.2.2.2.2<;>rfl
 rw [if_neg h8]
 have d8:(o.1==(8:Int))=false:=by simp [h8]
 by_cases h7:o.1=7
 ·rw [if_pos h7]
  have d:(o.1==(7:Int))=true:=by simp [h7]
  simp only [d3,d5,d6,d8,d]
  refine aa (U9 (hG _ _ rfl) o.2.2.2.2.2.2.2.1 (by omega)) ?_
  cases hc:qp o.2.2.2.2.2.2.2.1<;>rfl
 rw [if_neg h7]
 have d7:(o.1==(7:Int))=false:=by simp [h7]
 simp only [d3,d5,d6,d8,d7];rfl
def EC(o:bY):Prop:=o.2.2.2.2.2.2.2.1.size≤100000000
def GQ:List bY→Int
 | []=>0
 | o::r=>if dG o≠0 then dG o else GQ r
def Ko(l:List bY):Int:=if 1≤l.length∧l.length≤6 then GQ l else 3
end Go.Vs
namespace Go.Vs
open Go.Proofs
variable {G:(f:FuncId)→(g:aL)→Option (g.A→Option g.B)}
theorem af{α:Type}{c:Bool}{x y r:α}(h:c=true)(k:x=r):cond c x y=r:=by subst h;exact k
theorem ag{α:Type}{c:Bool}{x y r:α}(h:c=false)(k:y=r):cond c x y=r:=by subst h;exact k
theorem dx{a b:Bool}(h:a=true)(k:b=true):(a&&b)=true:=by rw [h,k];rfl
def zS:StateT:=(([],[]),[])
abbrev aY(o:bY):ID:=o.2.1
abbrev eE(o:bY):ID:=o.2.2.1
abbrev ba(o:bY):ID:=o.2.2.2.1
abbrev oA(o:bY):o8:=o.2.2.2.2.1
abbrev oB(o:bY):o8:=o.2.2.2.2.2.1
abbrev mH(o:bY):Bool:=o.2.2.2.2.2.2.1
abbrev ns(o:bY):ByteArray:=o.2.2.2.2.2.2.2.1
abbrev oN(o:bY):Int:=o.2.2.2.2.2.2.2.2
def iD(o:bY)(w:ai):ai:=if mH o=false∧w.1=aY o then (if o.1=7 then (w.1,(w.2.1,(ns o,w.2.2.2))) else (w.1,(w.2.1,(w.2.2.1,oN o)))) else w
def jz(o:bY)(w:ah):ah:=if mH o=true∧w.1=aY o then (if o.1=7 then (w.1,(ns o,w.2.2)) else (w.1,(w.2.1,oN o))) else w
def GR(o:bY)(l:List ai):Bool := !(mH o)&&l.any fun w=>decide (w.1=aY o)
def ED(o:bY)(l:List ah):Bool:=mH o&&l.any fun w=>decide (w.1=aY o)
def vZ(s:StateT)(o:bY):StateT×(Int×Unit) :=
 if GR o s.1.1 || ED o s.1.2 then (((s.1.1.map (iD o),s.1.2.map (jz o)),s.2),(0,())) else (zS,(13,()))
theorem Vc(s:StateT)(o:bY)(vs:List ai)(hs:Sm s.1):∀(n i:Nat) (fd:Bool) (out fin:List ah),i+n=s.1.2.length→out=(s.1.2.take i).map (jz o)++s.1.2.drop i→fin=s.1.2.map (jz o) →
  LX G 52 Aa Tryz.f52 qh (aM Tryz.prog 52 1) ((fd,((i:Int),())),(((s,()),((o,()),((([]:List ai),(([]:List ah),(([]:List an),()))),((vs,(out,())),())))),())) =
   some ((if (fd || ED o (s.1.2.drop i)) then ((((vs,fin),s.2),((0:Int),())):StateT×(Int×Unit)) else (zS,(13,()))),()):=by
 have he:=hs.e
 intro n
 induction n with
 | zero =>
  intro i fd out fin hi ho hf
  refine ar (j:=1) (by kernel_rfl) ((OD _ _ _).trans ?_)
  have TF:out.length=s.1.2.length:=by rw [ho];simp;omega
  have h1:¬((i:Int)<(out.length:Int)):=by omega
  have h2:out=fin:=by rw [ho,hf,List.take_of_length_le (by omega),List.drop_eq_nil_of_le (by omega),List.append_nil]
  have h3:ED o (s.1.2.drop i)=false:=by rw [List.drop_eq_nil_of_le (by omega)];simp [ED]
  subst h2
  rw [h3]
  simp only [h1,decide_false]
  cases fd<;>rfl
 | succ n ih =>
  intro i fd out fin hi ho hf
  refine ar (j:=1) (by kernel_rfl) ((OD _ _ _).trans ?_)
  have TF:out.length=s.1.2.length:=by rw [ho];simp;omega
  have aJ:i<s.1.2.length:=by omega
  have hx:s.1.2[i]? = some s.1.2[i]:=List.getElem?_eq_getElem aJ
  have hg:out[i]? = some s.1.2[i]:=by rw [ho];exact EA _ _ _ _ hx
  have h2:s.1.2.drop i=s.1.2[i]::s.1.2.drop (i+1):=List.drop_eq_getElem_cons aJ
  have v5:=aT (show i<out.length by omega)
  have hw:=aH aJ (show s.1.2.length≤1073741824 by omega)
  rw [h2]
  generalize s.1.2[i]=y at *
  have hE:ED o (y::s.1.2.drop (i+1))=((mH o&&decide (y.1=aY o)) || ED o (s.1.2.drop (i+1))):=by
   unfold ED;cases mH o<;>simp
  rw [hE]
  refine af v5 ?_
  cases PB:mH o
  ·have e1:jz o y=y:=by unfold jz;rw [if_neg (by simp [PB])]
   rw [Bool.false_and,Bool.false_or]
   refine ag PB ?_
   rw [hw]
   exact ih (i+1) fd out fin (by omega) (by rw [ho];exact qm _ _ _ _ hx e1) hf
  ·rw [Bool.true_and]
   refine af PB ?_
   refine af (dx (eL i) v5) ?_
   refine aa hg ?_
   by_cases hq:y.1=aY o
   ·refine af ((iZ y.1 (aY o)).trans (decide_eq_true hq)) ?_
    rw [decide_eq_true hq,Bool.true_or,Bool.or_true,hw]
    by_cases h7:o.1=7
    ·have e1:jz o y=(y.1,(ns o,y.2.2)):=by unfold jz;rw [if_pos ⟨PB,hq⟩,if_pos h7]
     refine af (show (o.1==(7:Int))=true by simp [h7]) ?_
     refine af (dx (eL i) v5) ?_
     refine aa hg ?_
     have:=ih (i+1) true (out.set i (y.1,(ns o,y.2.2))) fin (by omega) (by rw [ho,←uK _ _ _ _ hx,e1]) hf
     rw [Bool.true_or] at this;exact this
    ·have e1:jz o y=(y.1,(y.2.1,oN o)):=by unfold jz;rw [if_pos ⟨PB,hq⟩,if_neg h7]
     refine ag (show (o.1==(7:Int))=false by simp [h7]) ?_
     refine af (dx (eL i) v5) ?_
     refine aa hg ?_
     have:=ih (i+1) true (out.set i (y.1,(y.2.1,oN o))) fin (by omega) (by rw [ho,←uK _ _ _ _ hx,e1]) hf
     rw [Bool.true_or] at this;exact this
   ·have e1:jz o y=y:=by unfold jz;rw [if_neg (fun h=>hq h.2)]
    refine ag ((iZ y.1 (aY o)).trans (decide_eq_false hq)) ?_
    rw [decide_eq_false hq,Bool.false_or,hw]
    exact ih (i+1) fd out fin (by omega) (by rw [ho];exact qm _ _ _ _ hx e1) hf
theorem Vd(s:StateT)(o:bY)(hs:Sm s.1):∀(n i:Nat) (fd:Bool) (out fin:List ai),i+n=s.1.1.length→out=(s.1.1.take i).map (iD o)++s.1.1.drop i→fin=s.1.1.map (iD o) →
  LX G 52 Aa Tryz.f52 qg (aM Tryz.prog 52 0) ((fd,((i:Int),())),(((s,()),((o,()),((([]:List ai),(([]:List ah),(([]:List an),()))),((out,(s.1.2,())),())))),())) =
   some ((if ((fd || GR o (s.1.1.drop i)) || ED o s.1.2) then ((((fin,s.1.2.map (jz o)),s.2),((0:Int),())):StateT×(Int×Unit)) else (zS,(13,()))),()):=by
 have hv:=hs.v
 intro n
 induction n with
 | zero =>
  intro i fd out fin hi ho hf
  refine ar (j:=0) (by kernel_rfl) ((OC _ _ _).trans ?_)
  have TF:out.length=s.1.1.length:=by rw [ho];simp;omega
  have h1:¬((i:Int)<(out.length:Int)):=by omega
  have h2:out=fin:=by rw [ho,hf,List.take_of_length_le (by omega),List.drop_eq_nil_of_le (by omega),List.append_nil]
  have h3:GR o (s.1.1.drop i)=false:=by rw [List.drop_eq_nil_of_le (by omega)];simp [GR]
  subst h2
  rw [h3,Bool.or_false]
  simp only [h1,decide_false]
  exact Vc s o out hs s.1.2.length 0 fd s.1.2 (s.1.2.map (jz o)) (by omega) (by simp) rfl
 | succ n ih =>
  intro i fd out fin hi ho hf
  refine ar (j:=0) (by kernel_rfl) ((OC _ _ _).trans ?_)
  have TF:out.length=s.1.1.length:=by rw [ho];simp;omega
  have aJ:i<s.1.1.length:=by omega
  have hx:s.1.1[i]? = some s.1.1[i]:=List.getElem?_eq_getElem aJ
  have hg:out[i]? = some s.1.1[i]:=by rw [ho];exact EA _ _ _ _ hx
  have h2:s.1.1.drop i=s.1.1[i]::s.1.1.drop (i+1):=List.drop_eq_getElem_cons aJ
  have v5:=aT (show i<out.length by omega)
  have hw:=aH aJ (show s.1.1.length≤1073741824 by omega)
  rw [h2]
  generalize s.1.1[i]=y at *
  have hE:GR o (y::s.1.1.drop (i+1))=((!(mH o)&&decide (y.1=aY o)) || GR o (s.1.1.drop (i+1))):=by
   unfold GR;cases mH o<;>simp
  rw [hE]
  refine af v5 ?_
  cases PB:mH o
  ·rw [Bool.not_false,Bool.true_and]
   refine af (show (!(mH o))=true by rw [PB];rfl) ?_
   refine af (dx (eL i) v5) ?_
   refine aa hg ?_
   by_cases hq:y.1=aY o
   ·refine af ((iZ y.1 (aY o)).trans (decide_eq_true hq)) ?_
    rw [decide_eq_true hq,Bool.true_or,Bool.or_true,Bool.true_or,hw]
    by_cases h7:o.1=7
    ·have e1:iD o y=(y.1,(y.2.1,(ns o,y.2.2.2))):=by unfold iD;rw [if_pos ⟨PB,hq⟩,if_pos h7]
     refine af (show (o.1==(7:Int))=true by simp [h7]) ?_
     refine af (dx (eL i) v5) ?_
     refine aa hg ?_
     have:=ih (i+1) true (out.set i (y.1,(y.2.1,(ns o,y.2.2.2)))) fin (by omega) (by rw [ho,←uK _ _ _ _ hx,e1]) hf
     rw [Bool.true_or,Bool.true_or] at this;exact this
    ·have e1:iD o y=(y.1,(y.2.1,(y.2.2.1,oN o))):=by unfold iD;rw [if_pos ⟨PB,hq⟩,if_neg h7]
     refine ag (show (o.1==(7:Int))=false by simp [h7]) ?_
     refine af (dx (eL i) v5) ?_
     refine aa hg ?_
     have:=ih (i+1) true (out.set i (y.1,(y.2.1,(y.2.2.1,oN o)))) fin (by omega) (by rw [ho,←uK _ _ _ _ hx,e1]) hf
     rw [Bool.true_or,Bool.true_or] at this;exact this
   ·have e1:iD o y=y:=by unfold iD;rw [if_neg (fun h=>hq h.2)]
    refine ag ((iZ y.1 (aY o)).trans (decide_eq_false hq)) ?_
    rw [decide_eq_false hq,Bool.false_or,hw]
    exact ih (i+1) fd out fin (by omega) (by rw [ho];exact qm _ _ _ _ hx e1) hf
  ·have e1:iD o y=y:=by unfold iD;rw [if_neg (by simp [PB])]
   rw [Bool.not_true,Bool.false_and,Bool.false_or]
   refine ag (show (!(mH o))=false by rw [PB];rfl) ?_
   rw [hw]
   exact ih (i+1) fd out fin (by omega) (by rw [ho];exact qm _ _ _ _ hx e1) hf
theorem aei(hG:HG G)(s:StateT)(o:bY)(hs:Sm s.1):FX G 52 Aa ((s,o,()),())=some (vZ s o,()):=by
 have hv:=hs.v;have he:=hs.e
 refine aw (fn:=Tryz.f52) (hG _ _ rfl) (by kernel_rfl) (by kernel_rfl) ((acY _ _ _).trans ?_)
 refine aa (YW (hG _ _ rfl) s.1 (by omega) (by omega) (fun w hw=>by have:=hs.r w hw;omega)) ?_
 have:=Vd (G:=G) s o hs s.1.1.length 0 false s.1.1 (s.1.1.map (iD o)) (by omega) (by simp) rfl
 rw [Bool.false_or] at this
 exact this
end Go.Vs
namespace Go.Vs
open Go.Proofs
variable {G:(f:FuncId)→(g:aL)→Option (g.A→Option g.B)}
structure Bd(n:Nat)(d:aj):Prop where
 v:d.1.length≤n
 e:d.2.length≤n
 r:∀w∈d.1,w.2.1.length≤n
theorem Bd.sm{n:Nat}{d:aj}(h:Bd n d)(hn:n≤50000000):Sm d:=⟨by have:=h.v;omega,by have:=h.e;omega,fun w hw=>by have:=h.r w hw;omega⟩
theorem Bd.mono{n m:Nat}{d:aj}(h:Bd n d)(hm:n≤m):Bd m d:=⟨by have:=h.v;omega,by have:=h.e;omega,fun w hw=>by have:=h.r w hw;omega⟩
theorem iz(v:ai):∀l:List ai,(dW v l).length=l.length+1
 | []=>rfl
 | w::r=>by unfold dW;split<;>simp [iz v r]
theorem mf(v:ah):∀l:List ah,(dn v l).length=l.length+1
 | []=>rfl
 | w::r=>by unfold dn;split<;>simp [mf v r]
theorem qq{v w:ai}:∀{l:List ai},w∈dW v l↔w=v∨w∈l
 | []=>by simp [dW]
 | u::r=>by
  unfold dW
  split
  ·simp
  ·simp only [List.mem_cons,qq (l:=r)]
   exact ⟨fun h=>by rcases h with h | h | h<;>simp [h],fun h=>by rcases h with h | h | h<;>simp [h]⟩
theorem uO{v w:ah}:∀{l:List ah},w∈dn v l↔w=v∨w∈l
 | []=>by simp [dn]
 | u::r=>by
  unfold dn
  split
  ·simp
  ·simp only [List.mem_cons,uO (l:=r)]
   exact ⟨fun h=>by rcases h with h | h | h<;>simp [h],fun h=>by rcases h with h | h | h<;>simp [h]⟩
theorem xk(row:List ae)(a d:ae):(lB row a d).length≤row.length+1:=by
 unfold lB
 split
 ·rw [fM];omega
 ·rw [fM];simp;omega
theorem GS(row:List ae)(d:ae):(gM row d).length≤row.length:=by
 unfold gM;rw [fM];exact List.length_filter_le _ _
theorem EE(row:List ae)(a d:ae):(jg row a d).length=row.length:=by
 unfold jg;rw [fM];split<;>simp
theorem Bd.bJ{n:Nat}{d:aj}(h:Bd n d)(x:ID):(bJ d x).length≤n:=by
 unfold Vs.bJ
 cases hf:bm d x with
 | none=>simp [zV]
 | some v=>exact h.r v (List.mem_of_find?_eq_some hf)
theorem Bd.b6{n:Nat}{d:aj}(h:Bd n d){x:ID}{l:List ae}(hl:l.length≤n):Bd n (b6 d x l):=by
 refine ⟨by simp [Vs.b6];exact h.v,h.e,fun w hw => ?_⟩
 obtain ⟨u,hu,rfl⟩:=List.mem_map.1 hw
 unfold q8
 split
 ·exact hl
 ·exact h.r u hu
theorem Bd.bR{n:Nat}{d:aj}(h:Bd n d)(c:o8)(x:ae):Bd (n+1) (bR d c x) :=
 (h.mono (by omega)).b6 (by have:=xk (Vs.bJ d c.1) c.2 x;have:=h.bJ c.1;omega)
theorem Bd.aF{n:Nat}{d:aj}(h:Bd n d)(a x:ae):Bd n (aF d a x) :=
 h.b6 (by rw [EE];exact h.bJ _)
theorem Bd.aD{n:Nat}{d:aj}(h:Bd n d)(x:ae):Bd n (aD d x) :=
 h.b6 (by have:=GS (Vs.bJ d ((ct d x).getD zI)) x;have:=h.bJ ((ct d x).getD zI);omega)
theorem Bd.bw{n:Nat}{d:aj}(h:Bd n d)(v e:ID):Bd n (bw d v e) :=
 ⟨Nat.le_trans (List.length_filter_le _ _) h.v,Nat.le_trans (List.length_filter_le _ _) h.e,fun w hw=>h.r w (List.mem_filter.1 hw).1⟩
theorem Bd.dW{n:Nat}{d:aj}(h:Bd n d)(v:ai)(hv:v.2.1.length≤n+1):Bd (n+1) (dW v d.1,d.2) :=
 ⟨by rw [iz];have:=h.v;omega,by have:=h.e;simp only;omega,fun w hw=>by
  rcases qq.1 hw with rfl | hw
  ·exact hv
  ·have:=h.r w hw;omega⟩
theorem Bd.dn{n:Nat}{d:aj}(h:Bd n d)(v:ah):Bd (n+1) (d.1,dn v d.2) :=
 ⟨by have:=h.v;simp only;omega,by rw [mf];have:=h.e;omega,fun w hw=>by have:=h.r w hw;omega⟩
theorem xl(g:an):∀l:List an,(kF g l).length≤l.length+1
 | []=>by simp [kF]
 | e::r=>by
  unfold kF
  split
  ·have:=List.length_filter_le (fun q:an=>decide (q.1≠g.1)) (e::r)
   simp [mF];simp at this;omega
  ·have:=xl g r
   split<;>simp<;>omega
theorem eC(l:List an)(g:an):(bK l g).length≤l.length+1:=by
 unfold bK;split
 ·omega
 ·exact xl g l
def kt(s:StateT)(o:bY):aj :=
 bR (bR (s.1.1,dn (aY o,(e0,0)) s.1.2) (aZ s (oA o)).1 (aY o,0))
  (if (bm s.1 (oB o).1).isSome=true∧(oB o).2=(aY o,0) then oB o else (aZ s (oB o)).1) (aY o,1)
def qt(s:StateT)(o:bY):StateT×(Int×Unit) :=
 if (gq s.1 (aY o)).isSome=true then (zS,(12,()))
 else if 40≤s.1.2.length then (zS,(3,()))
 else if (aZ s (oA o)).2.1≠0 then (zS,(13,()))
 else if (aZ s (oB o)).2.1≠0 then (zS,(13,()))
 else if fP (kt s o)≠0 then (zS,(15,()))
 else ((kt s o,s.2),(0,()))
theorem aej(hG:HG G){n:Nat}(s:StateT)(o:bY)(hs:Bd n s.1)(hn:n≤4000000)(hg:s.2.length≤50000000):FX G 48 N6 ((s,o,()),())=some (qt s o,()):=by
  have hv:=hs.v;have he:=hs.e
  have PC:=hs.sm (by omega)
  refine aw (fn:=Tryz.f48) (hG _ _ rfl) (by kernel_rfl) (by kernel_rfl) ((acU _ _ _).trans ?_)
  refine aa (PA (hG _ _ rfl) s.1 (aY o) (by omega)) ?_
  rw [show (oF zE (gq s.1 (aY o))).2.1=(gq s.1 (aY o)).isSome from fW _ _]
  unfold qt
  cases h1:(gq s.1 (aY o)).isSome
  case true=>rw [if_pos rfl];rfl
  rw [if_neg (by simp)]
  by_cases h2:40≤s.1.2.length
  · have d:decide (((s.1.2.length:Nat):Int)≥40)=true:=decide_eq_true (by omega)
    rw [if_pos h2];simp only [d];rfl
  have d2:decide (((s.1.2.length:Nat):Int)≥40)=false:=decide_eq_false (by omega)
  rw [if_neg h2];simp only [d2]
  refine aa (Y6 hG s (oA o) PC hg) ?_
  refine aa (Y6 hG s (oB o) PC hg) ?_
  refine aa (Cc (hG _ _ rfl) s.1 (oB o).1 (by omega)) ?_
  rw [show (oF zV (bm s.1 (oB o).1)).2.1=(bm s.1 (oB o).1).isSome from fW _ _]
  have b1:=hs.dn (aY o,(e0,0))
  have b2:=b1.bR (aZ s (oA o)).1 (aY o,0)
  have fin:∀(bc:o8),kt s o=bR (bR (s.1.1,dn (aY o,(e0,0)) s.1.2) (aZ s (oA o)).1 (aY o,0)) bc (aY o,1) →
      (cond ((aZ s (oA o)).2.1 != 0) (some (((([],[]),[]),((13:Int),())),()))
       (cond ((aZ s (oB o)).2.1 != 0) (some (((([],[]),[]),((13:Int),())),()))
        ((FX G 71 xH ((s.1,((aY o,(e0,(0:Int))),())),())).bind fun (y5:((aj×Unit)×Unit)) =>
        (FX G 72 xI ((y5.1.1,((aZ s (oA o)).1,((aY o,(0:Int)),()))),())).bind fun (y6:((aj×Unit)×Unit)) =>
        (FX G 72 xI ((y6.1.1,(bc,((aY o,(1:Int)),()))),())).bind fun (y7:((aj×Unit)×Unit)) =>
        (FX G 64 Eg ((y7.1.1,()),())).bind fun (y8:((Int×Unit)×Unit)) =>
        cond (y8.1.1 != (0:Int))
         (some (((([],[]),[]),((15:Int),())),()))
         (some (((y7.1.1,s.2),((0:Int),())),())))):Option ((StateT×(Int×Unit))×Unit)) =
      some ((if (aZ s (oA o)).2.1≠0 then (zS,(13,())) else if (aZ s (oB o)).2.1≠0 then (zS,(13,())) else if fP (kt s o)≠0 then (zS,(15,())) else ((kt s o,s.2),(0,())):StateT×(Int×Unit)),()):=by
    intro bc hbc
    by_cases h3:(aZ s (oA o)).2.1=0
    case neg =>
      have d:((aZ s (oA o)).2.1 != 0)=true:=by simp [h3]
      rw [if_pos h3,d];rfl
    rw [if_neg (by simp [h3]),show ((aZ s (oA o)).2.1 != 0)=false by simp [h3]]
    by_cases h4:(aZ s (oB o)).2.1=0
    case neg =>
      have d:((aZ s (oB o)).2.1 != 0)=true:=by simp [h4]
      rw [if_pos h4,d];rfl
    rw [if_neg (by simp [h4]),show ((aZ s (oB o)).2.1 != 0)=false by simp [h4]]
    simp only [cond_false]
    have b3:=b2.bR bc (aY o,1)
    rw [←hbc] at b3
    refine aa (YY hG s.1 (aY o,(e0,0)) (by omega)) ?_
    refine aa (Y0 hG _ _ _ (b1.sm (by omega))) ?_
    refine aa ((Y0 hG (bR (s.1.1,dn (aY o,(e0,0)) s.1.2) (aZ s (oA o)).1 (aY o,0)) bc (aY o,1) (b2.sm (by omega))).trans (congrArg (fun z:aj=>some ((z,()),())) hbc.symm)) ?_
    refine aa (U8 hG (kt s o) (b3.sm (by omega)) (by have:=b3.e;omega)) ?_
    by_cases h5:fP (kt s o)=0
    · rw [if_neg (by simp [h5])]
      have d:(fP (kt s o) != 0)=false:=by simp [h5]
      simp only [d];rfl
    · rw [if_pos h5]
      have d:(fP (kt s o) != 0)=true:=by simp [h5]
      simp only [d];rfl
  have hb:((((oB o).2.1.1==o.2.1.1)&&((oB o).2.1.2==o.2.1.2))&&((oB o).2.2==(0:Int)))=decide ((oB o).2=(aY o,0)):=j6 (oB o).2 (aY o,0)
  simp only [hb]
  cases h6:(bm s.1 (oB o).1).isSome
  · exact fin (aZ s (oB o)).1 (by unfold kt;rw [if_neg (by simp [h6])])
  · by_cases h7:(oB o).2=(aY o,0)
    · have d:=decide_eq_true h7
      simp only [d]
      exact fin (oB o) (by unfold kt;rw [if_pos ⟨h6,h7⟩])
    · have d:=decide_eq_false h7
      simp only [d]
      exact fin (aZ s (oB o)).1 (by unfold kt;rw [if_neg (by simp [h7])])
def EF(s:StateT)(o:bY):StateT×(Int×Unit) :=
 if (gq s.1 (aY o)).isSome=false then (zS,(13,()))
 else ((bw (aD (aD s.1 (aY o,0)) (aY o,1)) zI (aY o),
  bK (bK s.2 ((aY o,0),c6 s.1 (aY o,0))) ((aY o,1),c6 s.1 (aY o,1))),(0,()))
theorem aek(hG:HG G){n:Nat}(s:StateT)(o:bY)(hs:Bd n s.1)(hn:n≤4000000)(hg:s.2.length≤5000000):FX G 49 N7 ((s,o,()),())=some (EF s o,()):=by
 have hv:=hs.v;have he:=hs.e
 have PC:=hs.sm (by omega)
 refine aw (fn:=Tryz.f49) (hG _ _ rfl) (by kernel_rfl) (by kernel_rfl) ((acV _ _ _).trans ?_)
 refine aa (PA (hG _ _ rfl) s.1 (aY o) (by omega)) ?_
 rw [show (oF zE (gq s.1 (aY o))).2.1=(gq s.1 (aY o)).isSome from fW _ _]
 unfold EF
 cases h1:(gq s.1 (aY o)).isSome
 case false=>rw [if_pos rfl];rfl
 rw [if_neg (by simp)]
 have b1:=hs.aD (aY o,0)
 have b2:=b1.aD (aY o,1)
 have l1:=eC s.2 ((aY o,0),c6 s.1 (aY o,0))
 refine aa (Y3 hG s.1 (aY o,0) PC) ?_
 refine aa (Sa hG s.2 ((aY o,0),c6 s.1 (aY o,0)) (by omega)) ?_
 refine aa (Y3 hG s.1 (aY o,1) PC) ?_
 refine aa (Sa hG (bK s.2 ((aY o,0),c6 s.1 (aY o,0))) ((aY o,1),c6 s.1 (aY o,1)) (by omega)) ?_
 refine aa (Y2 hG s.1 (aY o,0) PC) ?_
 refine aa (Y2 hG (aD s.1 (aY o,0)) (aY o,1) (b1.sm (by omega))) ?_
 exact aa (R9 (hG _ _ rfl) (aD (aD s.1 (aY o,0)) (aY o,1)) zI (aY o) (by have:=b2.v;omega) (by have:=b2.e;omega)) rfl
def HS(o:bY):ae:=(aY o,IntKind.wrap .i64 (1 - Int.tmod (oN o) 2))
def E0(o:bY):ae:=(ba o,IntKind.wrap .i64 (Int.tdiv (oN o) 2))
def PD(s:StateT)(o:bY):aj :=
 (dW (eE o,(cp [HS o,E0 o],(e0,0))) (aF s.1 (HS o) (au (E0 o))).1,dn (ba o,(e0,0)) (aF s.1 (HS o) (au (E0 o))).2)
def lD(s:StateT)(o:bY):StateT×(Int×Unit) :=
 if (gq s.1 (aY o)).isSome=false then (zS,(13,()))
 else if (bm s.1 (eE o)).isSome=true then (zS,(12,()))
 else if (gq s.1 (ba o)).isSome=true then (zS,(12,()))
 else if 24≤s.1.1.length then (zS,(3,()))
 else if 40≤s.1.2.length then (zS,(3,()))
 else ((PD s o,s.2),(0,()))
theorem ael(hG:HG G){n:Nat}(s:StateT)(o:bY)(hs:Bd n s.1)(hn:n≤4000000):FX G 50 N8 ((s,o,()),())=some (lD s o,()):=by
 have hv:=hs.v;have he:=hs.e
 have PC:=hs.sm (by omega)
 refine aw (fn:=Tryz.f50) (hG _ _ rfl) (by kernel_rfl) (by kernel_rfl) ((acW _ _ _).trans ?_)
 refine aa (PA (hG _ _ rfl) s.1 (aY o) (by omega)) ?_
 rw [show (oF zE (gq s.1 (aY o))).2.1=(gq s.1 (aY o)).isSome from fW _ _]
 unfold lD
 cases h1:(gq s.1 (aY o)).isSome
 case false=>rw [if_pos rfl];rfl
 rw [if_neg (by simp)]
 refine aa (Cc (hG _ _ rfl) s.1 (eE o) (by omega)) ?_
 rw [show (oF zV (bm s.1 (eE o))).2.1=(bm s.1 (eE o)).isSome from fW _ _]
 refine aa (PA (hG _ _ rfl) s.1 (ba o) (by omega)) ?_
 rw [show (oF zE (gq s.1 (ba o))).2.1=(gq s.1 (ba o)).isSome from fW _ _]
 cases h2:(bm s.1 (eE o)).isSome
 case true=>rw [if_pos rfl];rfl
 rw [if_neg (by simp)]
 cases h3:(gq s.1 (ba o)).isSome
 case true=>rw [if_pos rfl];rfl
 rw [if_neg (by simp)]
 by_cases h4:24≤s.1.1.length
 ·have d:decide (((s.1.1.length:Nat):Int)≥24)=true:=decide_eq_true (by omega)
  rw [if_pos h4];simp only [d];rfl
 have d4:decide (((s.1.1.length:Nat):Int)≥24)=false:=decide_eq_false (by omega)
 rw [if_neg h4]
 by_cases h5:40≤s.1.2.length
 ·have d:decide (((s.1.2.length:Nat):Int)≥40)=true:=decide_eq_true (by omega)
  rw [if_pos h5];simp only [d4,d];rfl
 have d5:decide (((s.1.2.length:Nat):Int)≥40)=false:=decide_eq_false (by omega)
 rw [if_neg h5]
 simp only [d4,d5]
 have d6:((2:Int)==0)=false:=rfl
 simp only [d6]
 have b1:=hs.aF (HS o) (au (E0 o))
 have b2:=b1.dn (ba o,(e0,0))
 refine aa (U3 (hG _ _ rfl) (E0 o)) ?_
 refine aa (Y1 hG s.1 (HS o) (au (E0 o)) PC) ?_
 refine aa (YY hG (aF s.1 (HS o) (au (E0 o))) (ba o,(e0,0)) (by have:=b1.e;omega)) ?_
 refine aa (Ey hG [HS o,E0 o] (by simp)) ?_
 exact aa (YX hG ((aF s.1 (HS o) (au (E0 o))).1,dn (ba o,(e0,0)) (aF s.1 (HS o) (au (E0 o))).2) (eE o,(cp [HS o,E0 o],(e0,0))) (Nat.le_trans b1.v (by omega))) rfl
end Go.Vs
namespace Go.Vs
open Go.Proofs
variable {G:(f:FuncId)→(g:aL)→Option (g.A→Option g.B)}
def pn(a b:ae)(i:Int):ae:=if (b.1,i)=au b then a else zD
def GU(g:List an)(a b:ae):List an:=bK (bK g ((b.1,0),pn a b 0)) ((b.1,1),pn a b 1)
def I4(s:StateT)(o:bY)(a b:ae):aj:=bw (aF (bw s.1 (aY o) zI) (au b) a) zI b.1
theorem aem(hG:HG G)(g:List an)(a b:ae)(d:aj)(hg:g.length≤5000000) :
  LX G 51 xF Tryz.f51 lx (aM Tryz.prog 51 0) ((g,((0:Int),())),(((([]:List ai),(([]:List ah),(([]:List an),()))),((a,()),((b,()),((au b,()),((d,()),()))))),()))=some (((d,GU g a b),((0:Int),())),()):=by
 have l2:∀g2:List an,LX G 51 xF Tryz.f51 lx (aM Tryz.prog 51 0) ((g2,((2:Int),())),(((([]:List ai),(([]:List ah),(([]:List an),()))),((a,()),((b,()),((au b,()),((d,()),()))))),()))=some (((d,g2),((0:Int),())),()):=fun g2 =>
  ar (j:=0) (by kernel_rfl) ((Oz _ _ _).trans (ag rfl rfl))
 have step:∀(i:Int) (g1:List an) (r:(StateT×(Int×Unit))×Unit),i<2→g1.length≤5000001→LX G 51 xF Tryz.f51 lx (aM Tryz.prog 51 0) ((bK g1 ((b.1,i),pn a b i),(IntKind.wrap .i64 (i+1),())),(((([]:List ai),(([]:List ah),(([]:List an),()))),((a,()),((b,()),((au b,()),((d,()),()))))),()))=some r →
   LX G 51 xF Tryz.f51 lx (aM Tryz.prog 51 0) ((g1,(i,())),(((([]:List ai),(([]:List ah),(([]:List an),()))),((a,()),((b,()),((au b,()),((d,()),()))))),()))=some r:=fun i g1 r hi hg1 h=>by
  refine ar (j:=0) (by kernel_rfl) ((Oz _ _ _).trans ?_)
  refine af (decide_eq_true hi) ?_
  unfold pn at h
  by_cases he:((b.1,i):ae)=au b
  ·rw [if_pos he] at h
   refine af ((j6 (b.1,i) (au b)).trans (decide_eq_true he)) ?_
   refine aa (Sa hG g1 ((b.1,i),a) (by omega)) ?_
   exact h
  ·rw [if_neg he] at h
   refine ag ((j6 (b.1,i) (au b)).trans (decide_eq_false he)) ?_
   refine aa (Sa hG g1 ((b.1,i),zD) (by omega)) ?_
   exact h
 have a1:=eC g ((b.1,0),pn a b 0)
 refine step 0 g _ (by omega) (by omega) ?_
 refine step 1 _ _ (by omega) (by omega) ?_
 exact l2 _
def jN(s:StateT)(o:bY)(r0 r1:ae):StateT×(Int×Unit) :=
 if r0.1=r1.1 then (zS,(14,()))
 else if r0.1=ba o then ((I4 s o r1 r0,GU s.2 r1 r0),(0,()))
 else if r1.1=ba o then ((I4 s o r0 r1,GU s.2 r0 r1),(0,()))
 else (zS,(14,()))
def kG(s:StateT)(o:bY):StateT×(Int×Unit):=match bm s.1 (aY o) with
 | none=>(zS,(13,()))
 | some v=>match v.2.1 with
  | [r0,r1]=>jN s o r0 r1
  | _=>(zS,(14,()))
theorem aen(hG:HG G){n:Nat}(s:StateT)(o:bY)(hs:Bd n s.1)(hn:n≤4000000)(hg:s.2.length≤5000000):FX G 51 xF ((s,o,()),())=some (kG s o,()):=by
  have hv:=hs.v;have he:=hs.e
  have PC:=hs.sm (by omega)
  refine aw (fn:=Tryz.f51) (hG _ _ rfl) (by kernel_rfl) (by kernel_rfl) ((acX _ _ _).trans ?_)
  refine aa (Cc (hG _ _ rfl) s.1 (aY o) (by omega)) ?_
  unfold kG
  cases hf:bm s.1 (aY o) with
  | none=>rfl
  | some v =>
    refine ag (show (!true)=false from rfl) ?_
    have two:∀(a b:ae) (r:Option ((StateT×(Int×Unit))×Unit)),r=some (((I4 s o a b,GU s.2 a b),((0:Int),())),()) →
        ((FX G 23 B3 ((b,()),())).bind fun (y8:((ae×Unit)×Unit)) =>
         (FX G 47 ou ((s.1,(aY o,(zI,()))),())).bind fun (y9:((aj×Unit)×Unit)) =>
         (FX G 76 F4 ((y9.1.1,(y8.1.1,(a,()))),())).bind fun (oC:((aj×Unit)×Unit)) =>
         (FX G 47 ou ((oC.1.1,(zI,(b.1,()))),())).bind fun (kB:((aj×Unit)×Unit)) =>
         LX G 51 xF Tryz.f51 lx (aM Tryz.prog 51 0) ((s.2,((0:Int),())),(((([]:List ai),(([]:List ah),(([]:List an),()))),((a,()),((b,()),((y8.1.1,()),((kB.1.1,()),()))))),())))=r:=fun a b r hr=>by
      subst hr
      have b1:=hs.bw (aY o) zI
      have b2:=b1.aF (au b) a
      refine aa (U3 (hG _ _ rfl) b) ?_
      refine aa (R9 (hG _ _ rfl) s.1 (aY o) zI (by omega) (by omega)) ?_
      refine aa (Y1 hG (bw s.1 (aY o) zI) (au b) a (b1.sm (by omega))) ?_
      refine aa (R9 (hG _ _ rfl) (aF (bw s.1 (aY o) zI) (au b) a) zI b.1 (by have:=b2.v;omega) (by have:=b2.e;omega)) ?_
      exact aem hG s.2 a b (I4 s o a b) hg
    obtain ⟨vi,ring,vr⟩:=v
    by_cases hl:ring.length=2
    case neg =>
      refine af (show ((((ring.length:Nat):Int)) != 2)=true by simp;omega) ?_
      match ring,hl with
      | [],_=>rfl
      | [_],_=>rfl
      | [_,_],h=>exact absurd rfl h
      | _::_::_::_,_=>rfl
    match ring,hl with
    | [r0,r1],_ =>
      refine ag (show ((((2:Nat):Int)) != 2)=false from rfl) ?_
      refine aa (show aS [r0,r1] 0=some r0 from rfl) ?_
      refine aa (show aS [r0,r1] 1=some r1 from rfl) ?_
      show _=some (jN s o r0 r1,())
      unfold jN
      by_cases h1:r0.1=r1.1
      · rw [if_pos h1]
        exact af ((iZ r0.1 r1.1).trans (decide_eq_true h1)) rfl
      rw [if_neg h1]
      refine ag ((iZ r0.1 r1.1).trans (decide_eq_false h1)) ?_
      refine aa (show aS [r0,r1] 0=some r0 from rfl) ?_
      refine aa (show aS [r0,r1] 1=some r1 from rfl) ?_
      by_cases h2:r0.1=ba o
      · rw [if_pos h2]
        refine af ((iZ r0.1 (ba o)).trans (decide_eq_true h2)) ?_
        refine aa (show aS [r0,r1] 1=some r1 from rfl) ?_
        refine aa (show aS [r0,r1] 0=some r0 from rfl) ?_
        refine ag (by rw [show ((r0.1.1==(ba o).1)&&(r0.1.2==(ba o).2))=true from (iZ r0.1 (ba o)).trans (decide_eq_true h2)];rfl) ?_
        exact two r1 r0 _ rfl
      rw [if_neg h2]
      refine ag ((iZ r0.1 (ba o)).trans (decide_eq_false h2)) ?_
      by_cases h3:r1.1=ba o
      · rw [if_pos h3]
        refine ag (by rw [show ((r1.1.1==(ba o).1)&&(r1.1.2==(ba o).2))=true from (iZ r1.1 (ba o)).trans (decide_eq_true h3)];rfl) ?_
        exact two r0 r1 _ rfl
      · rw [if_neg h3]
        exact af (by rw [show ((r1.1.1==(ba o).1)&&(r1.1.2==(ba o).2))=false from (iZ r1.1 (ba o)).trans (decide_eq_false h3)];rfl) rfl
def sj(s:StateT)(o:bY):StateT×(Int×Unit) :=
 if (bm s.1 (aY o)).isSome=true then (zS,(12,())) else if 24≤s.1.1.length then (zS,(3,())) else (((dW (aY o,([],(e0,0))) s.1.1,s.1.2),s.2),(0,()))
def xm(s:StateT)(o:bY):StateT×(Int×Unit):=match bm s.1 (aY o) with
 | none=>(zS,(13,()))
 | some v=>if 0<v.2.1.length then (zS,(14,())) else ((bw s.1 (aY o) zI,s.2),(0,()))
def rF(s:StateT)(o:bY):StateT×(Int×Unit) :=
 if dG o≠0 then (zS,(dG o,()))
 else if o.1=1 then sj s o else if o.1=2 then xm s o else if o.1=3 then qt s o else if o.1=4 then EF s o else if o.1=5 then lD s o else if o.1=6 then kG s o else vZ s o
theorem aeo(hG:HG G){n:Nat}(s:StateT)(o:bY)(hs:Bd n s.1)(hn:n≤4000000)(hg:s.2.length≤5000000)(ht:EC o):FX G 15 N0 ((s,o,()),())=some (rF s o,()):=by
 have hv:=hs.v;have he:=hs.e
 refine aw (fn:=Tryz.f15) (hG _ _ rfl) (by kernel_rfl) (by kernel_rfl) ((acv _ _ _).trans ?_)
 refine aa (aeh hG o ht) ?_
 unfold rF
 by_cases h0:dG o=0
 case neg =>
  rw [if_pos h0]
  exact af (show (dG o != 0)=true by simp [h0]) rfl
 rw [if_neg (by simp [h0])]
 refine ag (show (dG o != 0)=false by simp [h0]) ?_
 refine aa (Cc (hG _ _ rfl) s.1 (aY o) (by omega)) ?_
 by_cases h1:o.1=1
 ·rw [if_pos h1]
  refine af (show (o.1==(1:Int))=true by simp [h1]) ?_
  rw [show (oF zV (bm s.1 (aY o))).2.1=(bm s.1 (aY o)).isSome from fW _ _]
  unfold sj
  cases hf:(bm s.1 (aY o)).isSome
  ·rw [if_neg (by simp)]
   refine ag rfl ?_
   by_cases h4:24≤s.1.1.length
   ·rw [if_pos h4]
    exact af (decide_eq_true (show ((s.1.1.length:Nat):Int)≥24 by omega)) rfl
   ·rw [if_neg h4]
    refine ag (decide_eq_false (show ¬((s.1.1.length:Nat):Int)≥24 by omega)) ?_
    exact aa (YX hG s.1 (aY o,([],(e0,0))) (by omega)) rfl
  ·rw [if_pos rfl];rfl
 rw [if_neg h1]
 refine ag (show (o.1==(1:Int))=false by simp [h1]) ?_
 by_cases h2:o.1=2
 ·rw [if_pos h2]
  refine af (show (o.1==(2:Int))=true by simp [h2]) ?_
  unfold xm
  cases hf:bm s.1 (aY o) with
  | none=>rfl
  | some v =>
   refine ag (show (!true)=false from rfl) ?_
   by_cases h4:0<v.2.1.length
   ·show _=some ((if 0<v.2.1.length then (zS,(14,())) else ((bw s.1 (aY o) zI,s.2),(0,())):StateT×(Int×Unit)),())
    rw [if_pos h4]
    exact af (decide_eq_true (show ((v.2.1.length:Nat):Int) > 0 by omega)) rfl
   ·show _=some ((if 0<v.2.1.length then (zS,(14,())) else ((bw s.1 (aY o) zI,s.2),(0,())):StateT×(Int×Unit)),())
    rw [if_neg h4]
    refine ag (decide_eq_false (show ¬((v.2.1.length:Nat):Int) > 0 by omega)) ?_
    exact aa (R9 (hG _ _ rfl) s.1 (aY o) zI (by omega) (by omega)) rfl
 rw [if_neg h2]
 refine ag (show (o.1==(2:Int))=false by simp [h2]) ?_
 by_cases h3:o.1=3
 ·rw [if_pos h3]
  refine af (show (o.1==(3:Int))=true by simp [h3]) ?_
  exact aa (aej hG s o hs hn (by omega)) rfl
 rw [if_neg h3]
 refine ag (show (o.1==(3:Int))=false by simp [h3]) ?_
 by_cases h4:o.1=4
 ·rw [if_pos h4]
  refine af (show (o.1==(4:Int))=true by simp [h4]) ?_
  exact aa (aek hG s o hs hn hg) rfl
 rw [if_neg h4]
 refine ag (show (o.1==(4:Int))=false by simp [h4]) ?_
 by_cases h5:o.1=5
 ·rw [if_pos h5]
  refine af (show (o.1==(5:Int))=true by simp [h5]) ?_
  exact aa (ael hG s o hs hn) rfl
 rw [if_neg h5]
 refine ag (show (o.1==(5:Int))=false by simp [h5]) ?_
 by_cases h6:o.1=6
 ·rw [if_pos h6]
  refine af (show (o.1==(6:Int))=true by simp [h6]) ?_
  exact aa (aen hG s o hs hn hg) rfl
 rw [if_neg h6]
 refine ag (show (o.1==(6:Int))=false by simp [h6]) ?_
 exact aa (aei hG s o (hs.sm (by omega))) rfl
structure Bs(n:Nat)(s:StateT):Prop where
 d:Bd n s.1
 g:s.2.length≤n
theorem Bs.mono{n m:Nat}{s:StateT}(h:Bs n s)(hm:n≤m):Bs m s:=⟨h.d.mono hm,by have:=h.g;omega⟩
theorem Bs.zero(n:Nat):Bs n zS:=⟨⟨Nat.zero_le _,Nat.zero_le _,fun w hw=>by simp [zS] at hw⟩,Nat.zero_le _⟩
theorem Bs.one{n:Nat}{s:StateT}(h:Bs n s)(o:bY):Bs (n+3) (rF s o).1:=by
 have h1:=h.d;have h2:=h.g
 unfold rF
 split
 ·exact Bs.zero _
 split
 ·unfold sj;split
  ·exact Bs.zero _
  split
  ·exact Bs.zero _
  ·exact ⟨(h1.dW _ (by simp)).mono (by omega),by simp only;omega⟩
 split
 ·unfold xm
  cases bm s.1 (aY o) with
  | none=>exact Bs.zero _
  | some v =>
   simp only
   split
   ·exact Bs.zero _
   ·exact ⟨(h1.bw _ _).mono (by omega),by simp only;omega⟩
 split
 ·unfold qt
  split;· exact Bs.zero _
  split;· exact Bs.zero _
  split;· exact Bs.zero _
  split;· exact Bs.zero _
  split;· exact Bs.zero _
  exact ⟨by unfold kt;exact ((h1.dn _).bR _ _).bR _ _,by simp only;omega⟩
 split
 ·unfold EF
  split;· exact Bs.zero _
  refine ⟨(((h1.aD _).aD _).bw _ _).mono (by omega),?_⟩
  have a1:=eC s.2 ((aY o,0),c6 s.1 (aY o,0))
  have a2:=eC (bK s.2 ((aY o,0),c6 s.1 (aY o,0))) ((aY o,1),c6 s.1 (aY o,1))
  simp only;omega
 split
 ·unfold lD
  split;· exact Bs.zero _
  split;· exact Bs.zero _
  split;· exact Bs.zero _
  split;· exact Bs.zero _
  split;· exact Bs.zero _
  refine ⟨?_,by simp only;omega⟩
  have b2:=((h1.aF (HS o) (au (E0 o))).dn (ba o,(e0,0)))
  exact (b2.dW (eE o,(cp [HS o,E0 o],(e0,0))) (by simp [fM])).mono (by omega)
 split
 ·unfold kG
  have key:∀a b:ae,Bs (n+3) (I4 s o a b,GU s.2 a b):=fun a b=>by
   refine ⟨(((h1.bw _ _).aF _ _).bw _ _).mono (by omega),?_⟩
   have a1:=eC s.2 ((b.1,0),pn a b 0)
   have a2:=eC (bK s.2 ((b.1,0),pn a b 0)) ((b.1,1),pn a b 1)
   simp only [GU];omega
  split
  ·exact Bs.zero _
  ·split
   ·unfold jN
    split;· exact Bs.zero _
    split;· exact key _ _
    split;· exact key _ _
    exact Bs.zero _
   ·exact Bs.zero _
 ·unfold vZ
  split
  ·refine ⟨⟨by simp;have:=h1.v;omega,by simp;have:=h1.e;omega,fun w hw => ?_⟩,by simp only;omega⟩
   obtain ⟨u,hu,rfl⟩:=List.mem_map.1 hw
   have hr:=h1.r u hu
   have e:(iD o u).2.1=u.2.1:=by unfold iD;split<;>(try split)<;>rfl
   rw [e];omega
  ·exact Bs.zero _
def TJ:List bY→StateT→StateT×(Int×Unit)
 | [],s=>(s,(0,()))
 | o::r,s=>if (rF s o).2.1≠0 then (zS,(rF s o).2) else TJ r (rF s o).1
def v7(s:StateT)(l:List bY):StateT×(Int×Unit):=if Ko l≠0 then (zS,(Ko l,())) else TJ l s
theorem Bs.go{l:List bY}:∀{n:Nat} {s:StateT},Bs n s→Bs (n+3 * l.length) (TJ l s).1:=by
 induction l with
 | nil=>intro n s h;exact h.mono (by simp)
 | cons o r ih =>
  intro n s h
  unfold TJ
  split
  ·exact Bs.zero _
  ·exact (ih (h.one o)).mono (by simp;omega)
def GW(s:StateT)(l:List bY):StateT:=if (v7 s l).2.1≠0 then s else (v7 s l).1
theorem Bs.try{n:Nat}{s:StateT}{l:List bY}(h:Bs n s):Bs (n+3 * l.length) (GW s l):=by
 unfold GW
 split
 ·exact h.mono (by omega)
 ·unfold v7
  split
  ·exact Bs.zero _
  ·exact h.go
def lE:Nat→List (List bY)→StateT→StateT
 | 0,_,s=>s
 | _+1,[],s=>s
 | n+1,l::r,s=>lE n r (GW s (l.take 8))
def AX(l:List (List bY)):StateT:=lE 30 l zS
theorem Bs.reach:∀(m:Nat) (l:List (List bY)) {n:Nat} {s:StateT},Bs n s→Bs (n+24 * m) (lE m l s)
 | 0,_,n,s,h=>by simpa [lE] using h
 | m+1,[],n,s,h=>h.mono (by omega)
 | m+1,l::r,n,s,h=>by
  rw [lE]
  have h1:Bs (n+3 * (l.take 8).length) (GW s (l.take 8)):=h.try
  have hl:(l.take 8).length≤8:=by simp;omega
  exact (Bs.reach m r (h1.mono (show n+3 * (l.take 8).length≤n+24 by omega))).mono (by omega)
theorem Bs.Kp(l:List (List bY)):Bs 720 (AX l):=(Bs.reach 30 l (Bs.zero 0)).mono (by omega)
end Go.Vs
