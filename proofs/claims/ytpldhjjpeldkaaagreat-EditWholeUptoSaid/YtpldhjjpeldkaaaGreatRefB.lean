/- What the document's reference computes, written plainly, the second part. -/
import Derived.Test.YtpldhjjpeldkaaaGreatRefA
set_option linter.unusedVariables false
set_option linter.unusedSimpArgs false
namespace Go.Vs
open Go.Proofs
variable {G:(f:FuncId)→(g:aJ)→Option (g.A→Option g.B)}
def xX(x:ID):List ah→Int→Int
 | [],_ => -1
 | v::r,i=>if v.1=x then i else xX x r (i+1)
theorem IQ(x:ID):∀(l:List ah) (i:Int),0≤i→xX x l i = -1∨(i≤xX x l i∧xX x l i<i+l.length)
 | [],i,_=>.inl rfl
 | v::r,i,h=>by
  unfold xX
  split
  ·right;simp;omega
  ·rcases IQ x r (i+1) (by omega) with h | h
   ·exact .inl h
   ·right;simp;omega
theorem YP(hG:G 55 BS=none)(d:ai)(x:ID)(hs:Sm d):FX G 55 BS ((d,x,()),())=some ((xX x d.1 0,()),()):=by
 have hv:=hs.v
 refine au (fn:=Tryz.f55) hG (by kernel_rfl) (by kernel_rfl) ((acF _ _ _).trans ?_)
 have loop:∀(n i:Nat),i+n=d.1.length→LX G 55 BS Tryz.f55 Aj (aP Tryz.prog 55 0) (((i:Int),()),(((d,()),((x,()),())),()))=some ((xX x (d.1.drop i) i,()),()):=by
  intro n
  induction n with
  | zero =>
   intro i hi
   refine ar (j:=0) (by kernel_rfl) ((On _ _ _).trans ?_)
   have h1:¬((i:Int)<(d.1.length:Int)):=by omega
   have h2:d.1.drop i=[]:=List.drop_eq_nil_of_le (by omega)
   rw [h2]
   simp only [h1,decide_false];rfl
  | succ n ih =>
   intro i hi
   refine ar (j:=0) (by kernel_rfl) ((On _ _ _).trans ?_)
   have aG:i<d.1.length:=by omega
   have h2:d.1.drop i=d.1[i]::d.1.drop (i+1):=List.drop_eq_getElem_cons aG
   have hx:d.1[i]? = some d.1[i]:=List.getElem?_eq_getElem aG
   rw [h2,xX]
   simp only [aT aG,aK hx,Option.bind_some,jc,aI aG (show d.1.length≤1073741824 by omega)]
   by_cases he:d.1[i].1=x
   ·have d1:=decide_eq_true he
    rw [if_pos he];simp only [d1];rfl
   ·have d1:=decide_eq_false he
    rw [if_neg he];simp only [d1];exact ih (i+1) (by omega)
 exact loop d.1.length 0 (by omega)
def Em(d:ai)(e:af)(out:List Int):List Int :=
 let a:=xX ((cr d (e.1,0)).getD zI) d.1 0
 let b:=xX ((cr d (e.1,1)).getD zI) d.1 0
 if 0≤a∧0≤b then (out.set a.toNat (min (out.getD a.toNat 0) (out.getD b.toNat 0))).set b.toNat (min (out.getD a.toNat 0) (out.getD b.toNat 0)) else out
def jh(d:ai):List af→List Int→List Int
 | [],out=>out
 | e::r,out=>jh d r (Em d e out)
def GH(d:ai):Nat→List Int→List Int
 | 0,out=>out
 | n+1,out=>GH d n (jh d d.2 out)
def BY(n:Nat):List Int:=(List.range n).map fun i=>((i:Nat):Int)
def labels(d:ai):List Int:=GH d d.1.length (BY d.1.length)
theorem GI(d:ai)(e:af)(out:List Int):(Em d e out).length=out.length:=by
 unfold Em;simp only;split<;>simp
theorem uy(d:ai):∀(l:List af) (out:List Int),(jh d l out).length=out.length
 | [],out=>rfl
 | e::r,out=>by rw [jh,uy d r,GI]
theorem wV(d:ai):∀(n:Nat) (out:List Int),(GH d n out).length=out.length
 | 0,out=>rfl
 | n+1,out=>by rw [GH,wV d n,uy]
theorem BZ(d:ai):(labels d).length=d.1.length:=by unfold labels;rw [wV];simp [BY]
theorem UI(hG:HG G)(d:ai)(hs:Sm d)(n:Int)(R:List Int→List Int)
  (hR:∀out:List Int,out.length=d.1.length→LX G 56 rq Tryz.f56 vw (aP Tryz.prog 56 1) ((IntKind.wrap .i64 (n+1),()),(((d,()),()),(out,())))=some ((R out,()),())) :
  ∀out:List Int,out.length=d.1.length→LX G 56 rq Tryz.f56 qc (aP Tryz.prog 56 2) ((n,((0:Int),())),(((d,()),()),(out,())))=some ((R (jh d d.2 out),()),()):=by
 have hv:=hs.v;have he:=hs.e
 have loop:∀(m i:Nat) (out:List Int),i+m=d.2.length→out.length=d.1.length→LX G 56 rq Tryz.f56 qc (aP Tryz.prog 56 2) ((n,((i:Int),())),(((d,()),()),(out,())))=some ((R (jh d (d.2.drop i) out),()),()):=by
  intro m
  induction m with
  | zero =>
   intro i out hi ho
   have h1:¬((i:Int)<(d.2.length:Int)):=by omega
   have h2:d.2.drop i=[]:=List.drop_eq_nil_of_le (by omega)
   rw [h2,jh]
   refine ar (j:=2) (by kernel_rfl) ((Ot _ _ _).trans ?_)
   simp only [h1,decide_false]
   exact hR out ho
  | succ m ih =>
   intro i out hi ho
   have aG:i<d.2.length:=by omega
   have h2:d.2.drop i=d.2[i]::d.2.drop (i+1):=List.drop_eq_getElem_cons aG
   have hx:d.2[i]? = some d.2[i]:=List.getElem?_eq_getElem aG
   rw [h2,jh]
   generalize d.2[i]=e at *
   refine ar (j:=2) (by kernel_rfl) ((Ot _ _ _).trans ?_)
   simp only [aT aG,aK hx,Option.bind_some,aI aG (show d.2.length≤1073741824 by omega)]
   refine aa (GF hG d (e.1,0) (by omega) (fun w hw=>by have:=hs.r w hw;omega)) ?_
   refine aa (GF hG d (e.1,1) (by omega) (fun w hw=>by have:=hs.r w hw;omega)) ?_
   rw [show (oS zI (cr d (e.1,0))).1=(cr d (e.1,0)).getD zI from jM _ _,show (oS zI (cr d (e.1,1))).1=(cr d (e.1,1)).getD zI from jM _ _]
   refine aa (YP (hG _ _ rfl) d ((cr d (e.1,0)).getD zI) hs) ?_
   refine aa (YP (hG _ _ rfl) d ((cr d (e.1,1)).getD zI) hs) ?_
   have hL:Em d e out=(if 0≤xX ((cr d (e.1,0)).getD zI) d.1 0∧0≤xX ((cr d (e.1,1)).getD zI) d.1 0 then (out.set (xX ((cr d (e.1,0)).getD zI) d.1 0).toNat (min (out.getD (xX ((cr d (e.1,0)).getD zI) d.1 0).toNat 0) (out.getD (xX ((cr d (e.1,1)).getD zI) d.1 0).toNat 0))).set (xX ((cr d (e.1,1)).getD zI) d.1 0).toNat (min (out.getD (xX ((cr d (e.1,0)).getD zI) d.1 0).toNat 0) (out.getD (xX ((cr d (e.1,1)).getD zI) d.1 0).toNat 0)) else out):=rfl
   have ha:=IQ ((cr d (e.1,0)).getD zI) d.1 0 (by omega)
   have hb:=IQ ((cr d (e.1,1)).getD zI) d.1 0 (by omega)
   generalize xX ((cr d (e.1,0)).getD zI) d.1 0=a at *
   generalize xX ((cr d (e.1,1)).getD zI) d.1 0=b at *
   by_cases h3:0≤a
   case neg =>
    have d3:decide (a≥0)=false:=decide_eq_false h3
    rw [hL,if_neg (by omega)]
    simp only [d3];exact ih (i+1) out (by omega) ho
   have d3:decide (a≥0)=true:=decide_eq_true h3
   by_cases h4:0≤b
   case neg =>
    have d4:decide (b≥0)=false:=decide_eq_false h4
    rw [hL,if_neg (by omega)]
    simp only [d3,d4];exact ih (i+1) out (by omega) ho
   have d4:decide (b≥0)=true:=decide_eq_true h4
   rw [if_pos ⟨h3,h4⟩] at hL
   have hal:a.toNat<out.length:=by omega
   have hbl:b.toNat<out.length:=by omega
   have xa:out[a.toNat]? = some out[a.toNat]:=List.getElem?_eq_getElem hal
   have xb:out[b.toNat]? = some out[b.toNat]:=List.getElem?_eq_getElem hbl
   have ga:out.getD a.toNat 0=out[a.toNat]:=by simp [List.getD,xa]
   have gb:out.getD b.toNat 0=out[b.toNat]:=by simp [List.getD,xb]
   rw [ga,gb] at hL
   generalize out[a.toNat]=p at *
   generalize out[b.toNat]=q at *
   have d5:decide ((0:Int)≤a)=true:=decide_eq_true h3
   have d6:decide ((0:Int)≤b)=true:=decide_eq_true h4
   have d7:decide (a<((out.length:Nat):Int))=true:=decide_eq_true (by omega)
   have d8:decide (b<((out.length:Nat):Int))=true:=decide_eq_true (by omega)
   have hbs:b.toNat<(out.set a.toNat (min p q)).length:=by simpa using hbl
   have d9:decide (b<(((out.set a.toNat (min p q)).length:Nat):Int))=true:=decide_eq_true (by simp;omega)
   have xs:(out.set a.toNat (min p q))[b.toNat]? = some (out.set a.toNat (min p q))[b.toNat]:=List.getElem?_eq_getElem hbs
   simp only [d3,d4,d5,d6,d7,d8,Bool.and_self,xa,xb,Option.bind_some,d9,xs]
   rw [hL]
   exact ih (i+1) ((out.set a.toNat (min p q)).set b.toNat (min p q)) (by omega) (by simp [ho])
 intro out ho
 exact loop d.2.length 0 out (by omega) ho
theorem adM(hG:HG G)(d:ai)(hs:Sm d):FX G 56 rq ((d,()),())=some ((labels d,()),()):=by
 have hv:=hs.v
 refine au (fn:=Tryz.f56) (hG _ _ rfl) (by kernel_rfl) (by kernel_rfl) ((acG _ _ _).trans ?_)
 have l1:∀(n i:Nat) (out:List Int),i+n=d.1.length→out.length=d.1.length→LX G 56 rq Tryz.f56 vw (aP Tryz.prog 56 1) (((i:Int),()),(((d,()),()),(out,())))=some ((GH d n out,()),()):=by
  intro n
  induction n with
  | zero =>
   intro i out hi ho
   refine ar (j:=1) (by kernel_rfl) ((Oq _ _ _).trans ?_)
   have h1:¬((i:Int)<(d.1.length:Int)):=by omega
   simp only [h1,decide_false];rfl
  | succ n ih =>
   intro i out hi ho
   refine ar (j:=1) (by kernel_rfl) ((Oq _ _ _).trans ?_)
   have aG:i<d.1.length:=by omega
   simp only [aT aG]
   exact UI hG d hs (i:Int) (GH d n) (fun out ho=>by rw [aI aG (show d.1.length≤1073741824 by omega)];exact ih (i+1) out (by omega) ho) out ho
 have l0:∀(n i:Nat) (out:List Int),i+n=d.1.length→out=BY i→LX G 56 rq Tryz.f56 Ak (aP Tryz.prog 56 0) (((i:Int),()),(((d,()),()),(out,())))=some ((labels d,()),()):=by
  intro n
  induction n with
  | zero =>
   intro i out hi ho
   refine ar (j:=0) (by kernel_rfl) ((Oo _ _ _).trans ?_)
   have h1:¬((i:Int)<(d.1.length:Int)):=by omega
   have su:i=d.1.length:=by omega
   subst su
   simp only [h1,decide_false]
   have:=l1 d.1.length 0 out (by omega) (by rw [ho];simp [BY])
   rw [ho] at this ⊢
   exact this
  | succ n ih =>
   intro i out hi ho
   refine ar (j:=0) (by kernel_rfl) ((Oo _ _ _).trans ?_)
   have aG:i<d.1.length:=by omega
   have h6:aM out.length [(i:Int)].length=true:=fits (by rw [ho];simp [BY];omega)
   simp only [aT aG,h6,aI aG (show d.1.length≤1073741824 by omega)]
   exact ih (i+1) (out++[(i:Int)]) (by omega) (by rw [ho];simp [BY,List.range_succ])
 exact l0 d.1.length 0 [] (by omega) (by simp [BY])
def ow:List Int→Int→Int→Int
 | [],_,n=>n
 | x::r,i,n=>ow r (i+1) (if x=i then IntKind.wrap .i64 (n+1) else n)
def fO(d:ai):Int:=ow (labels d) 0 0
theorem adN(hG:HG G)(d:ai)(hs:Sm d):FX G 32 FI ((d,()),())=some ((fO d,()),()):=by
 have hv:=hs.v
 have hl:=BZ d
 refine au (fn:=Tryz.f32) (hG _ _ rfl) (by kernel_rfl) (by kernel_rfl) ((ack _ _ _).trans ?_)
 refine aa (adM hG d hs) ?_
 unfold fO
 generalize labels d=l at *
 have loop:∀(m i:Nat) (n:Int),i+m=l.length→LX G 32 FI Tryz.f32 vt (aP Tryz.prog 32 0) ((n,((i:Int),())),((),(l,())))=some ((ow (l.drop i) i n,()),()):=by
  intro m
  induction m with
  | zero =>
   intro i n hi
   refine ar (j:=0) (by kernel_rfl) ((N9 _ _ _).trans ?_)
   have h1:¬((i:Int)<(l.length:Int)):=by omega
   have h2:l.drop i=[]:=List.drop_eq_nil_of_le (by omega)
   rw [h2]
   simp only [h1,decide_false];rfl
  | succ m ih =>
   intro i n hi
   refine ar (j:=0) (by kernel_rfl) ((N9 _ _ _).trans ?_)
   have aG:i<l.length:=by omega
   have h2:l.drop i=l[i]::l.drop (i+1):=List.drop_eq_getElem_cons aG
   have hx:l[i]? = some l[i]:=List.getElem?_eq_getElem aG
   rw [h2,ow]
   simp only [aT aG,eI,Bool.and_self,Int.toNat_natCast,hx,Option.bind_some,aI aG (show l.length≤1073741824 by omega)]
   by_cases he:l[i]=(i:Int)
   ·have d1:(l[i]==(i:Int))=true:=by simp [he]
    rw [if_pos he];simp only [d1];exact ih (i+1) _ (by omega)
   ·have d1:(l[i]==(i:Int))=false:=by simp [he]
    rw [if_neg he];simp only [d1];exact ih (i+1) _ (by omega)
 exact loop l.length 0 0 (by omega)
def qj:List ah→Int→Int
 | [],n=>n
 | v::r,n=>qj r (if v.2.1.length=0 then IntKind.wrap .i64 (n+1) else n)
def AG(d:ai):Int:=qj d.1 ((((dH d).length:Nat)):Int)
theorem adO(hG:HG G)(d:ai)(hs:Sm d)(he:d.2.length≤5000000):FX G 85 FR ((d,()),())=some ((((d.1.length:Nat):Int),(((d.2.length:Nat):Int),(AG d,(fO d,())))),()):=by
 have hv:=hs.v
 refine au (fn:=Tryz.f85) (hG _ _ rfl) (by kernel_rfl) (by kernel_rfl) ((ac2 _ _ _).trans ?_)
 refine aa (adL hG d hs he) ?_
 unfold AG
 generalize (((dH d).length:Nat):Int)=f0
 have key:=bT d.1 (fun i (n:Int)=>LX G 85 FR Tryz.f85 vz (aP Tryz.prog 85 0) ((n,(i,())),(((d,()),()),()))) (fun (r:List ah) (n:Int)=>((((d.1.length:Nat):Int),(((d.2.length:Nat):Int),(qj r n,(fO d,())))),())) (fun _ _=>True)
  (fun n _=>by
   refine ar (j:=0) (by kernel_rfl) ((OD _ _ _).trans ?_)
   simp only [dd]
   exact aa (adN hG d hs) rfl)
  (fun i y r n hi hx BX _ ih=>by
   refine ar (j:=0) (by kernel_rfl) ((OD _ _ _).trans ?_)
   simp only [aT hi,aK hx,Option.bind_some,aI hi (show d.1.length≤1073741824 by omega)]
   by_cases he:y.2.1.length=0
   ·have d1:((((y.2.1.length:Nat)):Int)==0)=true:=by simp [he]
    simp only [d1,qj,if_pos he];exact ih _ trivial
   ·have d1:((((y.2.1.length:Nat)):Int)==0)=false:=by simp;intro e;rw [e] at he;simp at he
    simp only [d1,qj,if_neg he];exact ih _ trivial)
  f0 trivial
 exact key
def iU(d:ai):Int:=IntKind.wrap .i64 (Int.tdiv (IntKind.wrap .i64 (IntKind.wrap .i64 (IntKind.wrap .i64 (IntKind.wrap .i64 (2 * fO d) - ((d.1.length:Nat):Int))+((d.2.length:Nat):Int)) - AG d)) 2)
theorem adP(hG:HG G)(d:ai)(hs:Sm d)(he:d.2.length≤5000000):FX G 64 FN ((d,()),())=some ((iU d,()),()):=by
 refine au (fn:=Tryz.f64) (hG _ _ rfl) (by kernel_rfl) (by kernel_rfl) ((acM _ _ _).trans ?_)
 exact aa (adO hG d hs he) rfl
end Go.Vs
namespace Go.Vs
open Go.Proofs
variable {G:(f:FuncId)→(g:aJ)→Option (g.A→Option g.B)}
theorem RF{s:ByteArray}{i:Nat}{c:UInt8}(h:s.data.toList[i]? = some c):(if (0:Int)≤(i:Int) then s[Int.toNat (i:Int)]? else none)=some c:=by
 have hi:i<s.size:=by have:=(List.getElem?_eq_some_iff.1 h).1;simpa using this
 rw [if_pos (by omega),Int.toNat_natCast,getElem?_pos s i hi]
 have h2:=(List.getElem?_eq_some_iff.1 h).2
 rw [←h2]
 rfl
def j6(c:UInt8):Bool:=decide (32≤c.toNat)&&decide (c.toNat≤126)
def B2(s:ByteArray):Bool:=s.data.toList.all j6&&decide (s.size≤16)
theorem adQ(hG:G 28 DY=none)(s:ByteArray)(hs:s.size≤100000000):FX G 28 DY ((s,()),())=some ((B2 s,()),()):=by
 refine au (fn:=Tryz.f28) hG (by kernel_rfl) (by kernel_rfl) ((ach _ _ _).trans ?_)
 have hl:s.data.toList.length=s.size:=by simp
 have key:=bT s.data.toList (fun i (_:Unit)=>LX G 28 DY Tryz.f28 Ad (aP Tryz.prog 28 0) ((s,(i,())),((),()))) (fun (r:List UInt8) (_:Unit)=>((r.all j6&&decide (s.size≤16),()),())) (fun _ _=>True)
  (fun _ _=>by
   refine ar (j:=0) (by kernel_rfl) ((N7 _ _ _).trans ?_)
   rw [hl]
   have h2:decide (((s.size:Nat):Int)≤16)=decide (s.size≤16):=by
    rw [Bool.eq_iff_iff];simp;omega
   simp only [dd,h2,List.all_nil,Bool.true_and];rfl)
  (fun i c r _ hi hx BX _ ih=>by
   refine ar (j:=0) (by kernel_rfl) ((N7 _ _ _).trans ?_)
   rw [hl] at hi
   have hb:=RF hx
   simp only [aT hi,hb,Option.bind_some,aI hi (show s.size≤1073741824 by omega)]
   by_cases h1:c.toNat<32
   ·have d1:decide (((c.toNat:Nat):Int)<32)=true:=decide_eq_true (by omega)
    have d2:j6 c=false:=by unfold j6;simp;omega
    simp only [d1,List.all_cons,d2,Bool.false_and];rfl
   ·have d1:decide (((c.toNat:Nat):Int)<32)=false:=decide_eq_false (by omega)
    by_cases h2:126<c.toNat
    ·have d2:decide (((c.toNat:Nat):Int) > 126)=true:=decide_eq_true (by omega)
     have d3:j6 c=false:=by unfold j6;simp;omega
     simp only [d1,d2,List.all_cons,d3,Bool.false_and];rfl
    ·have d2:decide (((c.toNat:Nat):Int) > 126)=false:=decide_eq_false (by omega)
     have d3:j6 c=true:=by unfold j6;simp;omega
     simp only [d1,d2,List.all_cons,d3,Bool.true_and];exact ih () trivial)
  () trivial
 exact key
def uz(n:Int):Bool:=decide (-1099511627776≤n∧n≤1099511627776)
theorem adR(hG:G 29 Ll=none)(n:Int):FX G 29 Ll ((n,()),())=some ((uz n,()),()):=by
 refine au (fn:=Tryz.f29) hG (by kernel_rfl) (by kernel_rfl) ((aci _ _ _).trans ?_)
 show (cond (decide (n≥-1099511627776)) (some ((decide (n≤1099511627776),()),())) (some ((false,()),())):Option ((Bool×Unit)×Unit))=some ((uz n,()),())
 unfold uz
 by_cases h1 : -1099511627776≤n<;>simp [h1]
def xn(c:oX):Bool:=cU c.1&&(IP c.2 || decide (c.2=zD))
theorem YQ(hG:HG G)(c:oX):FX G 68 Ls ((c,()),())=some ((xn c,()),()):=by
 refine au (fn:=Tryz.f68) (hG _ _ rfl) (by kernel_rfl) (by kernel_rfl) ((acO _ _ _).trans ?_)
 refine aa (LH (hG _ _ rfl) c.1) ?_
 refine aa (adC hG c.2) ?_
 have hb:(((c.2.1.1==(0:Int))&&(c.2.1.2==(0:Int)))&&(c.2.2==(0:Int)))=decide (c.2=zD):=kj c.2 zD
 unfold xn
 simp only [hb]
 cases h1:cU c.1<;>cases h2:IP c.2<;>rfl
def UJ:bw:=(0,(zI,(zI,(zI,(zC,(zC,(false,(e0,0))))))))
def uA(o:bw):bw :=
 if o.1=3 then (0,(zI,(o.2.2.1,(o.2.2.2.1,(zC,(zC,(o.2.2.2.2.2.2.1,o.2.2.2.2.2.2.2)))))))
 else if o.1=5 then (0,(zI,(zI,(zI,(o.2.2.2.2.1,(o.2.2.2.2.2.1,(o.2.2.2.2.2.2.1,(o.2.2.2.2.2.2.2.1,0))))))))
 else if o.1=6 then (0,(zI,(o.2.2.1,(zI,(o.2.2.2.2.1,(o.2.2.2.2.2.1,(o.2.2.2.2.2.2.1,o.2.2.2.2.2.2.2)))))))
 else if o.1=7 then (0,(zI,(o.2.2.1,(o.2.2.2.1,(o.2.2.2.2.1,(o.2.2.2.2.2.1,(false,(e0,o.2.2.2.2.2.2.2.2))))))))
 else if o.1=8 then (0,(zI,(o.2.2.1,(o.2.2.2.1,(o.2.2.2.2.1,(o.2.2.2.2.2.1,(false,(o.2.2.2.2.2.2.2.1,0))))))))
 else (0,(zI,(o.2.2.1,(o.2.2.2.1,(o.2.2.2.2.1,(o.2.2.2.2.2.1,(o.2.2.2.2.2.2.1,o.2.2.2.2.2.2.2)))))))
theorem adS(hG:G 67 Lr=none)(o:bw):FX G 67 Lr ((o,()),())=some ((uA o,()),()):=by
 refine au (fn:=Tryz.f67) hG (by kernel_rfl) (by kernel_rfl) ((acN _ _ _).trans ?_)
 unfold uA
 by_cases h3:o.1=3
 ·have d:(o.1==(3:Int))=true:=by simp [h3]
  rw [if_pos h3];simp only [d];rfl
 have d3:(o.1==(3:Int))=false:=by simp [h3]
 rw [if_neg h3]
 by_cases h5:o.1=5
 ·have d:(o.1==(5:Int))=true:=by simp [h5]
  rw [if_pos h5];simp only [d3,d];rfl
 have d5:(o.1==(5:Int))=false:=by simp [h5]
 rw [if_neg h5]
 by_cases h6:o.1=6
 ·have d:(o.1==(6:Int))=true:=by simp [h6]
  rw [if_pos h6];simp only [d3,d5,d];rfl
 have d6:(o.1==(6:Int))=false:=by simp [h6]
 rw [if_neg h6]
 by_cases h7:o.1=7
 ·have d:(o.1==(7:Int))=true:=by simp [h7]
  rw [if_pos h7];simp only [d3,d5,d6,d];rfl
 have d7:(o.1==(7:Int))=false:=by simp [h7]
 rw [if_neg h7]
 by_cases h8:o.1=8
 ·have d:(o.1==(8:Int))=true:=by simp [h8]
  rw [if_pos h8];simp only [d3,d5,d6,d7,d];rfl
 have d8:(o.1==(8:Int))=false:=by simp [h8]
 rw [if_neg h8];simp only [d3,d5,d6,d7,d8];rfl
def xp(x y:bw):Bool :=
 (x.1==y.1)&&(((x.2.1.1==y.2.1.1)&&(x.2.1.2==y.2.1.2))&&(((x.2.2.1.1==y.2.2.1.1)&&(x.2.2.1.2==y.2.2.1.2))&&(((x.2.2.2.1.1==y.2.2.2.1.1)&&(x.2.2.2.1.2==y.2.2.2.1.2)) &&
  ((((x.2.2.2.2.1.1.1==y.2.2.2.2.1.1.1)&&(x.2.2.2.2.1.1.2==y.2.2.2.2.1.1.2))&&(((x.2.2.2.2.1.2.1.1==y.2.2.2.2.1.2.1.1)&&(x.2.2.2.2.1.2.1.2==y.2.2.2.2.1.2.1.2))&&(x.2.2.2.2.1.2.2==y.2.2.2.2.1.2.2))) &&
  ((((x.2.2.2.2.2.1.1.1==y.2.2.2.2.2.1.1.1)&&(x.2.2.2.2.2.1.1.2==y.2.2.2.2.2.1.1.2))&&(((x.2.2.2.2.2.1.2.1.1==y.2.2.2.2.2.1.2.1.1)&&(x.2.2.2.2.2.1.2.1.2==y.2.2.2.2.2.1.2.1.2))&&(x.2.2.2.2.2.1.2.2==y.2.2.2.2.2.1.2.2))) &&
  ((x.2.2.2.2.2.2.1==y.2.2.2.2.2.2.1)&&((x.2.2.2.2.2.2.2.1==y.2.2.2.2.2.2.2.1)&&(x.2.2.2.2.2.2.2.2==y.2.2.2.2.2.2.2.2))))))))
theorem AH(x y:bw):xp x y=true↔x=y:=by
 obtain ⟨x1,⟨x2,x3⟩,⟨x4,x5⟩,⟨x6,x7⟩,⟨⟨x8,x9⟩,⟨x10,x11⟩,x12⟩,⟨⟨x13,x14⟩,⟨x15,x16⟩,x17⟩,x18,x19,x20⟩:=x
 obtain ⟨y1,⟨y2,y3⟩,⟨y4,y5⟩,⟨y6,y7⟩,⟨⟨y8,y9⟩,⟨ou,kC⟩,lP⟩,⟨⟨kD,Bq⟩,⟨rT,SW⟩,Ri⟩,VU,SX,Gi⟩:=y
 unfold xp
 simp only [UC]
 simp [and_assoc]
theorem aX{α:Type}{c b:Bool}{x y r:α}(h:c=b)(k:cond (not b) x y=r):cond (not c) x y=r:=by subst h;exact k
def cp(o:bw):Int :=
 if o.1<1 then 1 else if 8<o.1 then 1 else if cU o.2.1=false then 1 else if xp (uA o) UJ=false then 1
 else if o.1=3 then (if xn o.2.2.2.2.1=true∧xn o.2.2.2.2.2.1=true then 0 else 1)
 else if o.1=5 then (if cU o.2.2.1=true∧cU o.2.2.2.1=true∧0≤o.2.2.2.2.2.2.2.2∧o.2.2.2.2.2.2.2.2≤3 then 0 else 1)
 else if o.1=6 then (if cU o.2.2.2.1=true then 0 else 1)
 else if o.1=8 then (if uz o.2.2.2.2.2.2.2.2=true then 0 else 1)
 else if o.1=7 then (if B2 o.2.2.2.2.2.2.2.1=true then 0 else 4)
 else 0
def I1(n:Int):Option ((Int×Unit)×Unit):=some ((n,()),())
theorem YR(hG:HG G)(o:bw)(ht:o.2.2.2.2.2.2.2.1.size≤100000000):FX G 45 Ln ((o,()),())=some ((cp o,()),()):=by
 refine au (fn:=Tryz.f45) (hG _ _ rfl) (by kernel_rfl) (by kernel_rfl) ((acv _ _ _).trans ?_)
 refine aa (LH (hG _ _ rfl) o.2.1) ?_
 unfold cp
 by_cases h1:o.1<1
 ·rw [if_pos h1];have d:=decide_eq_true h1;simp only [d];rfl
 rw [if_neg h1];have d1:=decide_eq_false h1
 by_cases h2:8<o.1
 ·rw [if_pos h2];have d:decide (o.1 > 8)=true:=decide_eq_true h2;simp only [d1,d];rfl
 rw [if_neg h2];have d2:decide (o.1 > 8)=false:=decide_eq_false h2
 cases hm:cU o.2.1
 ·rw [if_pos rfl];simp only [d1,d2];rfl
 rw [if_neg (by simp)]
 simp only [d1,d2]
 refine aa (adS (hG _ _ rfl) o) ?_
 refine aX (b:=xp (uA o) UJ) rfl ?_
 cases he:xp (uA o) UJ
 ·rw [if_pos rfl];rfl
 rw [if_neg (by simp)]
 by_cases h3:o.1=3
 ·rw [if_pos h3]
  have d:(o.1==(3:Int))=true:=by simp [h3]
  simp only [d]
  refine aa (YQ hG o.2.2.2.2.1) ?_
  refine aa (YQ hG o.2.2.2.2.2.1) ?_
  cases hc:xn o.2.2.2.2.1<;>cases tf:xn o.2.2.2.2.2.1<;>rfl
 rw [if_neg h3]
 have d3:(o.1==(3:Int))=false:=by simp [h3]
 by_cases h5:o.1=5
 ·rw [if_pos h5]
  have d:(o.1==(5:Int))=true:=by simp [h5]
  simp only [d3,d]
  refine aa (LH (hG _ _ rfl) o.2.2.1) ?_
  refine aa (LH (hG _ _ rfl) o.2.2.2.1) ?_
  cases hc:cU o.2.2.1
  ·rw [if_neg (by simp)];rfl
  cases tf:cU o.2.2.2.1
  ·rw [if_neg (by simp)];rfl
  by_cases h6:o.2.2.2.2.2.2.2.2<0
  ·have d6:=decide_eq_true h6
   rw [if_neg (by omega)];simp only [d6];rfl
  have d6:=decide_eq_false h6
  by_cases h7:o.2.2.2.2.2.2.2.2 > 3
  ·have d7:=decide_eq_true h7
   rw [if_neg (by omega)];simp only [d6,d7];rfl
  have d7:=decide_eq_false h7
  rw [if_pos ⟨rfl,rfl,by omega,by omega⟩];simp only [d6,d7];rfl
 rw [if_neg h5]
 have d5:(o.1==(5:Int))=false:=by simp [h5]
 by_cases h6:o.1=6
 ·rw [if_pos h6]
  have d:(o.1==(6:Int))=true:=by simp [h6]
  simp only [d3,d5,d]
  refine aa (LH (hG _ _ rfl) o.2.2.2.1) ?_
  cases hc:cU o.2.2.2.1<;>rfl
 rw [if_neg h6]
 have d6:(o.1==(6:Int))=false:=by simp [h6]
 by_cases h8:o.1=8
 ·rw [if_pos h8]
  have d:(o.1==(8:Int))=true:=by simp [h8]
  simp only [d3,d5,d6,d]
  refine aa (adR (hG _ _ rfl) o.2.2.2.2.2.2.2.2) ?_
  cases hc:uz o.2.2.2.2.2.2.2.2<;>rfl
 rw [if_neg h8]
 have d8:(o.1==(8:Int))=false:=by simp [h8]
 by_cases h7:o.1=7
 ·rw [if_pos h7]
  have d:(o.1==(7:Int))=true:=by simp [h7]
  simp only [d3,d5,d6,d8,d]
  refine aa (adQ (hG _ _ rfl) o.2.2.2.2.2.2.2.1 (by omega)) ?_
  cases hc:B2 o.2.2.2.2.2.2.2.1<;>rfl
 rw [if_neg h7]
 have d7:(o.1==(7:Int))=false:=by simp [h7]
 simp only [d3,d5,d6,d8,d7];rfl
def iV(o:bw):Prop:=o.2.2.2.2.2.2.2.1.size≤100000000
def j7:List bw→Int
 | []=>0
 | o::r=>if cp o≠0 then cp o else j7 r
def de(l:List bw):Int:=if 1≤l.length∧l.length≤6 then j7 l else 3
theorem YS(hG:HG G)(l:List bw)(ht:∀o∈l,iV o):FX G 41 DZ ((l,()),())=some ((de l,()),()):=by
 refine au (fn:=Tryz.f41) (hG _ _ rfl) (by kernel_rfl) (by kernel_rfl) ((acs _ _ _).trans ?_)
 unfold de
 by_cases h1:l.length<1
 ·have d:decide (((l.length:Nat):Int)<1)=true:=decide_eq_true (by omega)
  rw [if_neg (by omega)];simp only [d];rfl
 have d1:decide (((l.length:Nat):Int)<1)=false:=decide_eq_false (by omega)
 by_cases h2:6<l.length
 ·have d:decide (((l.length:Nat):Int) > 6)=true:=decide_eq_true (by omega)
  rw [if_neg (by omega)];simp only [d1,d];rfl
 have d2:decide (((l.length:Nat):Int) > 6)=false:=decide_eq_false (by omega)
 rw [if_pos (by omega)]
 simp only [d1,d2]
 have key:=bT l (fun i (_:Unit)=>LX G 41 DZ Tryz.f41 Ag (aP Tryz.prog 41 0) ((i,()),(((l,()),()),()))) (fun (r:List bw) (_:Unit)=>((j7 r,()),())) (fun _ _=>True)
  (fun _ _=>by
   refine ar (j:=0) (by kernel_rfl) ((Od _ _ _).trans ?_)
   simp only [dd];rfl)
  (fun i o r _ hi hx BX _ ih=>by
   refine ar (j:=0) (by kernel_rfl) ((Od _ _ _).trans ?_)
   simp only [aT hi,aK hx,Option.bind_some,aI hi (show l.length≤1073741824 by omega)]
   refine aa (YR hG o (ht o (List.mem_of_getElem? hx))) ?_
   rw [j7]
   by_cases h:cp o=0
   ·have d:(cp o != 0)=false:=by simp [h]
    rw [if_neg (by simp [h])];simp only [d];exact ih () trivial
   ·have d:(cp o != 0)=true:=by simp [h]
    rw [if_pos h];simp only [d];rfl)
  () trivial
 exact key
theorem YT(hG:G 34 FJ=none)(l:List bw):FX G 34 FJ ((l,()),())=some ((l.take 8,()),()):=by
 refine au (fn:=Tryz.f34) hG (by kernel_rfl) (by kernel_rfl) ((acn _ _ _).trans ?_)
 by_cases h:8<l.length
 ·have d1:decide (((l.length:Nat):Int) > 8)=true:=decide_eq_true (by omega)
  have d2:aW l.length 0 8=true:=by simp [aW];omega
  simp only [d1,d2];rfl
 ·have d1:decide (((l.length:Nat):Int) > 8)=false:=decide_eq_false (by omega)
  rw [List.take_of_length_le (by omega)]
  simp only [d1];rfl
end Go.Vs
namespace Go.Vs
open Go.Proofs
variable {G:(f:FuncId)→(g:aJ)→Option (g.A→Option g.B)}
theorem ae{α:Type}{c:Bool}{x y r:α}(h:c=true)(k:x=r):cond c x y=r:=by subst h;exact k
theorem ag{α:Type}{c:Bool}{x y r:α}(h:c=false)(k:y=r):cond c x y=r:=by subst h;exact k
theorem dx{a b:Bool}(h:a=true)(k:b=true):(a&&b)=true:=by rw [h,k];rfl
def zS:StateT:=(([],[]),[])
abbrev aS(o:bw):ID:=o.2.1
abbrev eu(o:bw):ID:=o.2.2.1
abbrev aV(o:bw):ID:=o.2.2.2.1
abbrev oA(o:bw):oX:=o.2.2.2.2.1
abbrev oB(o:bw):oX:=o.2.2.2.2.2.1
abbrev mF(o:bw):Bool:=o.2.2.2.2.2.2.1
abbrev np(o:bw):ByteArray:=o.2.2.2.2.2.2.2.1
abbrev oN(o:bw):Int:=o.2.2.2.2.2.2.2.2
def iB(o:bw)(w:ah):ah:=if mF o=false∧w.1=aS o then (if o.1=7 then (w.1,(w.2.1,(np o,w.2.2.2))) else (w.1,(w.2.1,(w.2.2.1,oN o)))) else w
def jz(o:bw)(w:af):af:=if mF o=true∧w.1=aS o then (if o.1=7 then (w.1,(np o,w.2.2)) else (w.1,(w.2.1,oN o))) else w
def GJ(o:bw)(l:List ah):Bool := !(mF o)&&l.any fun w=>decide (w.1=aS o)
def En(o:bw)(l:List af):Bool:=mF o&&l.any fun w=>decide (w.1=aS o)
def vI(s:StateT)(o:bw):StateT×(Int×Unit) :=
 if GJ o s.1.1 || En o s.1.2 then (((s.1.1.map (iB o),s.1.2.map (jz o)),s.2),(0,())) else (zS,(13,()))
theorem UK(s:StateT)(o:bw)(vs:List ah)(hs:Sm s.1):∀(n i:Nat) (fd:Bool) (out fin:List af),i+n=s.1.2.length→out=(s.1.2.take i).map (jz o)++s.1.2.drop i→fin=s.1.2.map (jz o) →
  LX G 52 zK Tryz.f52 qb (aP Tryz.prog 52 1) ((fd,((i:Int),())),(((s,()),((o,()),((([]:List ah),(([]:List af),(([]:List ak),()))),((vs,(out,())),())))),())) =
   some ((if (fd || En o (s.1.2.drop i)) then ((((vs,fin),s.2),((0:Int),())):StateT×(Int×Unit)) else (zS,(13,()))),()):=by
 have he:=hs.e
 intro n
 induction n with
 | zero =>
  intro i fd out fin hi ho hf
  refine ar (j:=1) (by kernel_rfl) ((Ol _ _ _).trans ?_)
  have S8:out.length=s.1.2.length:=by rw [ho];simp;omega
  have h1:¬((i:Int)<(out.length:Int)):=by omega
  have h2:out=fin:=by rw [ho,hf,List.take_of_length_le (by omega),List.drop_eq_nil_of_le (by omega),List.append_nil]
  have h3:En o (s.1.2.drop i)=false:=by rw [List.drop_eq_nil_of_le (by omega)];simp [En]
  subst h2
  rw [h3]
  simp only [h1,decide_false]
  cases fd<;>rfl
 | succ n ih =>
  intro i fd out fin hi ho hf
  refine ar (j:=1) (by kernel_rfl) ((Ol _ _ _).trans ?_)
  have S8:out.length=s.1.2.length:=by rw [ho];simp;omega
  have aG:i<s.1.2.length:=by omega
  have hx:s.1.2[i]? = some s.1.2[i]:=List.getElem?_eq_getElem aG
  have hg:out[i]? = some s.1.2[i]:=by rw [ho];exact El _ _ _ _ hx
  have h2:s.1.2.drop i=s.1.2[i]::s.1.2.drop (i+1):=List.drop_eq_getElem_cons aG
  have ry:=aT (show i<out.length by omega)
  have hw:=aI aG (show s.1.2.length≤1073741824 by omega)
  rw [h2]
  generalize s.1.2[i]=y at *
  have hE:En o (y::s.1.2.drop (i+1))=((mF o&&decide (y.1=aS o)) || En o (s.1.2.drop (i+1))):=by
   unfold En;cases mF o<;>simp
  rw [hE]
  refine ae ry ?_
  cases O7:mF o
  ·have e1:jz o y=y:=by unfold jz;rw [if_neg (by simp [O7])]
   rw [Bool.false_and,Bool.false_or]
   refine ag O7 ?_
   rw [hw]
   exact ih (i+1) fd out fin (by omega) (by rw [ho];exact qh _ _ _ _ hx e1) hf
  ·rw [Bool.true_and]
   refine ae O7 ?_
   refine ae (dx (eI i) ry) ?_
   refine aa hg ?_
   by_cases hq:y.1=aS o
   ·refine ae ((jc y.1 (aS o)).trans (decide_eq_true hq)) ?_
    rw [decide_eq_true hq,Bool.true_or,Bool.or_true,hw]
    by_cases h7:o.1=7
    ·have e1:jz o y=(y.1,(np o,y.2.2)):=by unfold jz;rw [if_pos ⟨O7,hq⟩,if_pos h7]
     refine ae (show (o.1==(7:Int))=true by simp [h7]) ?_
     refine ae (dx (eI i) ry) ?_
     refine aa hg ?_
     have:=ih (i+1) true (out.set i (y.1,(np o,y.2.2))) fin (by omega) (by rw [ho,←uu _ _ _ _ hx,e1]) hf
     rw [Bool.true_or] at this;exact this
    ·have e1:jz o y=(y.1,(y.2.1,oN o)):=by unfold jz;rw [if_pos ⟨O7,hq⟩,if_neg h7]
     refine ag (show (o.1==(7:Int))=false by simp [h7]) ?_
     refine ae (dx (eI i) ry) ?_
     refine aa hg ?_
     have:=ih (i+1) true (out.set i (y.1,(y.2.1,oN o))) fin (by omega) (by rw [ho,←uu _ _ _ _ hx,e1]) hf
     rw [Bool.true_or] at this;exact this
   ·have e1:jz o y=y:=by unfold jz;rw [if_neg (fun h=>hq h.2)]
    refine ag ((jc y.1 (aS o)).trans (decide_eq_false hq)) ?_
    rw [decide_eq_false hq,Bool.false_or,hw]
    exact ih (i+1) fd out fin (by omega) (by rw [ho];exact qh _ _ _ _ hx e1) hf
theorem UL(s:StateT)(o:bw)(hs:Sm s.1):∀(n i:Nat) (fd:Bool) (out fin:List ah),i+n=s.1.1.length→out=(s.1.1.take i).map (iB o)++s.1.1.drop i→fin=s.1.1.map (iB o) →
  LX G 52 zK Tryz.f52 qa (aP Tryz.prog 52 0) ((fd,((i:Int),())),(((s,()),((o,()),((([]:List ah),(([]:List af),(([]:List ak),()))),((out,(s.1.2,())),())))),())) =
   some ((if ((fd || GJ o (s.1.1.drop i)) || En o s.1.2) then ((((fin,s.1.2.map (jz o)),s.2),((0:Int),())):StateT×(Int×Unit)) else (zS,(13,()))),()):=by
 have hv:=hs.v
 intro n
 induction n with
 | zero =>
  intro i fd out fin hi ho hf
  refine ar (j:=0) (by kernel_rfl) ((Oj _ _ _).trans ?_)
  have S8:out.length=s.1.1.length:=by rw [ho];simp;omega
  have h1:¬((i:Int)<(out.length:Int)):=by omega
  have h2:out=fin:=by rw [ho,hf,List.take_of_length_le (by omega),List.drop_eq_nil_of_le (by omega),List.append_nil]
  have h3:GJ o (s.1.1.drop i)=false:=by rw [List.drop_eq_nil_of_le (by omega)];simp [GJ]
  subst h2
  rw [h3,Bool.or_false]
  simp only [h1,decide_false]
  exact UK s o out hs s.1.2.length 0 fd s.1.2 (s.1.2.map (jz o)) (by omega) (by simp) rfl
 | succ n ih =>
  intro i fd out fin hi ho hf
  refine ar (j:=0) (by kernel_rfl) ((Oj _ _ _).trans ?_)
  have S8:out.length=s.1.1.length:=by rw [ho];simp;omega
  have aG:i<s.1.1.length:=by omega
  have hx:s.1.1[i]? = some s.1.1[i]:=List.getElem?_eq_getElem aG
  have hg:out[i]? = some s.1.1[i]:=by rw [ho];exact El _ _ _ _ hx
  have h2:s.1.1.drop i=s.1.1[i]::s.1.1.drop (i+1):=List.drop_eq_getElem_cons aG
  have ry:=aT (show i<out.length by omega)
  have hw:=aI aG (show s.1.1.length≤1073741824 by omega)
  rw [h2]
  generalize s.1.1[i]=y at *
  have hE:GJ o (y::s.1.1.drop (i+1))=((!(mF o)&&decide (y.1=aS o)) || GJ o (s.1.1.drop (i+1))):=by
   unfold GJ;cases mF o<;>simp
  rw [hE]
  refine ae ry ?_
  cases O7:mF o
  ·rw [Bool.not_false,Bool.true_and]
   refine ae (show (!(mF o))=true by rw [O7];rfl) ?_
   refine ae (dx (eI i) ry) ?_
   refine aa hg ?_
   by_cases hq:y.1=aS o
   ·refine ae ((jc y.1 (aS o)).trans (decide_eq_true hq)) ?_
    rw [decide_eq_true hq,Bool.true_or,Bool.or_true,Bool.true_or,hw]
    by_cases h7:o.1=7
    ·have e1:iB o y=(y.1,(y.2.1,(np o,y.2.2.2))):=by unfold iB;rw [if_pos ⟨O7,hq⟩,if_pos h7]
     refine ae (show (o.1==(7:Int))=true by simp [h7]) ?_
     refine ae (dx (eI i) ry) ?_
     refine aa hg ?_
     have:=ih (i+1) true (out.set i (y.1,(y.2.1,(np o,y.2.2.2)))) fin (by omega) (by rw [ho,←uu _ _ _ _ hx,e1]) hf
     rw [Bool.true_or,Bool.true_or] at this;exact this
    ·have e1:iB o y=(y.1,(y.2.1,(y.2.2.1,oN o))):=by unfold iB;rw [if_pos ⟨O7,hq⟩,if_neg h7]
     refine ag (show (o.1==(7:Int))=false by simp [h7]) ?_
     refine ae (dx (eI i) ry) ?_
     refine aa hg ?_
     have:=ih (i+1) true (out.set i (y.1,(y.2.1,(y.2.2.1,oN o)))) fin (by omega) (by rw [ho,←uu _ _ _ _ hx,e1]) hf
     rw [Bool.true_or,Bool.true_or] at this;exact this
   ·have e1:iB o y=y:=by unfold iB;rw [if_neg (fun h=>hq h.2)]
    refine ag ((jc y.1 (aS o)).trans (decide_eq_false hq)) ?_
    rw [decide_eq_false hq,Bool.false_or,hw]
    exact ih (i+1) fd out fin (by omega) (by rw [ho];exact qh _ _ _ _ hx e1) hf
  ·have e1:iB o y=y:=by unfold iB;rw [if_neg (by simp [O7])]
   rw [Bool.not_true,Bool.false_and,Bool.false_or]
   refine ag (show (!(mF o))=false by rw [O7];rfl) ?_
   rw [hw]
   exact ih (i+1) fd out fin (by omega) (by rw [ho];exact qh _ _ _ _ hx e1) hf
theorem adT(hG:HG G)(s:StateT)(o:bw)(hs:Sm s.1):FX G 52 zK ((s,o,()),())=some (vI s o,()):=by
 have hv:=hs.v;have he:=hs.e
 refine au (fn:=Tryz.f52) (hG _ _ rfl) (by kernel_rfl) (by kernel_rfl) ((acC _ _ _).trans ?_)
 refine aa (YD (hG _ _ rfl) s.1 (by omega) (by omega) (fun w hw=>by have:=hs.r w hw;omega)) ?_
 have:=UL (G:=G) s o hs s.1.1.length 0 false s.1.1 (s.1.1.map (iB o)) (by omega) (by simp) rfl
 rw [Bool.false_or] at this
 exact this
end Go.Vs
namespace Go.Vs
open Go.Proofs
variable {G:(f:FuncId)→(g:aJ)→Option (g.A→Option g.B)}
structure Bd(n:Nat)(d:ai):Prop where
 v:d.1.length≤n
 e:d.2.length≤n
 r:∀w∈d.1,w.2.1.length≤n
theorem Bd.sm{n:Nat}{d:ai}(h:Bd n d)(hn:n≤50000000):Sm d:=⟨by have:=h.v;omega,by have:=h.e;omega,fun w hw=>by have:=h.r w hw;omega⟩
theorem Bd.mono{n m:Nat}{d:ai}(h:Bd n d)(hm:n≤m):Bd m d:=⟨by have:=h.v;omega,by have:=h.e;omega,fun w hw=>by have:=h.r w hw;omega⟩
theorem iu(v:ah):∀l:List ah,(dV v l).length=l.length+1
 | []=>rfl
 | w::r=>by unfold dV;split<;>simp [iu v r]
theorem mh(v:af):∀l:List af,(dp v l).length=l.length+1
 | []=>rfl
 | w::r=>by unfold dp;split<;>simp [mh v r]
theorem qk{v w:ah}:∀{l:List ah},w∈dV v l↔w=v∨w∈l
 | []=>by simp [dV]
 | u::r=>by
  unfold dV
  split
  ·simp
  ·simp only [List.mem_cons,qk (l:=r)]
   exact ⟨fun h=>by rcases h with h | h | h<;>simp [h],fun h=>by rcases h with h | h | h<;>simp [h]⟩
theorem uB{v w:af}:∀{l:List af},w∈dp v l↔w=v∨w∈l
 | []=>by simp [dp]
 | u::r=>by
  unfold dp
  split
  ·simp
  ·simp only [List.mem_cons,uB (l:=r)]
   exact ⟨fun h=>by rcases h with h | h | h<;>simp [h],fun h=>by rcases h with h | h | h<;>simp [h]⟩
theorem wW(row:List ab)(a d:ab):(lC row a d).length≤row.length+1:=by
 unfold lC
 split
 ·rw [fM];omega
 ·rw [fM];simp;omega
theorem GK(row:List ab)(d:ab):(gG row d).length≤row.length:=by
 unfold gG;rw [fM];exact List.length_filter_le _ _
theorem Eo(row:List ab)(a d:ab):(jg row a d).length=row.length:=by
 unfold jg;rw [fM];split<;>simp
theorem Bd.bJ{n:Nat}{d:ai}(h:Bd n d)(x:ID):(bJ d x).length≤n:=by
 unfold Vs.bJ
 cases hf:bj d x with
 | none=>simp [zV]
 | some v=>exact h.r v (List.mem_of_find?_eq_some hf)
theorem Bd.b6{n:Nat}{d:ai}(h:Bd n d){x:ID}{l:List ab}(hl:l.length≤n):Bd n (b6 d x l):=by
 refine ⟨by simp [Vs.b6];exact h.v,h.e,fun w hw => ?_⟩
 obtain ⟨u,hu,rfl⟩:=List.mem_map.1 hw
 unfold qW
 split
 ·exact hl
 ·exact h.r u hu
theorem Bd.bR{n:Nat}{d:ai}(h:Bd n d)(c:oX)(x:ab):Bd (n+1) (bR d c x) :=
 (h.mono (by omega)).b6 (by have:=wW (Vs.bJ d c.1) c.2 x;have:=h.bJ c.1;omega)
theorem Bd.aD{n:Nat}{d:ai}(h:Bd n d)(a x:ab):Bd n (aD d a x) :=
 h.b6 (by rw [Eo];exact h.bJ _)
theorem Bd.aB{n:Nat}{d:ai}(h:Bd n d)(x:ab):Bd n (aB d x) :=
 h.b6 (by have:=GK (Vs.bJ d ((cr d x).getD zI)) x;have:=h.bJ ((cr d x).getD zI);omega)
theorem Bd.bu{n:Nat}{d:ai}(h:Bd n d)(v e:ID):Bd n (bu d v e) :=
 ⟨Nat.le_trans (List.length_filter_le _ _) h.v,Nat.le_trans (List.length_filter_le _ _) h.e,fun w hw=>h.r w (List.mem_filter.1 hw).1⟩
theorem Bd.dV{n:Nat}{d:ai}(h:Bd n d)(v:ah)(hv:v.2.1.length≤n+1):Bd (n+1) (dV v d.1,d.2) :=
 ⟨by rw [iu];have:=h.v;omega,by have:=h.e;simp only;omega,fun w hw=>by
  rcases qk.1 hw with rfl | hw
  ·exact hv
  ·have:=h.r w hw;omega⟩
theorem Bd.dp{n:Nat}{d:ai}(h:Bd n d)(v:af):Bd (n+1) (d.1,dp v d.2) :=
 ⟨by have:=h.v;simp only;omega,by rw [mh];have:=h.e;omega,fun w hw=>by have:=h.r w hw;omega⟩
theorem wX(g:ak):∀l:List ak,(kG g l).length≤l.length+1
 | []=>by simp [kG]
 | e::r=>by
  unfold kG
  split
  ·have:=List.length_filter_le (fun q:ak=>decide (q.1≠g.1)) (e::r)
   simp [mE];simp at this;omega
  ·have:=wX g r
   split<;>simp<;>omega
theorem ep(l:List ak)(g:ak):(bK l g).length≤l.length+1:=by
 unfold bK;split
 ·omega
 ·exact wX g l
def kx(s:StateT)(o:bw):ai :=
 bR (bR (s.1.1,dp (aS o,(e0,0)) s.1.2) (aU s (oA o)).1 (aS o,0))
  (if (bj s.1 (oB o).1).isSome=true∧(oB o).2=(aS o,0) then oB o else (aU s (oB o)).1) (aS o,1)
def ql(s:StateT)(o:bw):StateT×(Int×Unit) :=
 if (gH s.1 (aS o)).isSome=true then (zS,(12,()))
 else if 40≤s.1.2.length then (zS,(3,()))
 else if (aU s (oA o)).2.1≠0 then (zS,(13,()))
 else if (aU s (oB o)).2.1≠0 then (zS,(13,()))
 else if iU (kx s o)≠0 then (zS,(15,()))
 else ((kx s o,s.2),(0,()))
theorem adU(hG:HG G){n:Nat}(s:StateT)(o:bw)(hs:Bd n s.1)(hn:n≤4000000)(hg:s.2.length≤50000000):FX G 48 NR ((s,o,()),())=some (ql s o,()):=by
  have hv:=hs.v;have he:=hs.e
  have O8:=hs.sm (by omega)
  refine au (fn:=Tryz.f48) (hG _ _ rfl) (by kernel_rfl) (by kernel_rfl) ((acy _ _ _).trans ?_)
  refine aa (RB (hG _ _ rfl) s.1 (aS o) (by omega)) ?_
  rw [show (oS zE (gH s.1 (aS o))).2.1=(gH s.1 (aS o)).isSome from gQ _ _]
  unfold ql
  cases h1:(gH s.1 (aS o)).isSome
  case true=>rw [if_pos rfl];rfl
  rw [if_neg (by simp)]
  by_cases h2:40≤s.1.2.length
  · have d:decide (((s.1.2.length:Nat):Int)≥40)=true:=decide_eq_true (by omega)
    rw [if_pos h2];simp only [d];rfl
  have d2:decide (((s.1.2.length:Nat):Int)≥40)=false:=decide_eq_false (by omega)
  rw [if_neg h2];simp only [d2]
  refine aa (YN hG s (oA o) O8 hg) ?_
  refine aa (YN hG s (oB o) O8 hg) ?_
  refine aa (BW (hG _ _ rfl) s.1 (oB o).1 (by omega)) ?_
  rw [show (oS zV (bj s.1 (oB o).1)).2.1=(bj s.1 (oB o).1).isSome from gQ _ _]
  have b1:=hs.dp (aS o,(e0,0))
  have b2:=b1.bR (aU s (oA o)).1 (aS o,0)
  have fin:∀(bc:oX),kx s o=bR (bR (s.1.1,dp (aS o,(e0,0)) s.1.2) (aU s (oA o)).1 (aS o,0)) bc (aS o,1) →
      (cond ((aU s (oA o)).2.1 != 0) (some (((([],[]),[]),((13:Int),())),()))
       (cond ((aU s (oB o)).2.1 != 0) (some (((([],[]),[]),((13:Int),())),()))
        ((FX G 71 xh ((s.1,((aS o,(e0,(0:Int))),())),())).bind fun (y5:((ai×Unit)×Unit)) =>
        (FX G 72 xi ((y5.1.1,((aU s (oA o)).1,((aS o,(0:Int)),()))),())).bind fun (y6:((ai×Unit)×Unit)) =>
        (FX G 72 xi ((y6.1.1,(bc,((aS o,(1:Int)),()))),())).bind fun (y7:((ai×Unit)×Unit)) =>
        (FX G 64 FN ((y7.1.1,()),())).bind fun (y8:((Int×Unit)×Unit)) =>
        cond (y8.1.1 != (0:Int))
         (some (((([],[]),[]),((15:Int),())),()))
         (some (((y7.1.1,s.2),((0:Int),())),())))):Option ((StateT×(Int×Unit))×Unit)) =
      some ((if (aU s (oA o)).2.1≠0 then (zS,(13,())) else if (aU s (oB o)).2.1≠0 then (zS,(13,())) else if iU (kx s o)≠0 then (zS,(15,())) else ((kx s o,s.2),(0,())):StateT×(Int×Unit)),()):=by
    intro bc hbc
    by_cases h3:(aU s (oA o)).2.1=0
    case neg =>
      have d:((aU s (oA o)).2.1 != 0)=true:=by simp [h3]
      rw [if_pos h3,d];rfl
    rw [if_neg (by simp [h3]),show ((aU s (oA o)).2.1 != 0)=false by simp [h3]]
    by_cases h4:(aU s (oB o)).2.1=0
    case neg =>
      have d:((aU s (oB o)).2.1 != 0)=true:=by simp [h4]
      rw [if_pos h4,d];rfl
    rw [if_neg (by simp [h4]),show ((aU s (oB o)).2.1 != 0)=false by simp [h4]]
    simp only [cond_false]
    have b3:=b2.bR bc (aS o,1)
    rw [←hbc] at b3
    refine aa (YF hG s.1 (aS o,(e0,0)) (by omega)) ?_
    refine aa (YH hG _ _ _ (b1.sm (by omega))) ?_
    refine aa ((YH hG (bR (s.1.1,dp (aS o,(e0,0)) s.1.2) (aU s (oA o)).1 (aS o,0)) bc (aS o,1) (b2.sm (by omega))).trans (congrArg (fun z:ai=>some ((z,()),())) hbc.symm)) ?_
    refine aa (adP hG (kx s o) (b3.sm (by omega)) (by have:=b3.e;omega)) ?_
    by_cases h5:iU (kx s o)=0
    · rw [if_neg (by simp [h5])]
      have d:(iU (kx s o) != 0)=false:=by simp [h5]
      simp only [d];rfl
    · rw [if_pos h5]
      have d:(iU (kx s o) != 0)=true:=by simp [h5]
      simp only [d];rfl
  have hb:((((oB o).2.1.1==o.2.1.1)&&((oB o).2.1.2==o.2.1.2))&&((oB o).2.2==(0:Int)))=decide ((oB o).2=(aS o,0)):=kj (oB o).2 (aS o,0)
  simp only [hb]
  cases h6:(bj s.1 (oB o).1).isSome
  · exact fin (aU s (oB o)).1 (by unfold kx;rw [if_neg (by simp [h6])])
  · by_cases h7:(oB o).2=(aS o,0)
    · have d:=decide_eq_true h7
      simp only [d]
      exact fin (oB o) (by unfold kx;rw [if_pos ⟨h6,h7⟩])
    · have d:=decide_eq_false h7
      simp only [d]
      exact fin (aU s (oB o)).1 (by unfold kx;rw [if_neg (by simp [h7])])
def Ep(s:StateT)(o:bw):StateT×(Int×Unit) :=
 if (gH s.1 (aS o)).isSome=false then (zS,(13,()))
 else ((bu (aB (aB s.1 (aS o,0)) (aS o,1)) zI (aS o),
  bK (bK s.2 ((aS o,0),c4 s.1 (aS o,0))) ((aS o,1),c4 s.1 (aS o,1))),(0,()))
theorem adV(hG:HG G){n:Nat}(s:StateT)(o:bw)(hs:Bd n s.1)(hn:n≤4000000)(hg:s.2.length≤5000000):FX G 49 NS ((s,o,()),())=some (Ep s o,()):=by
 have hv:=hs.v;have he:=hs.e
 have O8:=hs.sm (by omega)
 refine au (fn:=Tryz.f49) (hG _ _ rfl) (by kernel_rfl) (by kernel_rfl) ((acz _ _ _).trans ?_)
 refine aa (RB (hG _ _ rfl) s.1 (aS o) (by omega)) ?_
 rw [show (oS zE (gH s.1 (aS o))).2.1=(gH s.1 (aS o)).isSome from gQ _ _]
 unfold Ep
 cases h1:(gH s.1 (aS o)).isSome
 case false=>rw [if_pos rfl];rfl
 rw [if_neg (by simp)]
 have b1:=hs.aB (aS o,0)
 have b2:=b1.aB (aS o,1)
 have l1:=ep s.2 ((aS o,0),c4 s.1 (aS o,0))
 refine aa (YK hG s.1 (aS o,0) O8) ?_
 refine aa (RE hG s.2 ((aS o,0),c4 s.1 (aS o,0)) (by omega)) ?_
 refine aa (YK hG s.1 (aS o,1) O8) ?_
 refine aa (RE hG (bK s.2 ((aS o,0),c4 s.1 (aS o,0))) ((aS o,1),c4 s.1 (aS o,1)) (by omega)) ?_
 refine aa (YJ hG s.1 (aS o,0) O8) ?_
 refine aa (YJ hG (aB s.1 (aS o,0)) (aS o,1) (b1.sm (by omega))) ?_
 exact aa (RC (hG _ _ rfl) (aB (aB s.1 (aS o,0)) (aS o,1)) zI (aS o) (by have:=b2.v;omega) (by have:=b2.e;omega)) rfl
def HL(o:bw):ab:=(aS o,IntKind.wrap .i64 (1 - Int.tmod (oN o) 2))
def EL(o:bw):ab:=(aV o,IntKind.wrap .i64 (Int.tdiv (oN o) 2))
def O9(s:StateT)(o:bw):ai :=
 (dV (eu o,(cH [HL o,EL o],(e0,0))) (aD s.1 (HL o) (aq (EL o))).1,dp (aV o,(e0,0)) (aD s.1 (HL o) (aq (EL o))).2)
def lE(s:StateT)(o:bw):StateT×(Int×Unit) :=
 if (gH s.1 (aS o)).isSome=false then (zS,(13,()))
 else if (bj s.1 (eu o)).isSome=true then (zS,(12,()))
 else if (gH s.1 (aV o)).isSome=true then (zS,(12,()))
 else if 24≤s.1.1.length then (zS,(3,()))
 else if 40≤s.1.2.length then (zS,(3,()))
 else ((O9 s o,s.2),(0,()))
theorem adW(hG:HG G){n:Nat}(s:StateT)(o:bw)(hs:Bd n s.1)(hn:n≤4000000):FX G 50 NT ((s,o,()),())=some (lE s o,()):=by
 have hv:=hs.v;have he:=hs.e
 have O8:=hs.sm (by omega)
 refine au (fn:=Tryz.f50) (hG _ _ rfl) (by kernel_rfl) (by kernel_rfl) ((acA _ _ _).trans ?_)
 refine aa (RB (hG _ _ rfl) s.1 (aS o) (by omega)) ?_
 rw [show (oS zE (gH s.1 (aS o))).2.1=(gH s.1 (aS o)).isSome from gQ _ _]
 unfold lE
 cases h1:(gH s.1 (aS o)).isSome
 case false=>rw [if_pos rfl];rfl
 rw [if_neg (by simp)]
 refine aa (BW (hG _ _ rfl) s.1 (eu o) (by omega)) ?_
 rw [show (oS zV (bj s.1 (eu o))).2.1=(bj s.1 (eu o)).isSome from gQ _ _]
 refine aa (RB (hG _ _ rfl) s.1 (aV o) (by omega)) ?_
 rw [show (oS zE (gH s.1 (aV o))).2.1=(gH s.1 (aV o)).isSome from gQ _ _]
 cases h2:(bj s.1 (eu o)).isSome
 case true=>rw [if_pos rfl];rfl
 rw [if_neg (by simp)]
 cases h3:(gH s.1 (aV o)).isSome
 case true=>rw [if_pos rfl];rfl
 rw [if_neg (by simp)]
 by_cases h4:24≤s.1.1.length
 ·have d:decide (((s.1.1.length:Nat):Int)≥24)=true:=decide_eq_true (by omega)
  rw [if_pos h4];simp only [d];rfl
 have d4:decide (((s.1.1.length:Nat):Int)≥24)=false:=decide_eq_false (by omega)
 rw [if_neg h4]
 by_cases h5:40≤s.1.2.length
 ·have d:decide (((s.1.2.length:Nat):Int)≥40)=true:=decide_eq_true (by omega)
  rw [if_pos h5];simp only [d4,d];rfl
 have d5:decide (((s.1.2.length:Nat):Int)≥40)=false:=decide_eq_false (by omega)
 rw [if_neg h5]
 simp only [d4,d5]
 have d6:((2:Int)==0)=false:=rfl
 simp only [d6]
 have b1:=hs.aD (HL o) (aq (EL o))
 have b2:=b1.dp (aV o,(e0,0))
 refine aa (UD (hG _ _ rfl) (EL o)) ?_
 refine aa (YI hG s.1 (HL o) (aq (EL o)) O8) ?_
 refine aa (YF hG (aD s.1 (HL o) (aq (EL o))) (aV o,(e0,0)) (by have:=b1.e;omega)) ?_
 refine aa (GC hG [HL o,EL o] (by simp)) ?_
 exact aa (YE hG ((aD s.1 (HL o) (aq (EL o))).1,dp (aV o,(e0,0)) (aD s.1 (HL o) (aq (EL o))).2) (eu o,(cH [HL o,EL o],(e0,0))) (Nat.le_trans b1.v (by omega))) rfl
end Go.Vs
namespace Go.Vs
open Go.Proofs
variable {G:(f:FuncId)→(g:aJ)→Option (g.A→Option g.B)}
def o6(a b:ab)(i:Int):ab:=if (b.1,i)=aq b then a else zD
def GL(g:List ak)(a b:ab):List ak:=bK (bK g ((b.1,0),o6 a b 0)) ((b.1,1),o6 a b 1)
def IS(s:StateT)(o:bw)(a b:ab):ai:=bu (aD (bu s.1 (aS o) zI) (aq b) a) zI b.1
theorem adX(hG:HG G)(g:List ak)(a b:ab)(d:ai)(hg:g.length≤5000000) :
  LX G 51 xf Tryz.f51 lz (aP Tryz.prog 51 0) ((g,((0:Int),())),(((([]:List ah),(([]:List af),(([]:List ak),()))),((a,()),((b,()),((aq b,()),((d,()),()))))),()))=some (((d,GL g a b),((0:Int),())),()):=by
 have l2:∀g2:List ak,LX G 51 xf Tryz.f51 lz (aP Tryz.prog 51 0) ((g2,((2:Int),())),(((([]:List ah),(([]:List af),(([]:List ak),()))),((a,()),((b,()),((aq b,()),((d,()),()))))),()))=some (((d,g2),((0:Int),())),()):=fun g2 =>
  ar (j:=0) (by kernel_rfl) ((Oi _ _ _).trans (ag rfl rfl))
 have step:∀(i:Int) (g1:List ak) (r:(StateT×(Int×Unit))×Unit),i<2→g1.length≤5000001→LX G 51 xf Tryz.f51 lz (aP Tryz.prog 51 0) ((bK g1 ((b.1,i),o6 a b i),(IntKind.wrap .i64 (i+1),())),(((([]:List ah),(([]:List af),(([]:List ak),()))),((a,()),((b,()),((aq b,()),((d,()),()))))),()))=some r →
   LX G 51 xf Tryz.f51 lz (aP Tryz.prog 51 0) ((g1,(i,())),(((([]:List ah),(([]:List af),(([]:List ak),()))),((a,()),((b,()),((aq b,()),((d,()),()))))),()))=some r:=fun i g1 r hi hg1 h=>by
  refine ar (j:=0) (by kernel_rfl) ((Oi _ _ _).trans ?_)
  refine ae (decide_eq_true hi) ?_
  unfold o6 at h
  by_cases he:((b.1,i):ab)=aq b
  ·rw [if_pos he] at h
   refine ae ((kj (b.1,i) (aq b)).trans (decide_eq_true he)) ?_
   refine aa (RE hG g1 ((b.1,i),a) (by omega)) ?_
   exact h
  ·rw [if_neg he] at h
   refine ag ((kj (b.1,i) (aq b)).trans (decide_eq_false he)) ?_
   refine aa (RE hG g1 ((b.1,i),zD) (by omega)) ?_
   exact h
 have a1:=ep g ((b.1,0),o6 a b 0)
 refine step 0 g _ (by omega) (by omega) ?_
 refine step 1 _ _ (by omega) (by omega) ?_
 exact l2 _
def jN(s:StateT)(o:bw)(r0 r1:ab):StateT×(Int×Unit) :=
 if r0.1=r1.1 then (zS,(14,()))
 else if r0.1=aV o then ((IS s o r1 r0,GL s.2 r1 r0),(0,()))
 else if r1.1=aV o then ((IS s o r0 r1,GL s.2 r0 r1),(0,()))
 else (zS,(14,()))
def kH(s:StateT)(o:bw):StateT×(Int×Unit):=match bj s.1 (aS o) with
 | none=>(zS,(13,()))
 | some v=>match v.2.1 with
  | [r0,r1]=>jN s o r0 r1
  | _=>(zS,(14,()))
theorem adY(hG:HG G){n:Nat}(s:StateT)(o:bw)(hs:Bd n s.1)(hn:n≤4000000)(hg:s.2.length≤5000000):FX G 51 xf ((s,o,()),())=some (kH s o,()):=by
  have hv:=hs.v;have he:=hs.e
  have O8:=hs.sm (by omega)
  refine au (fn:=Tryz.f51) (hG _ _ rfl) (by kernel_rfl) (by kernel_rfl) ((acB _ _ _).trans ?_)
  refine aa (BW (hG _ _ rfl) s.1 (aS o) (by omega)) ?_
  unfold kH
  cases hf:bj s.1 (aS o) with
  | none=>rfl
  | some v =>
    refine ag (show (!true)=false from rfl) ?_
    have two:∀(a b:ab) (r:Option ((StateT×(Int×Unit))×Unit)),r=some (((IS s o a b,GL s.2 a b),((0:Int),())),()) →
        ((FX G 23 BO ((b,()),())).bind fun (y8:((ab×Unit)×Unit)) =>
         (FX G 47 oq ((s.1,(aS o,(zI,()))),())).bind fun (y9:((ai×Unit)×Unit)) =>
         (FX G 76 FQ ((y9.1.1,(y8.1.1,(a,()))),())).bind fun (ou:((ai×Unit)×Unit)) =>
         (FX G 47 oq ((ou.1.1,(zI,(b.1,()))),())).bind fun (kC:((ai×Unit)×Unit)) =>
         LX G 51 xf Tryz.f51 lz (aP Tryz.prog 51 0) ((s.2,((0:Int),())),(((([]:List ah),(([]:List af),(([]:List ak),()))),((a,()),((b,()),((y8.1.1,()),((kC.1.1,()),()))))),())))=r:=fun a b r hr=>by
      subst hr
      have b1:=hs.bu (aS o) zI
      have b2:=b1.aD (aq b) a
      refine aa (UD (hG _ _ rfl) b) ?_
      refine aa (RC (hG _ _ rfl) s.1 (aS o) zI (by omega) (by omega)) ?_
      refine aa (YI hG (bu s.1 (aS o) zI) (aq b) a (b1.sm (by omega))) ?_
      refine aa (RC (hG _ _ rfl) (aD (bu s.1 (aS o) zI) (aq b) a) zI b.1 (by have:=b2.v;omega) (by have:=b2.e;omega)) ?_
      exact adX hG s.2 a b (IS s o a b) hg
    obtain ⟨vi,ring,vr⟩:=v
    by_cases hl:ring.length=2
    case neg =>
      refine ae (show ((((ring.length:Nat):Int)) != 2)=true by simp;omega) ?_
      match ring,hl with
      | [],_=>rfl
      | [_],_=>rfl
      | [_,_],h=>exact absurd rfl h
      | _::_::_::_,_=>rfl
    match ring,hl with
    | [r0,r1],_ =>
      refine ag (show ((((2:Nat):Int)) != 2)=false from rfl) ?_
      refine aa (show aZ [r0,r1] 0=some r0 from rfl) ?_
      refine aa (show aZ [r0,r1] 1=some r1 from rfl) ?_
      show _=some (jN s o r0 r1,())
      unfold jN
      by_cases h1:r0.1=r1.1
      · rw [if_pos h1]
        exact ae ((jc r0.1 r1.1).trans (decide_eq_true h1)) rfl
      rw [if_neg h1]
      refine ag ((jc r0.1 r1.1).trans (decide_eq_false h1)) ?_
      refine aa (show aZ [r0,r1] 0=some r0 from rfl) ?_
      refine aa (show aZ [r0,r1] 1=some r1 from rfl) ?_
      by_cases h2:r0.1=aV o
      · rw [if_pos h2]
        refine ae ((jc r0.1 (aV o)).trans (decide_eq_true h2)) ?_
        refine aa (show aZ [r0,r1] 1=some r1 from rfl) ?_
        refine aa (show aZ [r0,r1] 0=some r0 from rfl) ?_
        refine ag (by rw [show ((r0.1.1==(aV o).1)&&(r0.1.2==(aV o).2))=true from (jc r0.1 (aV o)).trans (decide_eq_true h2)];rfl) ?_
        exact two r1 r0 _ rfl
      rw [if_neg h2]
      refine ag ((jc r0.1 (aV o)).trans (decide_eq_false h2)) ?_
      by_cases h3:r1.1=aV o
      · rw [if_pos h3]
        refine ag (by rw [show ((r1.1.1==(aV o).1)&&(r1.1.2==(aV o).2))=true from (jc r1.1 (aV o)).trans (decide_eq_true h3)];rfl) ?_
        exact two r0 r1 _ rfl
      · rw [if_neg h3]
        exact ae (by rw [show ((r1.1.1==(aV o).1)&&(r1.1.2==(aV o).2))=false from (jc r1.1 (aV o)).trans (decide_eq_false h3)];rfl) rfl
def rY(s:StateT)(o:bw):StateT×(Int×Unit) :=
 if (bj s.1 (aS o)).isSome=true then (zS,(12,())) else if 24≤s.1.1.length then (zS,(3,())) else (((dV (aS o,([],(e0,0))) s.1.1,s.1.2),s.2),(0,()))
def wY(s:StateT)(o:bw):StateT×(Int×Unit):=match bj s.1 (aS o) with
 | none=>(zS,(13,()))
 | some v=>if 0<v.2.1.length then (zS,(14,())) else ((bu s.1 (aS o) zI,s.2),(0,()))
def kl(s:StateT)(o:bw):StateT×(Int×Unit) :=
 if cp o≠0 then (zS,(cp o,()))
 else if o.1=1 then rY s o else if o.1=2 then wY s o else if o.1=3 then ql s o else if o.1=4 then Ep s o else if o.1=5 then lE s o else if o.1=6 then kH s o else vI s o
theorem adZ(hG:HG G){n:Nat}(s:StateT)(o:bw)(hs:Bd n s.1)(hn:n≤4000000)(hg:s.2.length≤5000000)(ht:iV o):FX G 15 NM ((s,o,()),())=some (kl s o,()):=by
 have hv:=hs.v;have he:=hs.e
 refine au (fn:=Tryz.f15) (hG _ _ rfl) (by kernel_rfl) (by kernel_rfl) ((ab4 _ _ _).trans ?_)
 refine aa (YR hG o ht) ?_
 unfold kl
 by_cases h0:cp o=0
 case neg =>
  rw [if_pos h0]
  exact ae (show (cp o != 0)=true by simp [h0]) rfl
 rw [if_neg (by simp [h0])]
 refine ag (show (cp o != 0)=false by simp [h0]) ?_
 refine aa (BW (hG _ _ rfl) s.1 (aS o) (by omega)) ?_
 by_cases h1:o.1=1
 ·rw [if_pos h1]
  refine ae (show (o.1==(1:Int))=true by simp [h1]) ?_
  rw [show (oS zV (bj s.1 (aS o))).2.1=(bj s.1 (aS o)).isSome from gQ _ _]
  unfold rY
  cases hf:(bj s.1 (aS o)).isSome
  ·rw [if_neg (by simp)]
   refine ag rfl ?_
   by_cases h4:24≤s.1.1.length
   ·rw [if_pos h4]
    exact ae (decide_eq_true (show ((s.1.1.length:Nat):Int)≥24 by omega)) rfl
   ·rw [if_neg h4]
    refine ag (decide_eq_false (show ¬((s.1.1.length:Nat):Int)≥24 by omega)) ?_
    exact aa (YE hG s.1 (aS o,([],(e0,0))) (by omega)) rfl
  ·rw [if_pos rfl];rfl
 rw [if_neg h1]
 refine ag (show (o.1==(1:Int))=false by simp [h1]) ?_
 by_cases h2:o.1=2
 ·rw [if_pos h2]
  refine ae (show (o.1==(2:Int))=true by simp [h2]) ?_
  unfold wY
  cases hf:bj s.1 (aS o) with
  | none=>rfl
  | some v =>
   refine ag (show (!true)=false from rfl) ?_
   by_cases h4:0<v.2.1.length
   ·show _=some ((if 0<v.2.1.length then (zS,(14,())) else ((bu s.1 (aS o) zI,s.2),(0,())):StateT×(Int×Unit)),())
    rw [if_pos h4]
    exact ae (decide_eq_true (show ((v.2.1.length:Nat):Int) > 0 by omega)) rfl
   ·show _=some ((if 0<v.2.1.length then (zS,(14,())) else ((bu s.1 (aS o) zI,s.2),(0,())):StateT×(Int×Unit)),())
    rw [if_neg h4]
    refine ag (decide_eq_false (show ¬((v.2.1.length:Nat):Int) > 0 by omega)) ?_
    exact aa (RC (hG _ _ rfl) s.1 (aS o) zI (by omega) (by omega)) rfl
 rw [if_neg h2]
 refine ag (show (o.1==(2:Int))=false by simp [h2]) ?_
 by_cases h3:o.1=3
 ·rw [if_pos h3]
  refine ae (show (o.1==(3:Int))=true by simp [h3]) ?_
  exact aa (adU hG s o hs hn (by omega)) rfl
 rw [if_neg h3]
 refine ag (show (o.1==(3:Int))=false by simp [h3]) ?_
 by_cases h4:o.1=4
 ·rw [if_pos h4]
  refine ae (show (o.1==(4:Int))=true by simp [h4]) ?_
  exact aa (adV hG s o hs hn hg) rfl
 rw [if_neg h4]
 refine ag (show (o.1==(4:Int))=false by simp [h4]) ?_
 by_cases h5:o.1=5
 ·rw [if_pos h5]
  refine ae (show (o.1==(5:Int))=true by simp [h5]) ?_
  exact aa (adW hG s o hs hn) rfl
 rw [if_neg h5]
 refine ag (show (o.1==(5:Int))=false by simp [h5]) ?_
 by_cases h6:o.1=6
 ·rw [if_pos h6]
  refine ae (show (o.1==(6:Int))=true by simp [h6]) ?_
  exact aa (adY hG s o hs hn hg) rfl
 rw [if_neg h6]
 refine ag (show (o.1==(6:Int))=false by simp [h6]) ?_
 exact aa (adT hG s o (hs.sm (by omega))) rfl
structure Bs(n:Nat)(s:StateT):Prop where
 d:Bd n s.1
 g:s.2.length≤n
theorem Bs.mono{n m:Nat}{s:StateT}(h:Bs n s)(hm:n≤m):Bs m s:=⟨h.d.mono hm,by have:=h.g;omega⟩
theorem Bs.zero(n:Nat):Bs n zS:=⟨⟨Nat.zero_le _,Nat.zero_le _,fun w hw=>by simp [zS] at hw⟩,Nat.zero_le _⟩
theorem Bs.one{n:Nat}{s:StateT}(h:Bs n s)(o:bw):Bs (n+3) (kl s o).1:=by
 have h1:=h.d;have h2:=h.g
 unfold kl
 split
 ·exact Bs.zero _
 split
 ·unfold rY;split
  ·exact Bs.zero _
  split
  ·exact Bs.zero _
  ·exact ⟨(h1.dV _ (by simp)).mono (by omega),by simp only;omega⟩
 split
 ·unfold wY
  cases bj s.1 (aS o) with
  | none=>exact Bs.zero _
  | some v =>
   simp only
   split
   ·exact Bs.zero _
   ·exact ⟨(h1.bu _ _).mono (by omega),by simp only;omega⟩
 split
 ·unfold ql
  split;· exact Bs.zero _
  split;· exact Bs.zero _
  split;· exact Bs.zero _
  split;· exact Bs.zero _
  split;· exact Bs.zero _
  exact ⟨by unfold kx;exact ((h1.dp _).bR _ _).bR _ _,by simp only;omega⟩
 split
 ·unfold Ep
  split;· exact Bs.zero _
  refine ⟨(((h1.aB _).aB _).bu _ _).mono (by omega),?_⟩
  have a1:=ep s.2 ((aS o,0),c4 s.1 (aS o,0))
  have a2:=ep (bK s.2 ((aS o,0),c4 s.1 (aS o,0))) ((aS o,1),c4 s.1 (aS o,1))
  simp only;omega
 split
 ·unfold lE
  split;· exact Bs.zero _
  split;· exact Bs.zero _
  split;· exact Bs.zero _
  split;· exact Bs.zero _
  split;· exact Bs.zero _
  refine ⟨?_,by simp only;omega⟩
  have b2:=((h1.aD (HL o) (aq (EL o))).dp (aV o,(e0,0)))
  exact (b2.dV (eu o,(cH [HL o,EL o],(e0,0))) (by simp [fM])).mono (by omega)
 split
 ·unfold kH
  have key:∀a b:ab,Bs (n+3) (IS s o a b,GL s.2 a b):=fun a b=>by
   refine ⟨(((h1.bu _ _).aD _ _).bu _ _).mono (by omega),?_⟩
   have a1:=ep s.2 ((b.1,0),o6 a b 0)
   have a2:=ep (bK s.2 ((b.1,0),o6 a b 0)) ((b.1,1),o6 a b 1)
   simp only [GL];omega
  split
  ·exact Bs.zero _
  ·split
   ·unfold jN
    split;· exact Bs.zero _
    split;· exact key _ _
    split;· exact key _ _
    exact Bs.zero _
   ·exact Bs.zero _
 ·unfold vI
  split
  ·refine ⟨⟨by simp;have:=h1.v;omega,by simp;have:=h1.e;omega,fun w hw => ?_⟩,by simp only;omega⟩
   obtain ⟨u,hu,rfl⟩:=List.mem_map.1 hw
   have hr:=h1.r u hu
   have e:(iB o u).2.1=u.2.1:=by unfold iB;split<;>(try split)<;>rfl
   rw [e];omega
  ·exact Bs.zero _
def HM:List bw→StateT→StateT×(Int×Unit)
 | [],s=>(s,(0,()))
 | o::r,s=>if (kl s o).2.1≠0 then (zS,(kl s o).2) else HM r (kl s o).1
def bX(s:StateT)(l:List bw):StateT×(Int×Unit):=if de l≠0 then (zS,(de l,())) else HM l s
theorem Bs.go{l:List bw}:∀{n:Nat} {s:StateT},Bs n s→Bs (n+3 * l.length) (HM l s).1:=by
 induction l with
 | nil=>intro n s h;exact h.mono (by simp)
 | cons o r ih =>
  intro n s h
  unfold HM
  split
  ·exact Bs.zero _
  ·exact (ih (h.one o)).mono (by simp;omega)
theorem ad0(hG:HG G){n:Nat}(s:StateT)(l:List bw)(hs:Bs n s)(hn:n+3 * l.length≤3000000)(ht:∀o∈l,iV o):FX G 35 FK ((s,l,()),())=some (bX s l,()):=by
 refine au (fn:=Tryz.f35) (hG _ _ rfl) (by kernel_rfl) (by kernel_rfl) ((aco _ _ _).trans ?_)
 refine aa (YS hG l ht) ?_
 unfold bX
 by_cases h0:de l=0
 case neg =>
  rw [if_pos h0]
  exact ae (show (de l != 0)=true by simp [h0]) rfl
 rw [if_neg (by simp [h0])]
 refine ag (show (de l != 0)=false by simp [h0]) ?_
 have key:=bT l (fun i (s:StateT)=>LX G 35 FK Tryz.f35 Ae (aP Tryz.prog 35 0) ((i,()),(((s,()),((l,()),((([]:List ah),(([]:List af),(([]:List ak),()))),()))),()))) (fun (r:List bw) (s:StateT)=>(HM r s,()))
  (fun m s=>∃k,Bs k s∧k+3 * m≤3000000)
  (fun s _=>by
   exact ar (j:=0) (by kernel_rfl) ((Oa _ _ _).trans (ag (dd _) rfl)))
  (fun i o r s hi hx BX hk ih=>by
   obtain ⟨k,hb,hk⟩:=hk
   refine ar (j:=0) (by kernel_rfl) ((Oa _ _ _).trans ?_)
   refine ae (aT hi) ?_
   refine aa (aK hx) ?_
   have hbd:=hb.d;have hbg:=hb.g
   refine aa (adZ hG s o hbd (by omega) (by omega) (ht o (List.mem_of_getElem? hx))) ?_
   rw [HM]
   by_cases h1:(kl s o).2.1=0
   ·rw [if_neg (by simp [h1])]
    refine ag (show ((kl s o).2.1 != 0)=false by simp [h1]) ?_
    rw [aI hi (show l.length≤1073741824 by omega)]
    exact ih (kl s o).1 ⟨k+3,hb.one o,by omega⟩
   ·rw [if_pos h1]
    exact ae (show ((kl s o).2.1 != 0)=true by simp [h1]) rfl)
  s ⟨n,hs,hn⟩
 exact key
def lF(s:StateT)(l:List bw):StateT:=if (bX s l).2.1≠0 then s else (bX s l).1
theorem ad1(hG:HG G){n:Nat}(s:StateT)(l:List bw)(hs:Bs n s)(hn:n+3 * l.length≤3000000)(ht:∀o∈l,iV o):FX G 37 NP ((s,l,()),())=some ((lF s l,()),()):=by
 refine au (fn:=Tryz.f37) (hG _ _ rfl) (by kernel_rfl) (by kernel_rfl) ((acq _ _ _).trans ?_)
 refine aa (ad0 hG s l hs hn ht) ?_
 unfold lF
 by_cases h1:(bX s l).2.1=0
 ·rw [if_neg (by simp [h1])]
  exact ag (show ((bX s l).2.1 != 0)=false by simp [h1]) rfl
 ·rw [if_pos h1]
  exact ae (show ((bX s l).2.1 != 0)=true by simp [h1]) rfl
theorem Bs.try{n:Nat}{s:StateT}{l:List bw}(h:Bs n s):Bs (n+3 * l.length) (lF s l):=by
 unfold lF
 split
 ·exact h.mono (by omega)
 ·unfold bX
  split
  ·exact Bs.zero _
  ·exact h.go
def iW:Nat→List (List bw)→StateT→StateT
 | 0,_,s=>s
 | _+1,[],s=>s
 | n+1,l::r,s=>iW n r (lF s (l.take 8))
def qm(l:List (List bw)):StateT:=iW 30 l zS
theorem Bs.reach:∀(m:Nat) (l:List (List bw)) {n:Nat} {s:StateT},Bs n s→Bs (n+24 * m) (iW m l s)
 | 0,_,n,s,h=>by simpa [iW] using h
 | m+1,[],n,s,h=>h.mono (by omega)
 | m+1,l::r,n,s,h=>by
  rw [iW]
  have h1:Bs (n+3 * (l.take 8).length) (lF s (l.take 8)):=h.try
  have hl:(l.take 8).length≤8:=by simp;omega
  exact (Bs.reach m r (h1.mono (show n+3 * (l.take 8).length≤n+24 by omega))).mono (by omega)
theorem Bs.Er(l:List (List bw)):Bs 720 (qm l):=(Bs.reach 30 l (Bs.zero 0)).mono (by omega)
theorem ad2(hG:HG G)(l:List (List bw))(hl:l.length≤1073741824)(ht:∀e∈l,∀o∈e,iV o):FX G 17 FE ((l,()),())=some ((qm l,()),()):=by
 refine au (fn:=Tryz.f17) (hG _ _ rfl) (by kernel_rfl) (by kernel_rfl) ((ab6 _ _ _).trans ?_)
 have loop:∀(n i m:Nat) (s:StateT),i+n=l.length→i+m=30→Bs (24 * i) s→LX G 17 FE Tryz.f17 zZ (aP Tryz.prog 17 0) ((l,((i:Int),())),(((((([]:List ah),([]:List af)),([]:List ak)),()),((s,()),())),()))=some ((iW m (l.drop i) s,()),()):=by
  intro n
  induction n with
  | zero =>
   intro i m s hi hm hb
   have h2:l.drop i=[]:=List.drop_eq_nil_of_le (by omega)
   have h3:iW m (l.drop i) s=s:=by rw [h2];cases m<;>rfl
   rw [h3]
   exact ar (j:=0) (by kernel_rfl) ((NZ _ _ _).trans (ag (decide_eq_false (show ¬((i:Int)<((l.length:Nat):Int)) by omega)) rfl))
  | succ n ih =>
   intro i m s hi hm hb
   refine ar (j:=0) (by kernel_rfl) ((NZ _ _ _).trans ?_)
   have aG:i<l.length:=by omega
   refine ae (aT aG) ?_
   cases m with
   | zero=>exact ag (decide_eq_false (show ¬((i:Int)<30) by omega)) rfl
   | succ m =>
    refine ae (decide_eq_true (show ((i:Int)<30) by omega)) ?_
    have h2:l.drop i=l[i]::l.drop (i+1):=List.drop_eq_getElem_cons aG
    have hx:l[i]? = some l[i]:=List.getElem?_eq_getElem aG
    have hlen:(l[i].take 8).length≤8:=by simp;omega
    rw [h2,iW]
    refine aa (aK hx) ?_
    refine aa (YT (hG _ _ rfl) l[i]) ?_
    refine aa (ad1 hG s (l[i].take 8) hb (by omega) (fun o ho=>ht l[i] (List.getElem_mem aG) o (List.mem_of_mem_take ho))) ?_
    rw [aI aG hl]
    have yS:Bs (24 * i+3 * (l[i].take 8).length) (lF s (l[i].take 8)):=hb.try
    exact ih (i+1) m (lF s (l[i].take 8)) (by omega) (by omega) (yS.mono (by omega))
 exact loop l.length 0 30 zS (by omega) (by omega) (Bs.zero _)
end Go.Vs
