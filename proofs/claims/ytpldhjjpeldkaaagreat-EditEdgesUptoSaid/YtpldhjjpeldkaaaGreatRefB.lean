/- What the document's reference computes, written plainly, the second part. -/
import Derived.Test.YtpldhjjpeldkaaaGreatRefA
set_option linter.unusedVariables false
set_option linter.unusedSimpArgs false
namespace Go.Vs
open Go.Proofs
variable {G:(f:FuncId)→(g:aL)→Option (g.A→Option g.B)}
def yY(x:ID):List ag→Int→Int
 |[],_ => -1
 |v::r,i=>if v.1=x then i else yY x r (i+1)
theorem Ks(x:ID):∀(l:List ag) (i:Int),0≤i→yY x l i = -1∨(i≤yY x l i∧yY x l i<i+l.length)
 |[],i,_=>.inl rfl
 |v::r,i,h=>by
  unfold yY
  split
  ·right;simp;omega
  ·rcases Ks x r (i+1) (by omega) with h|h
   ·exact .inl h
   ·right;simp;omega
theorem Ue(hG:G 55 vG=none)(d:ai)(x:ID)(hs:Sm d):FX G 55 vG ((d,x,()),())=some ((yY x d.1 0,()),()):=by
 have hv:=hs.v
 refine aA (fn:=Tryz.f55) hG (by kernel_rfl) (by kernel_rfl) ((afo _ _ _).trans ?_)
 have loop:∀(n i:Nat),i+n=d.1.length→LX G 55 vG Tryz.f55 BX (aY Tryz.prog 55 0) (((i:Int),()),(((d,()),((x,()),())),()))=some ((yY x (d.1.drop i) i,()),()):=by
  intro n
  induction n with
  |zero =>
   intro i hi
   refine aB (j:=0) (by kernel_rfl) ((Qw _ _ _).trans ?_)
   have h1:¬((i:Int)<(d.1.length:Int)):=by omega
   have h2:d.1.drop i=[]:=List.drop_eq_nil_of_le (by omega)
   rw[h2]
   simp only[h1,decide_false];rfl
  |succ n ih =>
   intro i hi
   refine aB (j:=0) (by kernel_rfl) ((Qw _ _ _).trans ?_)
   have aM:i<d.1.length:=by omega
   have h2:d.1.drop i=d.1[i]::d.1.drop (i+1):=List.drop_eq_getElem_cons aM
   have hx:d.1[i]? = some d.1[i]:=List.getElem?_eq_getElem aM
   rw[h2,yY]
   simp only[bm aM,aR hx,Option.bind_some,jT,aN aM (show d.1.length≤1073741824 by omega)]
   by_cases he:d.1[i].1=x
   ·have d1:=decide_eq_true he
    rw[if_pos he];simp only[d1];rfl
   ·have d1:=decide_eq_false he
    rw[if_neg he];simp only[d1];exact ih (i+1) (by omega)
 exact loop d.1.length 0 (by omega)
def FU(d:ai)(e:ah)(out:List Int):List Int :=
 let a:=yY ((bY d (e.1,0)).getD zI) d.1 0
 let b:=yY ((bY d (e.1,1)).getD zI) d.1 0
 if 0≤a∧0≤b then(out.set a.toNat (min (out.getD a.toNat 0) (out.getD b.toNat 0))).set b.toNat (min (out.getD a.toNat 0) (out.getD b.toNat 0)) else out
def jX(d:ai):List ah→List Int→List Int
 |[],out=>out
 |e::r,out=>jX d r (FU d e out)
def Iy(d:ai):Nat→List Int→List Int
 |0,out=>out
 |n+1,out=>Iy d n (jX d d.2 out)
def DD(n:Nat):List Int:=(List.range n).map fun i=>((i:Nat):Int)
def labels(d:ai):List Int:=Iy d d.1.length (DD d.1.length)
theorem Iz(d:ai)(e:ah)(out:List Int):(FU d e out).length=out.length:=by
 unfold FU;simp only;split<;>simp
theorem wa(d:ai):∀(l:List ah) (out:List Int),(jX d l out).length=out.length
 |[],out=>rfl
 |e::r,out=>by rw[jX,wa d r,Iz]
theorem yZ(d:ai):∀(n:Nat) (out:List Int),(Iy d n out).length=out.length
 |0,out=>rfl
 |n+1,out=>by rw[Iy,yZ d n,wa]
theorem DE(d:ai):(labels d).length=d.1.length:=by unfold labels;rw[yZ];simp[DD]
theorem Xy(hG:HG G)(d:ai)(hs:Sm d)(n:Int)(R:List Int→List Int)
  (hR:∀out:List Int,out.length=d.1.length→LX G 56 rk Tryz.f56 xn (aY Tryz.prog 56 1) ((IntKind.wrap .i64 (n+1),()),(((d,()),()),(out,())))=some ((R out,()),())) :
  ∀out:List Int,out.length=d.1.length→LX G 56 rk Tryz.f56 rv (aY Tryz.prog 56 2) ((n,((0:Int),())),(((d,()),()),(out,())))=some ((R (jX d d.2 out),()),()):=by
 have hv:=hs.v;have he:=hs.e
 have loop:∀(m i:Nat) (out:List Int),i+m=d.2.length→out.length=d.1.length→LX G 56 rk Tryz.f56 rv (aY Tryz.prog 56 2) ((n,((i:Int),())),(((d,()),()),(out,())))=some ((R (jX d (d.2.drop i) out),()),()):=by
  intro m
  induction m with
  |zero =>
   intro i out hi ho
   have h1:¬((i:Int)<(d.2.length:Int)):=by omega
   have h2:d.2.drop i=[]:=List.drop_eq_nil_of_le (by omega)
   rw[h2,jX]
   refine aB (j:=2) (by kernel_rfl) ((Qz _ _ _).trans ?_)
   simp only[h1,decide_false]
   exact hR out ho
  |succ m ih =>
   intro i out hi ho
   have aM:i<d.2.length:=by omega
   have h2:d.2.drop i=d.2[i]::d.2.drop (i+1):=List.drop_eq_getElem_cons aM
   have hx:d.2[i]? = some d.2[i]:=List.getElem?_eq_getElem aM
   rw[h2,jX]
   generalize d.2[i]=e at *
   refine aB (j:=2) (by kernel_rfl) ((Qz _ _ _).trans ?_)
   simp only[bm aM,aR hx,Option.bind_some,aN aM (show d.2.length≤1073741824 by omega)]
   refine aa (DC hG d (e.1,0) (by omega) (fun w hw=>by have:=hs.r w hw;omega)) ?_
   refine aa (DC hG d (e.1,1) (by omega) (fun w hw=>by have:=hs.r w hw;omega)) ?_
   rw[show(oH zI (bY d (e.1,0))).1=(bY d (e.1,0)).getD zI from kD _ _,show(oH zI (bY d (e.1,1))).1=(bY d (e.1,1)).getD zI from kD _ _]
   refine aa (Ue (hG _ _ rfl) d ((bY d (e.1,0)).getD zI) hs) ?_
   refine aa (Ue (hG _ _ rfl) d ((bY d (e.1,1)).getD zI) hs) ?_
   have hL:FU d e out=(if 0≤yY ((bY d (e.1,0)).getD zI) d.1 0∧0≤yY ((bY d (e.1,1)).getD zI) d.1 0 then(out.set (yY ((bY d (e.1,0)).getD zI) d.1 0).toNat (min (out.getD (yY ((bY d (e.1,0)).getD zI) d.1 0).toNat 0) (out.getD (yY ((bY d (e.1,1)).getD zI) d.1 0).toNat 0))).set (yY ((bY d (e.1,1)).getD zI) d.1 0).toNat (min (out.getD (yY ((bY d (e.1,0)).getD zI) d.1 0).toNat 0) (out.getD (yY ((bY d (e.1,1)).getD zI) d.1 0).toNat 0)) else out):=rfl
   have ha:=Ks ((bY d (e.1,0)).getD zI) d.1 0 (by omega)
   have hb:=Ks ((bY d (e.1,1)).getD zI) d.1 0 (by omega)
   generalize yY ((bY d (e.1,0)).getD zI) d.1 0=a at *
   generalize yY ((bY d (e.1,1)).getD zI) d.1 0=b at *
   by_cases h3:0≤a
   case neg =>
    have d3:decide (a≥0)=false:=decide_eq_false h3
    rw[hL,if_neg (by omega)]
    simp only[d3];exact ih (i+1) out (by omega) ho
   have d3:decide (a≥0)=true:=decide_eq_true h3
   by_cases h4:0≤b
   case neg =>
    have d4:decide (b≥0)=false:=decide_eq_false h4
    rw[hL,if_neg (by omega)]
    simp only[d3,d4];exact ih (i+1) out (by omega) ho
   have d4:decide (b≥0)=true:=decide_eq_true h4
   rw[if_pos ⟨h3,h4⟩]at hL
   have hal:a.toNat<out.length:=by omega
   have hbl:b.toNat<out.length:=by omega
   have xa:out[a.toNat]? = some out[a.toNat]:=List.getElem?_eq_getElem hal
   have xb:out[b.toNat]? = some out[b.toNat]:=List.getElem?_eq_getElem hbl
   have ga:out.getD a.toNat 0=out[a.toNat]:=by simp[List.getD,xa]
   have gb:out.getD b.toNat 0=out[b.toNat]:=by simp[List.getD,xb]
   rw[ga,gb]at hL
   generalize out[a.toNat]=p at *
   generalize out[b.toNat]=q at *
   have d5:decide ((0:Int)≤a)=true:=decide_eq_true h3
   have d6:decide ((0:Int)≤b)=true:=decide_eq_true h4
   have d7:decide (a<((out.length:Nat):Int))=true:=decide_eq_true (by omega)
   have d8:decide (b<((out.length:Nat):Int))=true:=decide_eq_true (by omega)
   have hbs:b.toNat<(out.set a.toNat (min p q)).length:=by simpa using hbl
   have d9:decide (b<(((out.set a.toNat (min p q)).length:Nat):Int))=true:=decide_eq_true (by simp;omega)
   have xs:(out.set a.toNat (min p q))[b.toNat]? = some (out.set a.toNat (min p q))[b.toNat]:=List.getElem?_eq_getElem hbs
   simp only[d3,d4,d5,d6,d7,d8,Bool.and_self,xa,xb,Option.bind_some,d9,xs]
   rw[hL]
   exact ih (i+1) ((out.set a.toNat (min p q)).set b.toNat (min p q)) (by omega) (by simp[ho])
 intro out ho
 exact loop d.2.length 0 out (by omega) ho
theorem abn(hG:HG G)(d:ai)(hs:Sm d):FX G 56 rk ((d,()),())=some ((labels d,()),()):=by
 have hv:=hs.v
 refine aA (fn:=Tryz.f56) (hG _ _ rfl) (by kernel_rfl) (by kernel_rfl) ((afp _ _ _).trans ?_)
 have l1:∀(n i:Nat) (out:List Int),i+n=d.1.length→out.length=d.1.length→LX G 56 rk Tryz.f56 xn (aY Tryz.prog 56 1) (((i:Int),()),(((d,()),()),(out,())))=some ((Iy d n out,()),()):=by
  intro n
  induction n with
  |zero =>
   intro i out hi ho
   refine aB (j:=1) (by kernel_rfl) ((Qy _ _ _).trans ?_)
   have h1:¬((i:Int)<(d.1.length:Int)):=by omega
   simp only[h1,decide_false];rfl
  |succ n ih =>
   intro i out hi ho
   refine aB (j:=1) (by kernel_rfl) ((Qy _ _ _).trans ?_)
   have aM:i<d.1.length:=by omega
   simp only[bm aM]
   exact Xy hG d hs (i:Int) (Iy d n) (fun out ho=>by rw[aN aM (show d.1.length≤1073741824 by omega)];exact ih (i+1) out (by omega) ho) out ho
 have l0:∀(n i:Nat) (out:List Int),i+n=d.1.length→out=DD i→LX G 56 rk Tryz.f56 BY (aY Tryz.prog 56 0) (((i:Int),()),(((d,()),()),(out,())))=some ((labels d,()),()):=by
  intro n
  induction n with
  |zero =>
   intro i out hi ho
   refine aB (j:=0) (by kernel_rfl) ((Qx _ _ _).trans ?_)
   have h1:¬((i:Int)<(d.1.length:Int)):=by omega
   have tY:i=d.1.length:=by omega
   subst tY
   simp only[h1,decide_false]
   have:=l1 d.1.length 0 out (by omega) (by rw[ho];simp[DD])
   rw[ho]at this ⊢
   exact this
  |succ n ih =>
   intro i out hi ho
   refine aB (j:=0) (by kernel_rfl) ((Qx _ _ _).trans ?_)
   have aM:i<d.1.length:=by omega
   have h6:aP out.length [(i:Int)].length=true:=fits (by rw[ho];simp[DD];omega)
   simp only[bm aM,h6,aN aM (show d.1.length≤1073741824 by omega)]
   exact ih (i+1) (out++[(i:Int)]) (by omega) (by rw[ho];simp[DD,List.range_succ])
 exact l0 d.1.length 0 [] (by omega) (by simp[DD])
def p4:List Int→Int→Int→Int
 |[],_,n=>n
 |x::r,i,n=>p4 r (i+1) (if x=i then IntKind.wrap .i64 (n+1) else n)
def fj(d:ai):Int:=p4 (labels d) 0 0
theorem agt(hG:HG G)(d:ai)(hs:Sm d):FX G 32 HD ((d,()),())=some ((fj d,()),()):=by
 have hv:=hs.v
 have hl:=DE d
 refine aA (fn:=Tryz.f32) (hG _ _ rfl) (by kernel_rfl) (by kernel_rfl) ((ae6 _ _ _).trans ?_)
 refine aa (abn hG d hs) ?_
 unfold fj
 generalize labels d=l at *
 have loop:∀(m i:Nat) (n:Int),i+m=l.length→LX G 32 HD Tryz.f32 xk (aY Tryz.prog 32 0) ((n,((i:Int),())),((),(l,())))=some ((p4 (l.drop i) i n,()),()):=by
  intro m
  induction m with
  |zero =>
   intro i n hi
   refine aB (j:=0) (by kernel_rfl) ((Ql _ _ _).trans ?_)
   have h1:¬((i:Int)<(l.length:Int)):=by omega
   have h2:l.drop i=[]:=List.drop_eq_nil_of_le (by omega)
   rw[h2]
   simp only[h1,decide_false];rfl
  |succ m ih =>
   intro i n hi
   refine aB (j:=0) (by kernel_rfl) ((Ql _ _ _).trans ?_)
   have aM:i<l.length:=by omega
   have h2:l.drop i=l[i]::l.drop (i+1):=List.drop_eq_getElem_cons aM
   have hx:l[i]? = some l[i]:=List.getElem?_eq_getElem aM
   rw[h2,p4]
   simp only[bm aM,eX,Bool.and_self,Int.toNat_natCast,hx,Option.bind_some,aN aM (show l.length≤1073741824 by omega)]
   by_cases he:l[i]=(i:Int)
   ·have d1:(l[i]==(i:Int))=true:=by simp[he]
    rw[if_pos he];simp only[d1];exact ih (i+1) _ (by omega)
   ·have d1:(l[i]==(i:Int))=false:=by simp[he]
    rw[if_neg he];simp only[d1];exact ih (i+1) _ (by omega)
 exact loop l.length 0 0 (by omega)
def rF:List ag→Int→Int
 |[],n=>n
 |v::r,n=>rF r (if v.2.1.length=0 then IntKind.wrap .i64 (n+1) else n)
def Ck(d:ai):Int:=rF d.1 ((((bU d).length:Nat)):Int)
theorem agu(hG:HG G)(d:ai)(hs:Sm d)(he:d.2.length≤5000000):FX G 85 HO ((d,()),())=some ((((d.1.length:Nat):Int),(((d.2.length:Nat):Int),(Ck d,(fj d,())))),()):=by
 have hv:=hs.v
 refine aA (fn:=Tryz.f85) (hG _ _ rfl) (by kernel_rfl) (by kernel_rfl) ((afM _ _ _).trans ?_)
 refine aa (agr hG d hs he) ?_
 unfold Ck
 generalize (((bU d).length:Nat):Int)=f0
 have key:=ck d.1 (fun i (n:Int)=>LX G 85 HO Tryz.f85 xq (aY Tryz.prog 85 0) ((n,(i,())),(((d,()),()),()))) (fun(r:List ag) (n:Int)=>((((d.1.length:Nat):Int),(((d.2.length:Nat):Int),(rF r n,(fj d,())))),())) (fun _ _=>True)
  (fun n _=>by
   refine aB (j:=0) (by kernel_rfl) ((QI _ _ _).trans ?_)
   simp only[dO]
   exact aa (agt hG d hs) rfl)
  (fun i y r n hi hx Cj _ ih=>by
   refine aB (j:=0) (by kernel_rfl) ((QI _ _ _).trans ?_)
   simp only[bm hi,aR hx,Option.bind_some,aN hi (show d.1.length≤1073741824 by omega)]
   by_cases he:y.2.1.length=0
   ·have d1:((((y.2.1.length:Nat)):Int)==0)=true:=by simp[he]
    simp only[d1,rF,if_pos he];exact ih _ trivial
   ·have d1:((((y.2.1.length:Nat)):Int)==0)=false:=by simp;intro e;rw[e]at he;simp at he
    simp only[d1,rF,if_neg he];exact ih _ trivial)
  f0 trivial
 exact key
def bB(d:ai):Int:=IntKind.wrap .i64 (Int.tdiv (IntKind.wrap .i64 (IntKind.wrap .i64 (IntKind.wrap .i64 (IntKind.wrap .i64 (2*fj d)-((d.1.length:Nat):Int))+((d.2.length:Nat):Int))-Ck d)) 2)
theorem agv(hG:HG G)(d:ai)(hs:Sm d)(he:d.2.length≤5000000):FX G 64 HK ((d,()),())=some ((bB d,()),()):=by
 refine aA (fn:=Tryz.f64) (hG _ _ rfl) (by kernel_rfl) (by kernel_rfl) ((afw _ _ _).trans ?_)
 exact aa (agu hG d hs he) rfl
end Go.Vs
namespace Go.Vs
open Go.Proofs
variable {G:(f:FuncId)→(g:aL)→Option (g.A→Option g.B)}
theorem Uf{s:ByteArray}{i:Nat}{c:UInt8}(h:s.data.toList[i]? = some c):(if(0:Int)≤(i:Int) then s[Int.toNat (i:Int)]? else none)=some c:=by
 have hi:i<s.size:=by have:=(List.getElem?_eq_some_iff.1 h).1;simpa using this
 rw[if_pos (by omega),Int.toNat_natCast,getElem?_pos s i hi]
 have h2:=(List.getElem?_eq_some_iff.1 h).2
 rw[←h2]
 rfl
def kW(c:UInt8):Bool:=decide (32≤c.toNat)&&decide (c.toNat≤126)
def DF(s:ByteArray):Bool:=s.data.toList.all kW&&decide (s.size≤16)
theorem agw(hG:G 28 Fx=none)(s:ByteArray)(hs:s.size≤100000000):FX G 28 Fx ((s,()),())=some ((DF s,()),()):=by
 refine aA (fn:=Tryz.f28) hG (by kernel_rfl) (by kernel_rfl) ((ae2 _ _ _).trans ?_)
 have hl:s.data.toList.length=s.size:=by simp
 have key:=ck s.data.toList (fun i (_:Unit)=>LX G 28 Fx Tryz.f28 BT (aY Tryz.prog 28 0) ((s,(i,())),((),()))) (fun(r:List UInt8) (_:Unit)=>((r.all kW&&decide (s.size≤16),()),())) (fun _ _=>True)
  (fun _ _=>by
   refine aB (j:=0) (by kernel_rfl) ((Qj _ _ _).trans ?_)
   rw[hl]
   have h2:decide (((s.size:Nat):Int)≤16)=decide (s.size≤16):=by
    rw[Bool.eq_iff_iff];simp;omega
   simp only[dO,h2,List.all_nil,Bool.true_and];rfl)
  (fun i c r _ hi hx Cj _ ih=>by
   refine aB (j:=0) (by kernel_rfl) ((Qj _ _ _).trans ?_)
   rw[hl]at hi
   have hb:=Uf hx
   simp only[bm hi,hb,Option.bind_some,aN hi (show s.size≤1073741824 by omega)]
   by_cases h1:c.toNat<32
   ·have d1:decide (((c.toNat:Nat):Int)<32)=true:=decide_eq_true (by omega)
    have d2:kW c=false:=by unfold kW;simp;omega
    simp only[d1,List.all_cons,d2,Bool.false_and];rfl
   ·have d1:decide (((c.toNat:Nat):Int)<32)=false:=decide_eq_false (by omega)
    by_cases h2:126<c.toNat
    ·have d2:decide (((c.toNat:Nat):Int)>126)=true:=decide_eq_true (by omega)
     have d3:kW c=false:=by unfold kW;simp;omega
     simp only[d1,d2,List.all_cons,d3,Bool.false_and];rfl
    ·have d2:decide (((c.toNat:Nat):Int)>126)=false:=decide_eq_false (by omega)
     have d3:kW c=true:=by unfold kW;simp;omega
     simp only[d1,d2,List.all_cons,d3,Bool.true_and];exact ih () trivial)
  () trivial
 exact key
def wb(n:Int):Bool:=decide (-1099511627776≤n∧n≤1099511627776)
theorem agx(hG:G 29 Nk=none)(n:Int):FX G 29 Nk ((n,()),())=some ((wb n,()),()):=by
 refine aA (fn:=Tryz.f29) hG (by kernel_rfl) (by kernel_rfl) ((ae3 _ _ _).trans ?_)
 show(cond (decide (n≥-1099511627776)) (some ((decide (n≤1099511627776),()),())) (some ((false,()),())):Option ((Bool×Unit)×Unit))=some ((wb n,()),())
 unfold wb
 by_cases h1 : -1099511627776≤n<;>simp[h1]
def th(c:pS):Bool:=cZ c.1&&(It c.2 || decide (c.2=zD))
theorem abo(hG:HG G)(c:pS):FX G 68 Nq ((c,()),())=some ((th c,()),()):=by
 refine aA (fn:=Tryz.f68) (hG _ _ rfl) (by kernel_rfl) (by kernel_rfl) ((afy _ _ _).trans ?_)
 refine aa (NH (hG _ _ rfl) c.1) ?_
 refine aa (agk hG c.2) ?_
 have hb:(((c.2.1.1==(0:Int))&&(c.2.1.2==(0:Int)))&&(c.2.2==(0:Int)))=decide (c.2=zD):=ki c.2 zD
 unfold th
 simp only[hb]
 cases h1:cZ c.1<;>cases h2:It c.2<;>rfl
def Ug:bL:=(0,(zI,(zI,(zI,(zC,(zC,(false,(e0,0))))))))
def rG(o:bL):bL :=
 if o.1=3 then(0,(zI,(o.2.2.1,(o.2.2.2.1,(zC,(zC,(o.2.2.2.2.2.2.1,o.2.2.2.2.2.2.2)))))))
 else if o.1=5 then(0,(zI,(zI,(zI,(o.2.2.2.2.1,(o.2.2.2.2.2.1,(o.2.2.2.2.2.2.1,(o.2.2.2.2.2.2.2.1,0))))))))
 else if o.1=6 then(0,(zI,(o.2.2.1,(zI,(o.2.2.2.2.1,(o.2.2.2.2.2.1,(o.2.2.2.2.2.2.1,o.2.2.2.2.2.2.2)))))))
 else if o.1=7 then(0,(zI,(o.2.2.1,(o.2.2.2.1,(o.2.2.2.2.1,(o.2.2.2.2.2.1,(false,(e0,o.2.2.2.2.2.2.2.2))))))))
 else if o.1=8 then(0,(zI,(o.2.2.1,(o.2.2.2.1,(o.2.2.2.2.1,(o.2.2.2.2.2.1,(false,(o.2.2.2.2.2.2.2.1,0))))))))
 else(0,(zI,(o.2.2.1,(o.2.2.2.1,(o.2.2.2.2.1,(o.2.2.2.2.2.1,(o.2.2.2.2.2.2.1,o.2.2.2.2.2.2.2)))))))
theorem agy(hG:G 67 Np=none)(o:bL):FX G 67 Np ((o,()),())=some ((rG o,()),()):=by
 refine aA (fn:=Tryz.f67) hG (by kernel_rfl) (by kernel_rfl) ((afx _ _ _).trans ?_)
 unfold rG
 by_cases h3:o.1=3
 ·have d:(o.1==(3:Int))=true:=by simp[h3]
  rw[if_pos h3];simp only[d];rfl
 have d3:(o.1==(3:Int))=false:=by simp[h3]
 rw[if_neg h3]
 by_cases h5:o.1=5
 ·have d:(o.1==(5:Int))=true:=by simp[h5]
  rw[if_pos h5];simp only[d3,d];rfl
 have d5:(o.1==(5:Int))=false:=by simp[h5]
 rw[if_neg h5]
 by_cases h6:o.1=6
 ·have d:(o.1==(6:Int))=true:=by simp[h6]
  rw[if_pos h6];simp only[d3,d5,d];rfl
 have d6:(o.1==(6:Int))=false:=by simp[h6]
 rw[if_neg h6]
 by_cases h7:o.1=7
 ·have d:(o.1==(7:Int))=true:=by simp[h7]
  rw[if_pos h7];simp only[d3,d5,d6,d];rfl
 have d7:(o.1==(7:Int))=false:=by simp[h7]
 rw[if_neg h7]
 by_cases h8:o.1=8
 ·have d:(o.1==(8:Int))=true:=by simp[h8]
  rw[if_pos h8];simp only[d3,d5,d6,d7,d];rfl
 have d8:(o.1==(8:Int))=false:=by simp[h8]
 rw[if_neg h8];simp only[d3,d5,d6,d7,d8];rfl
def wc(x y:bL):Bool :=
 (x.1==y.1)&&(((x.2.1.1==y.2.1.1)&&(x.2.1.2==y.2.1.2))&&(((x.2.2.1.1==y.2.2.1.1)&&(x.2.2.1.2==y.2.2.1.2))&&(((x.2.2.2.1.1==y.2.2.2.1.1)&&(x.2.2.2.1.2==y.2.2.2.1.2)) &&
  ((((x.2.2.2.2.1.1.1==y.2.2.2.2.1.1.1)&&(x.2.2.2.2.1.1.2==y.2.2.2.2.1.1.2))&&(((x.2.2.2.2.1.2.1.1==y.2.2.2.2.1.2.1.1)&&(x.2.2.2.2.1.2.1.2==y.2.2.2.2.1.2.1.2))&&(x.2.2.2.2.1.2.2==y.2.2.2.2.1.2.2))) &&
  ((((x.2.2.2.2.2.1.1.1==y.2.2.2.2.2.1.1.1)&&(x.2.2.2.2.2.1.1.2==y.2.2.2.2.2.1.1.2))&&(((x.2.2.2.2.2.1.2.1.1==y.2.2.2.2.2.1.2.1.1)&&(x.2.2.2.2.2.1.2.1.2==y.2.2.2.2.2.1.2.1.2))&&(x.2.2.2.2.2.1.2.2==y.2.2.2.2.2.1.2.2))) &&
  ((x.2.2.2.2.2.2.1==y.2.2.2.2.2.2.1)&&((x.2.2.2.2.2.2.2.1==y.2.2.2.2.2.2.2.1)&&(x.2.2.2.2.2.2.2.2==y.2.2.2.2.2.2.2.2))))))))
theorem rH(x y:bL):wc x y=true↔x=y:=by
 obtain⟨x1,⟨x2,x3⟩,⟨x4,x5⟩,⟨x6,x7⟩,⟨⟨x8,x9⟩,⟨x10,x11⟩,x12⟩,⟨⟨x13,x14⟩,⟨x15,x16⟩,x17⟩,x18,x19,x20⟩:=x
 obtain⟨y1,⟨y2,y3⟩,⟨y4,y5⟩,⟨y6,y7⟩,⟨⟨y8,y9⟩,⟨pW,lF⟩,nk⟩,⟨⟨ln,wF⟩,⟨qu,Lu⟩,Nw⟩,VB,SY,Dz⟩:=y
 unfold wc
 simp only[Xt]
 simp[and_assoc]
theorem aS{α:Type}{c b:Bool}{x y r:α}(h:c=b)(k:cond (not b) x y=r):cond (not c) x y=r:=by subst h;exact k
def c5(o:bL):Int :=
 if o.1<1 then 1 else if 8<o.1 then 1 else if cZ o.2.1=false then 1 else if wc (rG o) Ug=false then 1
 else if o.1=3 then(if th o.2.2.2.2.1=true∧th o.2.2.2.2.2.1=true then 0 else 1)
 else if o.1=5 then(if cZ o.2.2.1=true∧cZ o.2.2.2.1=true∧0≤o.2.2.2.2.2.2.2.2∧o.2.2.2.2.2.2.2.2≤3 then 0 else 1)
 else if o.1=6 then(if cZ o.2.2.2.1=true then 0 else 1)
 else if o.1=8 then(if wb o.2.2.2.2.2.2.2.2=true then 0 else 1)
 else if o.1=7 then(if DF o.2.2.2.2.2.2.2.1=true then 0 else 4)
 else 0
def I1(n:Int):Option ((Int×Unit)×Unit):=some ((n,()),())
theorem abp(hG:HG G)(o:bL)(ht:o.2.2.2.2.2.2.2.1.size≤100000000):FX G 45 Nm ((o,()),())=some ((c5 o,()),()):=by
 refine aA (fn:=Tryz.f45) (hG _ _ rfl) (by kernel_rfl) (by kernel_rfl) ((aff _ _ _).trans ?_)
 refine aa (NH (hG _ _ rfl) o.2.1) ?_
 unfold c5
 by_cases h1:o.1<1
 ·rw[if_pos h1];have d:=decide_eq_true h1;simp only[d];rfl
 rw[if_neg h1];have d1:=decide_eq_false h1
 by_cases h2:8<o.1
 ·rw[if_pos h2];have d:decide (o.1>8)=true:=decide_eq_true h2;simp only[d1,d];rfl
 rw[if_neg h2];have d2:decide (o.1>8)=false:=decide_eq_false h2
 cases hm:cZ o.2.1
 ·rw[if_pos rfl];simp only[d1,d2];rfl
 rw[if_neg (by simp)]
 simp only[d1,d2]
 refine aa (agy (hG _ _ rfl) o) ?_
 refine aS (b:=wc (rG o) Ug) rfl ?_
 cases he:wc (rG o) Ug
 ·rw[if_pos rfl];rfl
 rw[if_neg (by simp)]
 by_cases h3:o.1=3
 ·rw[if_pos h3]
  have d:(o.1==(3:Int))=true:=by simp[h3]
  simp only[d]
  refine aa (abo hG o.2.2.2.2.1) ?_
  refine aa (abo hG o.2.2.2.2.2.1) ?_
  cases hc:th o.2.2.2.2.1<;>cases uN:th o.2.2.2.2.2.1<;>rfl
 rw[if_neg h3]
 have d3:(o.1==(3:Int))=false:=by simp[h3]
 by_cases h5:o.1=5
 ·rw[if_pos h5]
  have d:(o.1==(5:Int))=true:=by simp[h5]
  simp only[d3,d]
  refine aa (NH (hG _ _ rfl) o.2.2.1) ?_
  refine aa (NH (hG _ _ rfl) o.2.2.2.1) ?_
  cases hc:cZ o.2.2.1
  ·rw[if_neg (by simp)];rfl
  cases uN:cZ o.2.2.2.1
  ·rw[if_neg (by simp)];rfl
  by_cases h6:o.2.2.2.2.2.2.2.2<0
  ·have d6:=decide_eq_true h6
   rw[if_neg (by omega)];simp only[d6];rfl
  have d6:=decide_eq_false h6
  by_cases h7:o.2.2.2.2.2.2.2.2>3
  ·have d7:=decide_eq_true h7
   rw[if_neg (by omega)];simp only[d6,d7];rfl
  have d7:=decide_eq_false h7
  rw[if_pos ⟨rfl,rfl,by omega,by omega⟩];simp only[d6,d7];rfl
 rw[if_neg h5]
 have d5:(o.1==(5:Int))=false:=by simp[h5]
 by_cases h6:o.1=6
 ·rw[if_pos h6]
  have d:(o.1==(6:Int))=true:=by simp[h6]
  simp only[d3,d5,d]
  refine aa (NH (hG _ _ rfl) o.2.2.2.1) ?_
  cases hc:cZ o.2.2.2.1<;>rfl
 rw[if_neg h6]
 have d6:(o.1==(6:Int))=false:=by simp[h6]
 by_cases h8:o.1=8
 ·rw[if_pos h8]
  have d:(o.1==(8:Int))=true:=by simp[h8]
  simp only[d3,d5,d6,d]
  refine aa (agx (hG _ _ rfl) o.2.2.2.2.2.2.2.2) ?_
  cases hc:wb o.2.2.2.2.2.2.2.2<;>rfl
 rw[if_neg h8]
 have d8:(o.1==(8:Int))=false:=by simp[h8]
 by_cases h7:o.1=7
 ·rw[if_pos h7]
  have d:(o.1==(7:Int))=true:=by simp[h7]
  simp only[d3,d5,d6,d8,d]
  refine aa (agw (hG _ _ rfl) o.2.2.2.2.2.2.2.1 (by omega)) ?_
  cases hc:DF o.2.2.2.2.2.2.2.1<;>rfl
 rw[if_neg h7]
 have d7:(o.1==(7:Int))=false:=by simp[h7]
 simp only[d3,d5,d6,d8,d7];rfl
def uD(o:bL):Prop:=o.2.2.2.2.2.2.2.1.size≤100000000
def we:List bL→Int
 |[]=>0
 |o::r=>if c5 o≠0 then c5 o else we r
def p6(l:List bL):Int:=if 1≤l.length∧l.length≤6 then we l else 3
theorem agz(hG:HG G)(l:List bL)(ht:∀o∈l,uD o):FX G 41 HF ((l,()),())=some ((p6 l,()),()):=by
 refine aA (fn:=Tryz.f41) (hG _ _ rfl) (by kernel_rfl) (by kernel_rfl) ((afc _ _ _).trans ?_)
 unfold p6
 by_cases h1:l.length<1
 ·have d:decide (((l.length:Nat):Int)<1)=true:=decide_eq_true (by omega)
  rw[if_neg (by omega)];simp only[d];rfl
 have d1:decide (((l.length:Nat):Int)<1)=false:=decide_eq_false (by omega)
 by_cases h2:6<l.length
 ·have d:decide (((l.length:Nat):Int)>6)=true:=decide_eq_true (by omega)
  rw[if_neg (by omega)];simp only[d1,d];rfl
 have d2:decide (((l.length:Nat):Int)>6)=false:=decide_eq_false (by omega)
 rw[if_pos (by omega)]
 simp only[d1,d2]
 have key:=ck l (fun i (_:Unit)=>LX G 41 HF Tryz.f41 BW (aY Tryz.prog 41 0) ((i,()),(((l,()),()),()))) (fun(r:List bL) (_:Unit)=>((we r,()),())) (fun _ _=>True)
  (fun _ _=>by
   refine aB (j:=0) (by kernel_rfl) ((Qo _ _ _).trans ?_)
   simp only[dO];rfl)
  (fun i o r _ hi hx Cj _ ih=>by
   refine aB (j:=0) (by kernel_rfl) ((Qo _ _ _).trans ?_)
   simp only[bm hi,aR hx,Option.bind_some,aN hi (show l.length≤1073741824 by omega)]
   refine aa (abp hG o (ht o (List.mem_of_getElem? hx))) ?_
   rw[we]
   by_cases h:c5 o=0
   ·have d:(c5 o != 0)=false:=by simp[h]
    rw[if_neg (by simp[h])];simp only[d];exact ih () trivial
   ·have d:(c5 o != 0)=true:=by simp[h]
    rw[if_pos h];simp only[d];rfl)
  () trivial
 exact key
theorem agA(hG:G 34 Nl=none)(l:List bL):FX G 34 Nl ((l,()),())=some ((l.take 8,()),()):=by
 refine aA (fn:=Tryz.f34) hG (by kernel_rfl) (by kernel_rfl) ((ae8 _ _ _).trans ?_)
 by_cases h:8<l.length
 ·have d1:decide (((l.length:Nat):Int)>8)=true:=decide_eq_true (by omega)
  have d2:bj l.length 0 8=true:=by simp[bj];omega
  simp only[d1,d2];rfl
 ·have d1:decide (((l.length:Nat):Int)>8)=false:=decide_eq_false (by omega)
  rw[List.take_of_length_le (by omega)]
  simp only[d1];rfl
end Go.Vs
namespace Go.Vs
open Go.Proofs
variable {G:(f:FuncId)→(g:aL)→Option (g.A→Option g.B)}
theorem ae{α:Type}{c:Bool}{x y r:α}(h:c=true)(k:x=r):cond c x y=r:=by subst h;exact k
theorem aj{α:Type}{c:Bool}{x y r:α}(h:c=false)(k:y=r):cond c x y=r:=by subst h;exact k
theorem dq{a b:Bool}(h:a=true)(k:b=true):(a&&b)=true:=by rw[h,k];rfl
def zS:StateT:=(([],[]),[])
abbrev ba(o:bL):ID:=o.2.1
abbrev fk(o:bL):ID:=o.2.2.1
abbrev bh(o:bL):ID:=o.2.2.2.1
abbrev oA(o:bL):pS:=o.2.2.2.2.1
abbrev oB(o:bL):pS:=o.2.2.2.2.2.1
abbrev nR(o:bL):Bool:=o.2.2.2.2.2.2.1
abbrev oJ(o:bL):ByteArray:=o.2.2.2.2.2.2.2.1
abbrev oN(o:bL):Int:=o.2.2.2.2.2.2.2.2
def il(o:bL)(w:ag):ag:=if nR o=false∧w.1=ba o then(if o.1=7 then(w.1,(w.2.1,(oJ o,w.2.2.2))) else(w.1,(w.2.1,(w.2.2.1,oN o)))) else w
def jN(o:bL)(w:ah):ah:=if nR o=true∧w.1=ba o then(if o.1=7 then(w.1,(oJ o,w.2.2)) else(w.1,(w.2.1,oN o))) else w
def IA(o:bL)(l:List ag):Bool := !(nR o)&&l.any fun w=>decide (w.1=ba o)
def FV(o:bL)(l:List ah):Bool:=nR o&&l.any fun w=>decide (w.1=ba o)
def wg(s:StateT)(o:bL):StateT×(Int×Unit) :=
 if IA o s.1.1 || FV o s.1.2 then(((s.1.1.map (il o),s.1.2.map (jN o)),s.2),(0,())) else(zS,(13,()))
theorem Xz(s:StateT)(o:bL)(vs:List ag)(hs:Sm s.1):∀(n i:Nat) (fd:Bool) (out fin:List ah),i+n=s.1.2.length→out=(s.1.2.take i).map (jN o)++s.1.2.drop i→fin=s.1.2.map (jN o) →
  LX G 52 Bz Tryz.f52 ru (aY Tryz.prog 52 1) ((fd,((i:Int),())),(((s,()),((o,()),((([]:List ag),(([]:List ah),(([]:List aq),()))),((vs,(out,())),())))),())) =
   some ((if(fd || FV o (s.1.2.drop i)) then((((vs,fin),s.2),((0:Int),())):StateT×(Int×Unit)) else(zS,(13,()))),()):=by
 have he:=hs.e
 intro n
 induction n with
 |zero =>
  intro i fd out fin hi ho hf
  refine aB (j:=1) (by kernel_rfl) ((Qv _ _ _).trans ?_)
  have VN:out.length=s.1.2.length:=by rw[ho];simp;omega
  have h1:¬((i:Int)<(out.length:Int)):=by omega
  have h2:out=fin:=by rw[ho,hf,List.take_of_length_le (by omega),List.drop_eq_nil_of_le (by omega),List.append_nil]
  have h3:FV o (s.1.2.drop i)=false:=by rw[List.drop_eq_nil_of_le (by omega)];simp[FV]
  subst h2
  rw[h3]
  simp only[h1,decide_false]
  cases fd<;>rfl
 |succ n ih =>
  intro i fd out fin hi ho hf
  refine aB (j:=1) (by kernel_rfl) ((Qv _ _ _).trans ?_)
  have VN:out.length=s.1.2.length:=by rw[ho];simp;omega
  have aM:i<s.1.2.length:=by omega
  have hx:s.1.2[i]? = some s.1.2[i]:=List.getElem?_eq_getElem aM
  have hg:out[i]? = some s.1.2[i]:=by rw[ho];exact FR _ _ _ _ hx
  have h2:s.1.2.drop i=s.1.2[i]::s.1.2.drop (i+1):=List.drop_eq_getElem_cons aM
  have xG:=bm (show i<out.length by omega)
  have hw:=aN aM (show s.1.2.length≤1073741824 by omega)
  rw[h2]
  generalize s.1.2[i]=y at *
  have hE:FV o (y::s.1.2.drop (i+1))=((nR o&&decide (y.1=ba o)) || FV o (s.1.2.drop (i+1))):=by
   unfold FV;cases nR o<;>simp
  rw[hE]
  refine ae xG ?_
  cases Rf:nR o
  ·have e1:jN o y=y:=by unfold jN;rw[if_neg (by simp[Rf])]
   rw[Bool.false_and,Bool.false_or]
   refine aj Rf ?_
   rw[hw]
   exact ih (i+1) fd out fin (by omega) (by rw[ho];exact rD _ _ _ _ hx e1) hf
  ·rw[Bool.true_and]
   refine ae Rf ?_
   refine ae (dq (eX i) xG) ?_
   refine aa hg ?_
   by_cases hq:y.1=ba o
   ·refine ae ((jT y.1 (ba o)).trans (decide_eq_true hq)) ?_
    rw[decide_eq_true hq,Bool.true_or,Bool.or_true,hw]
    by_cases h7:o.1=7
    ·have e1:jN o y=(y.1,(oJ o,y.2.2)):=by unfold jN;rw[if_pos ⟨Rf,hq⟩,if_pos h7]
     refine ae (show(o.1==(7:Int))=true by simp[h7]) ?_
     refine ae (dq (eX i) xG) ?_
     refine aa hg ?_
     have:=ih (i+1) true (out.set i (y.1,(oJ o,y.2.2))) fin (by omega) (by rw[ho,←v7 _ _ _ _ hx,e1]) hf
     rw[Bool.true_or]at this;exact this
    ·have e1:jN o y=(y.1,(y.2.1,oN o)):=by unfold jN;rw[if_pos ⟨Rf,hq⟩,if_neg h7]
     refine aj (show(o.1==(7:Int))=false by simp[h7]) ?_
     refine ae (dq (eX i) xG) ?_
     refine aa hg ?_
     have:=ih (i+1) true (out.set i (y.1,(y.2.1,oN o))) fin (by omega) (by rw[ho,←v7 _ _ _ _ hx,e1]) hf
     rw[Bool.true_or]at this;exact this
   ·have e1:jN o y=y:=by unfold jN;rw[if_neg (fun h=>hq h.2)]
    refine aj ((jT y.1 (ba o)).trans (decide_eq_false hq)) ?_
    rw[decide_eq_false hq,Bool.false_or,hw]
    exact ih (i+1) fd out fin (by omega) (by rw[ho];exact rD _ _ _ _ hx e1) hf
theorem XA(s:StateT)(o:bL)(hs:Sm s.1):∀(n i:Nat) (fd:Bool) (out fin:List ag),i+n=s.1.1.length→out=(s.1.1.take i).map (il o)++s.1.1.drop i→fin=s.1.1.map (il o) →
  LX G 52 Bz Tryz.f52 rr (aY Tryz.prog 52 0) ((fd,((i:Int),())),(((s,()),((o,()),((([]:List ag),(([]:List ah),(([]:List aq),()))),((out,(s.1.2,())),())))),())) =
   some ((if((fd || IA o (s.1.1.drop i)) || FV o s.1.2) then((((fin,s.1.2.map (jN o)),s.2),((0:Int),())):StateT×(Int×Unit)) else(zS,(13,()))),()):=by
 have hv:=hs.v
 intro n
 induction n with
 |zero =>
  intro i fd out fin hi ho hf
  refine aB (j:=0) (by kernel_rfl) ((Qu _ _ _).trans ?_)
  have VN:out.length=s.1.1.length:=by rw[ho];simp;omega
  have h1:¬((i:Int)<(out.length:Int)):=by omega
  have h2:out=fin:=by rw[ho,hf,List.take_of_length_le (by omega),List.drop_eq_nil_of_le (by omega),List.append_nil]
  have h3:IA o (s.1.1.drop i)=false:=by rw[List.drop_eq_nil_of_le (by omega)];simp[IA]
  subst h2
  rw[h3,Bool.or_false]
  simp only[h1,decide_false]
  exact Xz s o out hs s.1.2.length 0 fd s.1.2 (s.1.2.map (jN o)) (by omega) (by simp) rfl
 |succ n ih =>
  intro i fd out fin hi ho hf
  refine aB (j:=0) (by kernel_rfl) ((Qu _ _ _).trans ?_)
  have VN:out.length=s.1.1.length:=by rw[ho];simp;omega
  have aM:i<s.1.1.length:=by omega
  have hx:s.1.1[i]? = some s.1.1[i]:=List.getElem?_eq_getElem aM
  have hg:out[i]? = some s.1.1[i]:=by rw[ho];exact FR _ _ _ _ hx
  have h2:s.1.1.drop i=s.1.1[i]::s.1.1.drop (i+1):=List.drop_eq_getElem_cons aM
  have xG:=bm (show i<out.length by omega)
  have hw:=aN aM (show s.1.1.length≤1073741824 by omega)
  rw[h2]
  generalize s.1.1[i]=y at *
  have hE:IA o (y::s.1.1.drop (i+1))=((!(nR o)&&decide (y.1=ba o)) || IA o (s.1.1.drop (i+1))):=by
   unfold IA;cases nR o<;>simp
  rw[hE]
  refine ae xG ?_
  cases Rf:nR o
  ·rw[Bool.not_false,Bool.true_and]
   refine ae (show(!(nR o))=true by rw[Rf];rfl) ?_
   refine ae (dq (eX i) xG) ?_
   refine aa hg ?_
   by_cases hq:y.1=ba o
   ·refine ae ((jT y.1 (ba o)).trans (decide_eq_true hq)) ?_
    rw[decide_eq_true hq,Bool.true_or,Bool.or_true,Bool.true_or,hw]
    by_cases h7:o.1=7
    ·have e1:il o y=(y.1,(y.2.1,(oJ o,y.2.2.2))):=by unfold il;rw[if_pos ⟨Rf,hq⟩,if_pos h7]
     refine ae (show(o.1==(7:Int))=true by simp[h7]) ?_
     refine ae (dq (eX i) xG) ?_
     refine aa hg ?_
     have:=ih (i+1) true (out.set i (y.1,(y.2.1,(oJ o,y.2.2.2)))) fin (by omega) (by rw[ho,←v7 _ _ _ _ hx,e1]) hf
     rw[Bool.true_or,Bool.true_or]at this;exact this
    ·have e1:il o y=(y.1,(y.2.1,(y.2.2.1,oN o))):=by unfold il;rw[if_pos ⟨Rf,hq⟩,if_neg h7]
     refine aj (show(o.1==(7:Int))=false by simp[h7]) ?_
     refine ae (dq (eX i) xG) ?_
     refine aa hg ?_
     have:=ih (i+1) true (out.set i (y.1,(y.2.1,(y.2.2.1,oN o)))) fin (by omega) (by rw[ho,←v7 _ _ _ _ hx,e1]) hf
     rw[Bool.true_or,Bool.true_or]at this;exact this
   ·have e1:il o y=y:=by unfold il;rw[if_neg (fun h=>hq h.2)]
    refine aj ((jT y.1 (ba o)).trans (decide_eq_false hq)) ?_
    rw[decide_eq_false hq,Bool.false_or,hw]
    exact ih (i+1) fd out fin (by omega) (by rw[ho];exact rD _ _ _ _ hx e1) hf
  ·have e1:il o y=y:=by unfold il;rw[if_neg (by simp[Rf])]
   rw[Bool.not_true,Bool.false_and,Bool.false_or]
   refine aj (show(!(nR o))=false by rw[Rf];rfl) ?_
   rw[hw]
   exact ih (i+1) fd out fin (by omega) (by rw[ho];exact rD _ _ _ _ hx e1) hf
theorem agB(hG:HG G)(s:StateT)(o:bL)(hs:Sm s.1):FX G 52 Bz ((s,o,()),())=some (wg s o,()):=by
 have hv:=hs.v;have he:=hs.e
 refine aA (fn:=Tryz.f52) (hG _ _ rfl) (by kernel_rfl) (by kernel_rfl) ((afm _ _ _).trans ?_)
 refine aa (aba (hG _ _ rfl) s.1 (by omega) (by omega) (fun w hw=>by have:=hs.r w hw;omega)) ?_
 have:=XA (G:=G) s o hs s.1.1.length 0 false s.1.1 (s.1.1.map (il o)) (by omega) (by simp) rfl
 rw[Bool.false_or]at this
 exact this
end Go.Vs
namespace Go.Vs
open Go.Proofs
variable {G:(f:FuncId)→(g:aL)→Option (g.A→Option g.B)}
structure Bd(n:Nat)(d:ai):Prop where
 v:d.1.length≤n
 e:d.2.length≤n
 r:∀w∈d.1,w.2.1.length≤n
theorem Bd.sm{n:Nat}{d:ai}(h:Bd n d)(hn:n≤50000000):Sm d:=⟨by have:=h.v;omega,by have:=h.e;omega,fun w hw=>by have:=h.r w hw;omega⟩
theorem Bd.mono{n m:Nat}{d:ai}(h:Bd n d)(hm:n≤m):Bd m d:=⟨by have:=h.v;omega,by have:=h.e;omega,fun w hw=>by have:=h.r w hw;omega⟩
theorem gP(v:ag):∀l:List ag,(cX v l).length=l.length+1
 |[]=>rfl
 |w::r=>by unfold cX;split<;>simp[gP v r]
theorem ns(v:ah):∀l:List ah,(cF v l).length=l.length+1
 |[]=>rfl
 |w::r=>by unfold cF;split<;>simp[ns v r]
theorem mD{v w:ag}:∀{l:List ag},w∈cX v l↔w=v∨w∈l
 |[]=>by simp[cX]
 |u::r=>by
  unfold cX
  split
  ·simp
  ·simp only[List.mem_cons,mD (l:=r)]
   exact⟨fun h=>by rcases h with h|h|h<;>simp[h],fun h=>by rcases h with h|h|h<;>simp[h]⟩
theorem rI{v w:ah}:∀{l:List ah},w∈cF v l↔w=v∨w∈l
 |[]=>by simp[cF]
 |u::r=>by
  unfold cF
  split
  ·simp
  ·simp only[List.mem_cons,rI (l:=r)]
   exact⟨fun h=>by rcases h with h|h|h<;>simp[h],fun h=>by rcases h with h|h|h<;>simp[h]⟩
theorem y0(row:List ab)(a d:ab):(dI row a d).length≤row.length+1:=by
 unfold dI
 split
 ·rw[gN];omega
 ·rw[gN];simp;omega
theorem IB(row:List ab)(d:ab):(c6 row d).length≤row.length:=by
 unfold c6;rw[gN];exact List.length_filter_le _ _
theorem FY(row:List ab)(a d:ab):(fE row a d).length=row.length:=by
 unfold fE;rw[gN];split<;>simp
theorem Bd.bA{n:Nat}{d:ai}(h:Bd n d)(x:ID):(bA d x).length≤n:=by
 unfold Vs.bA
 cases hf:bg d x with
 |none=>simp[zV]
 |some v=>exact h.r v (List.mem_of_find?_eq_some hf)
theorem Bd.bM{n:Nat}{d:ai}(h:Bd n d){x:ID}{l:List ab}(hl:l.length≤n):Bd n (bM d x l):=by
 refine⟨by simp[Vs.bM];exact h.v,h.e,fun w hw=>?_⟩
 obtain⟨u,hu,rfl⟩:=List.mem_map.1 hw
 unfold gr
 split
 ·exact hl
 ·exact h.r u hu
theorem Bd.aX{n:Nat}{d:ai}(h:Bd n d)(c:pS)(x:ab):Bd (n+1) (aX d c x) :=
 (h.mono (by omega)).bM (by have:=y0 (Vs.bA d c.1) c.2 x;have:=h.bA c.1;omega)
theorem Bd.av{n:Nat}{d:ai}(h:Bd n d)(a x:ab):Bd n (av d a x) :=
 h.bM (by rw[FY];exact h.bA _)
theorem Bd.az{n:Nat}{d:ai}(h:Bd n d)(x:ab):Bd n (az d x) :=
 h.bM (by have:=IB (Vs.bA d ((bY d x).getD zI)) x;have:=h.bA ((bY d x).getD zI);omega)
theorem Bd.aJ{n:Nat}{d:ai}(h:Bd n d)(v e:ID):Bd n (aJ d v e) :=
 ⟨Nat.le_trans (List.length_filter_le _ _) h.v,Nat.le_trans (List.length_filter_le _ _) h.e,fun w hw=>h.r w (List.mem_filter.1 hw).1⟩
theorem Bd.cX{n:Nat}{d:ai}(h:Bd n d)(v:ag)(hv:v.2.1.length≤n+1):Bd (n+1) (cX v d.1,d.2) :=
 ⟨by rw[gP];have:=h.v;omega,by have:=h.e;simp only;omega,fun w hw=>by
  rcases mD.1 hw with rfl|hw
  ·exact hv
  ·have:=h.r w hw;omega⟩
theorem Bd.cF{n:Nat}{d:ai}(h:Bd n d)(v:ah):Bd (n+1) (d.1,cF v d.2) :=
 ⟨by have:=h.v;simp only;omega,by rw[ns];have:=h.e;omega,fun w hw=>by have:=h.r w hw;omega⟩
theorem zc(g:aq):∀l:List aq,(lI g l).length≤l.length+1
 |[]=>by simp[lI]
 |e::r=>by
  unfold lI
  split
  ·have:=List.length_filter_le (fun q:aq=>decide (q.1≠g.1)) (e::r)
   simp[nQ];simp at this;omega
  ·have:=zc g r
   split<;>simp<;>omega
theorem fm(l:List aq)(g:aq):(bG l g).length≤l.length+1:=by
 unfold bG;split
 ·omega
 ·exact zc g l
def jY(s:StateT)(o:bL):ai :=
 aX (aX (s.1.1,cF (ba o,(e0,0)) s.1.2) (aW s (oA o)).1 (ba o,0))
  (if(bg s.1 (oB o).1).isSome=true∧(oB o).2=(ba o,0) then oB o else(aW s (oB o)).1) (ba o,1)
def nt(s:StateT)(o:bL):StateT×(Int×Unit) :=
 if(fZ s.1 (ba o)).isSome=true then(zS,(12,()))
 else if 40≤s.1.2.length then(zS,(3,()))
 else if(aW s (oA o)).2.1≠0 then(zS,(13,()))
 else if(aW s (oB o)).2.1≠0 then(zS,(13,()))
 else if bB (jY s o)≠0 then(zS,(15,()))
 else((jY s o,s.2),(0,()))
theorem agC(hG:HG G){n:Nat}(s:StateT)(o:bL)(hs:Bd n s.1)(hn:n≤4000000)(hg:s.2.length≤50000000):FX G 48 P3 ((s,o,()),())=some (nt s o,()):=by
  have hv:=hs.v;have he:=hs.e
  have Rg:=hs.sm (by omega)
  refine aA (fn:=Tryz.f48) (hG _ _ rfl) (by kernel_rfl) (by kernel_rfl) ((afi _ _ _).trans ?_)
  refine aa (Re (hG _ _ rfl) s.1 (ba o) (by omega)) ?_
  rw[show(oH zE (fZ s.1 (ba o))).2.1=(fZ s.1 (ba o)).isSome from fN _ _]
  unfold nt
  cases h1:(fZ s.1 (ba o)).isSome
  case true=>rw[if_pos rfl];rfl
  rw[if_neg (by simp)]
  by_cases h2:40≤s.1.2.length
  · have d:decide (((s.1.2.length:Nat):Int)≥40)=true:=decide_eq_true (by omega)
    rw[if_pos h2];simp only[d];rfl
  have d2:decide (((s.1.2.length:Nat):Int)≥40)=false:=decide_eq_false (by omega)
  rw[if_neg h2];simp only[d2]
  refine aa (abk hG s (oA o) Rg hg) ?_
  refine aa (abk hG s (oB o) Rg hg) ?_
  refine aa (zF (hG _ _ rfl) s.1 (oB o).1 (by omega)) ?_
  rw[show(oH zV (bg s.1 (oB o).1)).2.1=(bg s.1 (oB o).1).isSome from fN _ _]
  have b1:=hs.cF (ba o,(e0,0))
  have b2:=b1.aX (aW s (oA o)).1 (ba o,0)
  have fin:∀(bc:pS),jY s o=aX (aX (s.1.1,cF (ba o,(e0,0)) s.1.2) (aW s (oA o)).1 (ba o,0)) bc (ba o,1) →
      (cond ((aW s (oA o)).2.1 != 0) (some (((([],[]),[]),((13:Int),())),()))
       (cond ((aW s (oB o)).2.1 != 0) (some (((([],[]),[]),((13:Int),())),()))
        ((FX G 71 zu ((s.1,((ba o,(e0,(0:Int))),())),())).bind fun(y5:((ai×Unit)×Unit)) =>
        (FX G 72 zw ((y5.1.1,((aW s (oA o)).1,((ba o,(0:Int)),()))),())).bind fun(y6:((ai×Unit)×Unit)) =>
        (FX G 72 zw ((y6.1.1,(bc,((ba o,(1:Int)),()))),())).bind fun(y7:((ai×Unit)×Unit)) =>
        (FX G 64 HK ((y7.1.1,()),())).bind fun(y8:((Int×Unit)×Unit)) =>
        cond (y8.1.1 != (0:Int))
         (some (((([],[]),[]),((15:Int),())),()))
         (some (((y7.1.1,s.2),((0:Int),())),())))):Option ((StateT×(Int×Unit))×Unit)) =
      some ((if(aW s (oA o)).2.1≠0 then(zS,(13,())) else if(aW s (oB o)).2.1≠0 then(zS,(13,())) else if bB (jY s o)≠0 then(zS,(15,())) else((jY s o,s.2),(0,())):StateT×(Int×Unit)),()):=by
    intro bc hbc
    by_cases h3:(aW s (oA o)).2.1=0
    case neg =>
      have d:((aW s (oA o)).2.1 != 0)=true:=by simp[h3]
      rw[if_pos h3,d];rfl
    rw[if_neg (by simp[h3]),show((aW s (oA o)).2.1 != 0)=false by simp[h3]]
    by_cases h4:(aW s (oB o)).2.1=0
    case neg =>
      have d:((aW s (oB o)).2.1 != 0)=true:=by simp[h4]
      rw[if_pos h4,d];rfl
    rw[if_neg (by simp[h4]),show((aW s (oB o)).2.1 != 0)=false by simp[h4]]
    simp only[cond_false]
    have b3:=b2.aX bc (ba o,1)
    rw[←hbc]at b3
    refine aa (abc hG s.1 (ba o,(e0,0)) (by omega)) ?_
    refine aa (abe hG _ _ _ (b1.sm (by omega))) ?_
    refine aa ((abe hG (aX (s.1.1,cF (ba o,(e0,0)) s.1.2) (aW s (oA o)).1 (ba o,0)) bc (ba o,1) (b2.sm (by omega))).trans (congrArg (fun z:ai=>some ((z,()),())) hbc.symm)) ?_
    refine aa (agv hG (jY s o) (b3.sm (by omega)) (by have:=b3.e;omega)) ?_
    by_cases h5:bB (jY s o)=0
    · rw[if_neg (by simp[h5])]
      have d:(bB (jY s o) != 0)=false:=by simp[h5]
      simp only[d];rfl
    · rw[if_pos h5]
      have d:(bB (jY s o) != 0)=true:=by simp[h5]
      simp only[d];rfl
  have hb:((((oB o).2.1.1==o.2.1.1)&&((oB o).2.1.2==o.2.1.2))&&((oB o).2.2==(0:Int)))=decide ((oB o).2=(ba o,0)):=ki (oB o).2 (ba o,0)
  simp only[hb]
  cases h6:(bg s.1 (oB o).1).isSome
  · exact fin (aW s (oB o)).1 (by unfold jY;rw[if_neg (by simp[h6])])
  · by_cases h7:(oB o).2=(ba o,0)
    · have d:=decide_eq_true h7
      simp only[d]
      exact fin (oB o) (by unfold jY;rw[if_pos ⟨h6,h7⟩])
    · have d:=decide_eq_false h7
      simp only[d]
      exact fin (aW s (oB o)).1 (by unfold jY;rw[if_neg (by simp[h7])])
def Cl(s:StateT)(o:bL):StateT×(Int×Unit) :=
 if(fZ s.1 (ba o)).isSome=false then(zS,(13,()))
 else((aJ (az (az s.1 (ba o,0)) (ba o,1)) zI (ba o),
  bG (bG s.2 ((ba o,0),c9 s.1 (ba o,0))) ((ba o,1),c9 s.1 (ba o,1))),(0,()))
theorem agD(hG:HG G){n:Nat}(s:StateT)(o:bL)(hs:Bd n s.1)(hn:n≤4000000)(hg:s.2.length≤5000000):FX G 49 P4 ((s,o,()),())=some (Cl s o,()):=by
 have hv:=hs.v;have he:=hs.e
 have Rg:=hs.sm (by omega)
 refine aA (fn:=Tryz.f49) (hG _ _ rfl) (by kernel_rfl) (by kernel_rfl) ((afj _ _ _).trans ?_)
 refine aa (Re (hG _ _ rfl) s.1 (ba o) (by omega)) ?_
 rw[show(oH zE (fZ s.1 (ba o))).2.1=(fZ s.1 (ba o)).isSome from fN _ _]
 unfold Cl
 cases h1:(fZ s.1 (ba o)).isSome
 case false=>rw[if_pos rfl];rfl
 rw[if_neg (by simp)]
 have b1:=hs.az (ba o,0)
 have b2:=b1.az (ba o,1)
 have l1:=fm s.2 ((ba o,0),c9 s.1 (ba o,0))
 refine aa (abh hG s.1 (ba o,0) Rg) ?_
 refine aa (Ud hG s.2 ((ba o,0),c9 s.1 (ba o,0)) (by omega)) ?_
 refine aa (abh hG s.1 (ba o,1) Rg) ?_
 refine aa (Ud hG (bG s.2 ((ba o,0),c9 s.1 (ba o,0))) ((ba o,1),c9 s.1 (ba o,1)) (by omega)) ?_
 refine aa (abg hG s.1 (ba o,0) Rg) ?_
 refine aa (abg hG (az s.1 (ba o,0)) (ba o,1) (b1.sm (by omega))) ?_
 exact aa (Ub (hG _ _ rfl) (az (az s.1 (ba o,0)) (ba o,1)) zI (ba o) (by have:=b2.v;omega) (by have:=b2.e;omega)) rfl
def IC(o:bL):ab:=(ba o,IntKind.wrap .i64 (1-Int.tmod (oN o) 2))
def Er(o:bL):ab:=(bh o,IntKind.wrap .i64 (Int.tdiv (oN o) 2))
def Rh(s:StateT)(o:bL):ai :=
 (cX (fk o,(bZ [IC o,Er o],(e0,0))) (av s.1 (IC o) (af (Er o))).1,cF (bh o,(e0,0)) (av s.1 (IC o) (af (Er o))).2)
def lq(s:StateT)(o:bL):StateT×(Int×Unit) :=
 if(fZ s.1 (ba o)).isSome=false then(zS,(13,()))
 else if(bg s.1 (fk o)).isSome=true then(zS,(12,()))
 else if(fZ s.1 (bh o)).isSome=true then(zS,(12,()))
 else if 24≤s.1.1.length then(zS,(3,()))
 else if 40≤s.1.2.length then(zS,(3,()))
 else((Rh s o,s.2),(0,()))
theorem agE(hG:HG G){n:Nat}(s:StateT)(o:bL)(hs:Bd n s.1)(hn:n≤4000000):FX G 50 P5 ((s,o,()),())=some (lq s o,()):=by
 have hv:=hs.v;have he:=hs.e
 have Rg:=hs.sm (by omega)
 refine aA (fn:=Tryz.f50) (hG _ _ rfl) (by kernel_rfl) (by kernel_rfl) ((afk _ _ _).trans ?_)
 refine aa (Re (hG _ _ rfl) s.1 (ba o) (by omega)) ?_
 rw[show(oH zE (fZ s.1 (ba o))).2.1=(fZ s.1 (ba o)).isSome from fN _ _]
 unfold lq
 cases h1:(fZ s.1 (ba o)).isSome
 case false=>rw[if_pos rfl];rfl
 rw[if_neg (by simp)]
 refine aa (zF (hG _ _ rfl) s.1 (fk o) (by omega)) ?_
 rw[show(oH zV (bg s.1 (fk o))).2.1=(bg s.1 (fk o)).isSome from fN _ _]
 refine aa (Re (hG _ _ rfl) s.1 (bh o) (by omega)) ?_
 rw[show(oH zE (fZ s.1 (bh o))).2.1=(fZ s.1 (bh o)).isSome from fN _ _]
 cases h2:(bg s.1 (fk o)).isSome
 case true=>rw[if_pos rfl];rfl
 rw[if_neg (by simp)]
 cases h3:(fZ s.1 (bh o)).isSome
 case true=>rw[if_pos rfl];rfl
 rw[if_neg (by simp)]
 by_cases h4:24≤s.1.1.length
 ·have d:decide (((s.1.1.length:Nat):Int)≥24)=true:=decide_eq_true (by omega)
  rw[if_pos h4];simp only[d];rfl
 have d4:decide (((s.1.1.length:Nat):Int)≥24)=false:=decide_eq_false (by omega)
 rw[if_neg h4]
 by_cases h5:40≤s.1.2.length
 ·have d:decide (((s.1.2.length:Nat):Int)≥40)=true:=decide_eq_true (by omega)
  rw[if_pos h5];simp only[d4,d];rfl
 have d5:decide (((s.1.2.length:Nat):Int)≥40)=false:=decide_eq_false (by omega)
 rw[if_neg h5]
 simp only[d4,d5]
 have d6:((2:Int)==0)=false:=rfl
 simp only[d6]
 have b1:=hs.av (IC o) (af (Er o))
 have b2:=b1.cF (bh o,(e0,0))
 refine aa (Rc (hG _ _ rfl) (Er o)) ?_
 refine aa (abf hG s.1 (IC o) (af (Er o)) Rg) ?_
 refine aa (abc hG (av s.1 (IC o) (af (Er o))) (bh o,(e0,0)) (by have:=b1.e;omega)) ?_
 refine aa (Ix hG [IC o,Er o] (by simp)) ?_
 exact aa (abb hG ((av s.1 (IC o) (af (Er o))).1,cF (bh o,(e0,0)) (av s.1 (IC o) (af (Er o))).2) (fk o,(bZ [IC o,Er o],(e0,0))) (Nat.le_trans b1.v (by omega))) rfl
end Go.Vs
namespace Go.Vs
open Go.Proofs
variable {G:(f:FuncId)→(g:aL)→Option (g.A→Option g.B)}
def qF(a b:ab)(i:Int):ab:=if(b.1,i)=af b then a else zD
def IE(g:List aq)(a b:ab):List aq:=bG (bG g ((b.1,0),qF a b 0)) ((b.1,1),qF a b 1)
def Gz(s:StateT)(o:bL)(a b:ab):ai:=aJ (av (aJ s.1 (ba o) zI) (af b) a) zI b.1
theorem agF(hG:HG G)(g:List aq)(a b:ab)(d:ai)(hg:g.length≤5000000) :
  LX G 51 zr Tryz.f51 mz (aY Tryz.prog 51 0) ((g,((0:Int),())),(((([]:List ag),(([]:List ah),(([]:List aq),()))),((a,()),((b,()),((af b,()),((d,()),()))))),()))=some (((d,IE g a b),((0:Int),())),()):=by
 have l2:∀g2:List aq,LX G 51 zr Tryz.f51 mz (aY Tryz.prog 51 0) ((g2,((2:Int),())),(((([]:List ag),(([]:List ah),(([]:List aq),()))),((a,()),((b,()),((af b,()),((d,()),()))))),()))=some (((d,g2),((0:Int),())),()):=fun g2 =>
  aB (j:=0) (by kernel_rfl) ((Qt _ _ _).trans (aj rfl rfl))
 have step:∀(i:Int) (g1:List aq) (r:(StateT×(Int×Unit))×Unit),i<2→g1.length≤5000001→LX G 51 zr Tryz.f51 mz (aY Tryz.prog 51 0) ((bG g1 ((b.1,i),qF a b i),(IntKind.wrap .i64 (i+1),())),(((([]:List ag),(([]:List ah),(([]:List aq),()))),((a,()),((b,()),((af b,()),((d,()),()))))),()))=some r →
   LX G 51 zr Tryz.f51 mz (aY Tryz.prog 51 0) ((g1,(i,())),(((([]:List ag),(([]:List ah),(([]:List aq),()))),((a,()),((b,()),((af b,()),((d,()),()))))),()))=some r:=fun i g1 r hi hg1 h=>by
  refine aB (j:=0) (by kernel_rfl) ((Qt _ _ _).trans ?_)
  refine ae (decide_eq_true hi) ?_
  unfold qF at h
  by_cases he:((b.1,i):ab)=af b
  ·rw[if_pos he]at h
   refine ae ((ki (b.1,i) (af b)).trans (decide_eq_true he)) ?_
   refine aa (Ud hG g1 ((b.1,i),a) (by omega)) ?_
   exact h
  ·rw[if_neg he]at h
   refine aj ((ki (b.1,i) (af b)).trans (decide_eq_false he)) ?_
   refine aa (Ud hG g1 ((b.1,i),zD) (by omega)) ?_
   exact h
 have a1:=fm g ((b.1,0),qF a b 0)
 refine step 0 g _ (by omega) (by omega) ?_
 refine step 1 _ _ (by omega) (by omega) ?_
 exact l2 _
def jO(s:StateT)(o:bL)(r0 r1:ab):StateT×(Int×Unit) :=
 if r0.1=r1.1 then(zS,(14,()))
 else if r0.1=bh o then((Gz s o r1 r0,IE s.2 r1 r0),(0,()))
 else if r1.1=bh o then((Gz s o r0 r1,IE s.2 r0 r1),(0,()))
 else(zS,(14,()))
def kE(s:StateT)(o:bL):StateT×(Int×Unit):=match bg s.1 (ba o) with
 |none=>(zS,(13,()))
 |some v=>match v.2.1 with
  |[r0,r1]=>jO s o r0 r1
  |_=>(zS,(14,()))
theorem agG(hG:HG G){n:Nat}(s:StateT)(o:bL)(hs:Bd n s.1)(hn:n≤4000000)(hg:s.2.length≤5000000):FX G 51 zr ((s,o,()),())=some (kE s o,()):=by
  have hv:=hs.v;have he:=hs.e
  have Rg:=hs.sm (by omega)
  refine aA (fn:=Tryz.f51) (hG _ _ rfl) (by kernel_rfl) (by kernel_rfl) ((afl _ _ _).trans ?_)
  refine aa (zF (hG _ _ rfl) s.1 (ba o) (by omega)) ?_
  unfold kE
  cases hf:bg s.1 (ba o) with
  |none=>rfl
  |some v =>
    refine aj (show(!true)=false from rfl) ?_
    have two:∀(a b:ab) (r:Option ((StateT×(Int×Unit))×Unit)),r=some (((Gz s o a b,IE s.2 a b),((0:Int),())),()) →
        ((FX G 23 zp ((b,()),())).bind fun(y8:((ab×Unit)×Unit)) =>
         (FX G 47 pU ((s.1,(ba o,(zI,()))),())).bind fun(y9:((ai×Unit)×Unit)) =>
         (FX G 76 HN ((y9.1.1,(y8.1.1,(a,()))),())).bind fun(pW:((ai×Unit)×Unit)) =>
         (FX G 47 pU ((pW.1.1,(zI,(b.1,()))),())).bind fun(lF:((ai×Unit)×Unit)) =>
         LX G 51 zr Tryz.f51 mz (aY Tryz.prog 51 0) ((s.2,((0:Int),())),(((([]:List ag),(([]:List ah),(([]:List aq),()))),((a,()),((b,()),((y8.1.1,()),((lF.1.1,()),()))))),())))=r:=fun a b r hr=>by
      subst hr
      have b1:=hs.aJ (ba o) zI
      have b2:=b1.av (af b) a
      refine aa (Rc (hG _ _ rfl) b) ?_
      refine aa (Ub (hG _ _ rfl) s.1 (ba o) zI (by omega) (by omega)) ?_
      refine aa (abf hG (aJ s.1 (ba o) zI) (af b) a (b1.sm (by omega))) ?_
      refine aa (Ub (hG _ _ rfl) (av (aJ s.1 (ba o) zI) (af b) a) zI b.1 (by have:=b2.v;omega) (by have:=b2.e;omega)) ?_
      exact agF hG s.2 a b (Gz s o a b) hg
    obtain⟨vi,ring,vr⟩:=v
    by_cases hl:ring.length=2
    case neg =>
      refine ae (show((((ring.length:Nat):Int)) != 2)=true by simp;omega) ?_
      match ring,hl with
      |[],_=>rfl
      |[_],_=>rfl
      |[_,_],h=>exact absurd rfl h
      |_::_::_::_,_=>rfl
    match ring,hl with
    |[r0,r1],_ =>
      refine aj (show((((2:Nat):Int)) != 2)=false from rfl) ?_
      refine aa (show br [r0,r1] 0=some r0 from rfl) ?_
      refine aa (show br [r0,r1] 1=some r1 from rfl) ?_
      show _=some (jO s o r0 r1,())
      unfold jO
      by_cases h1:r0.1=r1.1
      · rw[if_pos h1]
        exact ae ((jT r0.1 r1.1).trans (decide_eq_true h1)) rfl
      rw[if_neg h1]
      refine aj ((jT r0.1 r1.1).trans (decide_eq_false h1)) ?_
      refine aa (show br [r0,r1] 0=some r0 from rfl) ?_
      refine aa (show br [r0,r1] 1=some r1 from rfl) ?_
      by_cases h2:r0.1=bh o
      · rw[if_pos h2]
        refine ae ((jT r0.1 (bh o)).trans (decide_eq_true h2)) ?_
        refine aa (show br [r0,r1] 1=some r1 from rfl) ?_
        refine aa (show br [r0,r1] 0=some r0 from rfl) ?_
        refine aj (by rw[show((r0.1.1==(bh o).1)&&(r0.1.2==(bh o).2))=true from(jT r0.1 (bh o)).trans (decide_eq_true h2)];rfl) ?_
        exact two r1 r0 _ rfl
      rw[if_neg h2]
      refine aj ((jT r0.1 (bh o)).trans (decide_eq_false h2)) ?_
      by_cases h3:r1.1=bh o
      · rw[if_pos h3]
        refine aj (by rw[show((r1.1.1==(bh o).1)&&(r1.1.2==(bh o).2))=true from(jT r1.1 (bh o)).trans (decide_eq_true h3)];rfl) ?_
        exact two r0 r1 _ rfl
      · rw[if_neg h3]
        exact ae (by rw[show((r1.1.1==(bh o).1)&&(r1.1.2==(bh o).2))=false from(jT r1.1 (bh o)).trans (decide_eq_false h3)];rfl) rfl
def rJ(s:StateT)(o:bL):StateT×(Int×Unit) :=
 if(bg s.1 (ba o)).isSome=true then(zS,(12,())) else if 24≤s.1.1.length then(zS,(3,())) else(((cX (ba o,([],(e0,0))) s.1.1,s.1.2),s.2),(0,()))
def wh(s:StateT)(o:bL):StateT×(Int×Unit):=match bg s.1 (ba o) with
 |none=>(zS,(13,()))
 |some v=>if 0<v.2.1.length then(zS,(14,())) else((aJ s.1 (ba o) zI,s.2),(0,()))
def mT(s:StateT)(o:bL):StateT×(Int×Unit) :=
 if c5 o≠0 then(zS,(c5 o,()))
 else if o.1=1 then rJ s o else if o.1=2 then wh s o else if o.1=3 then nt s o else if o.1=4 then Cl s o else if o.1=5 then lq s o else if o.1=6 then kE s o else wg s o
theorem agH(hG:HG G){n:Nat}(s:StateT)(o:bL)(hs:Bd n s.1)(hn:n≤4000000)(hg:s.2.length≤5000000)(ht:uD o):FX G 15 PW ((s,o,()),())=some (mT s o,()):=by
 have hv:=hs.v;have he:=hs.e
 refine aA (fn:=Tryz.f15) (hG _ _ rfl) (by kernel_rfl) (by kernel_rfl) ((aeQ _ _ _).trans ?_)
 refine aa (abp hG o ht) ?_
 unfold mT
 by_cases h0:c5 o=0
 case neg =>
  rw[if_pos h0]
  exact ae (show(c5 o != 0)=true by simp[h0]) rfl
 rw[if_neg (by simp[h0])]
 refine aj (show(c5 o != 0)=false by simp[h0]) ?_
 refine aa (zF (hG _ _ rfl) s.1 (ba o) (by omega)) ?_
 by_cases h1:o.1=1
 ·rw[if_pos h1]
  refine ae (show(o.1==(1:Int))=true by simp[h1]) ?_
  rw[show(oH zV (bg s.1 (ba o))).2.1=(bg s.1 (ba o)).isSome from fN _ _]
  unfold rJ
  cases hf:(bg s.1 (ba o)).isSome
  ·rw[if_neg (by simp)]
   refine aj rfl ?_
   by_cases h4:24≤s.1.1.length
   ·rw[if_pos h4]
    exact ae (decide_eq_true (show((s.1.1.length:Nat):Int)≥24 by omega)) rfl
   ·rw[if_neg h4]
    refine aj (decide_eq_false (show ¬((s.1.1.length:Nat):Int)≥24 by omega)) ?_
    exact aa (abb hG s.1 (ba o,([],(e0,0))) (by omega)) rfl
  ·rw[if_pos rfl];rfl
 rw[if_neg h1]
 refine aj (show(o.1==(1:Int))=false by simp[h1]) ?_
 by_cases h2:o.1=2
 ·rw[if_pos h2]
  refine ae (show(o.1==(2:Int))=true by simp[h2]) ?_
  unfold wh
  cases hf:bg s.1 (ba o) with
  |none=>rfl
  |some v =>
   refine aj (show(!true)=false from rfl) ?_
   by_cases h4:0<v.2.1.length
   ·show _=some ((if 0<v.2.1.length then(zS,(14,())) else((aJ s.1 (ba o) zI,s.2),(0,())):StateT×(Int×Unit)),())
    rw[if_pos h4]
    exact ae (decide_eq_true (show((v.2.1.length:Nat):Int)>0 by omega)) rfl
   ·show _=some ((if 0<v.2.1.length then(zS,(14,())) else((aJ s.1 (ba o) zI,s.2),(0,())):StateT×(Int×Unit)),())
    rw[if_neg h4]
    refine aj (decide_eq_false (show ¬((v.2.1.length:Nat):Int)>0 by omega)) ?_
    exact aa (Ub (hG _ _ rfl) s.1 (ba o) zI (by omega) (by omega)) rfl
 rw[if_neg h2]
 refine aj (show(o.1==(2:Int))=false by simp[h2]) ?_
 by_cases h3:o.1=3
 ·rw[if_pos h3]
  refine ae (show(o.1==(3:Int))=true by simp[h3]) ?_
  exact aa (agC hG s o hs hn (by omega)) rfl
 rw[if_neg h3]
 refine aj (show(o.1==(3:Int))=false by simp[h3]) ?_
 by_cases h4:o.1=4
 ·rw[if_pos h4]
  refine ae (show(o.1==(4:Int))=true by simp[h4]) ?_
  exact aa (agD hG s o hs hn hg) rfl
 rw[if_neg h4]
 refine aj (show(o.1==(4:Int))=false by simp[h4]) ?_
 by_cases h5:o.1=5
 ·rw[if_pos h5]
  refine ae (show(o.1==(5:Int))=true by simp[h5]) ?_
  exact aa (agE hG s o hs hn) rfl
 rw[if_neg h5]
 refine aj (show(o.1==(5:Int))=false by simp[h5]) ?_
 by_cases h6:o.1=6
 ·rw[if_pos h6]
  refine ae (show(o.1==(6:Int))=true by simp[h6]) ?_
  exact aa (agG hG s o hs hn hg) rfl
 rw[if_neg h6]
 refine aj (show(o.1==(6:Int))=false by simp[h6]) ?_
 exact aa (agB hG s o (hs.sm (by omega))) rfl
structure Bs(n:Nat)(s:StateT):Prop where
 d:Bd n s.1
 g:s.2.length≤n
theorem Bs.mono{n m:Nat}{s:StateT}(h:Bs n s)(hm:n≤m):Bs m s:=⟨h.d.mono hm,by have:=h.g;omega⟩
theorem Bs.zero(n:Nat):Bs n zS:=⟨⟨Nat.zero_le _,Nat.zero_le _,fun w hw=>by simp[zS]at hw⟩,Nat.zero_le _⟩
theorem Bs.one{n:Nat}{s:StateT}(h:Bs n s)(o:bL):Bs (n+3) (mT s o).1:=by
 have h1:=h.d;have h2:=h.g
 unfold mT
 split
 ·exact Bs.zero _
 split
 ·unfold rJ;split
  ·exact Bs.zero _
  split
  ·exact Bs.zero _
  ·exact⟨(h1.cX _ (by simp)).mono (by omega),by simp only;omega⟩
 split
 ·unfold wh
  cases bg s.1 (ba o) with
  |none=>exact Bs.zero _
  |some v =>
   simp only
   split
   ·exact Bs.zero _
   ·exact⟨(h1.aJ _ _).mono (by omega),by simp only;omega⟩
 split
 ·unfold nt
  split;· exact Bs.zero _
  split;· exact Bs.zero _
  split;· exact Bs.zero _
  split;· exact Bs.zero _
  split;· exact Bs.zero _
  exact⟨by unfold jY;exact((h1.cF _).aX _ _).aX _ _,by simp only;omega⟩
 split
 ·unfold Cl
  split;· exact Bs.zero _
  refine⟨(((h1.az _).az _).aJ _ _).mono (by omega),?_⟩
  have a1:=fm s.2 ((ba o,0),c9 s.1 (ba o,0))
  have a2:=fm (bG s.2 ((ba o,0),c9 s.1 (ba o,0))) ((ba o,1),c9 s.1 (ba o,1))
  simp only;omega
 split
 ·unfold lq
  split;· exact Bs.zero _
  split;· exact Bs.zero _
  split;· exact Bs.zero _
  split;· exact Bs.zero _
  split;· exact Bs.zero _
  refine⟨?_,by simp only;omega⟩
  have b2:=((h1.av (IC o) (af (Er o))).cF (bh o,(e0,0)))
  exact(b2.cX (fk o,(bZ [IC o,Er o],(e0,0))) (by simp[gN])).mono (by omega)
 split
 ·unfold kE
  have key:∀a b:ab,Bs (n+3) (Gz s o a b,IE s.2 a b):=fun a b=>by
   refine⟨(((h1.aJ _ _).av _ _).aJ _ _).mono (by omega),?_⟩
   have a1:=fm s.2 ((b.1,0),qF a b 0)
   have a2:=fm (bG s.2 ((b.1,0),qF a b 0)) ((b.1,1),qF a b 1)
   simp only[IE];omega
  split
  ·exact Bs.zero _
  ·split
   ·unfold jO
    split;· exact Bs.zero _
    split;· exact key _ _
    split;· exact key _ _
    exact Bs.zero _
   ·exact Bs.zero _
 ·unfold wg
  split
  ·refine⟨⟨by simp;have:=h1.v;omega,by simp;have:=h1.e;omega,fun w hw=>?_⟩,by simp only;omega⟩
   obtain⟨u,hu,rfl⟩:=List.mem_map.1 hw
   have hr:=h1.r u hu
   have e:(il o u).2.1=u.2.1:=by unfold il;split<;>(try split)<;>rfl
   rw[e];omega
  ·exact Bs.zero _
def OC:List bL→StateT→StateT×(Int×Unit)
 |[],s=>(s,(0,()))
 |o::r,s=>if(mT s o).2.1≠0 then(zS,(mT s o).2) else OC r (mT s o).1
def kj(s:StateT)(l:List bL):StateT×(Int×Unit):=if p6 l≠0 then(zS,(p6 l,())) else OC l s
theorem Bs.go{l:List bL}:∀{n:Nat} {s:StateT},Bs n s→Bs (n+3*l.length) (OC l s).1:=by
 induction l with
 |nil=>intro n s h;exact h.mono (by simp)
 |cons o r ih =>
  intro n s h
  unfold OC
  split
  ·exact Bs.zero _
  ·exact(ih (h.one o)).mono (by simp;omega)
theorem agI(hG:HG G){n:Nat}(s:StateT)(l:List bL)(hs:Bs n s)(hn:n+3*l.length≤3000000)(ht:∀o∈l,uD o):FX G 35 HE ((s,l,()),())=some (kj s l,()):=by
 refine aA (fn:=Tryz.f35) (hG _ _ rfl) (by kernel_rfl) (by kernel_rfl) ((ae9 _ _ _).trans ?_)
 refine aa (agz hG l ht) ?_
 unfold kj
 by_cases h0:p6 l=0
 case neg =>
  rw[if_pos h0]
  exact ae (show(p6 l != 0)=true by simp[h0]) rfl
 rw[if_neg (by simp[h0])]
 refine aj (show(p6 l != 0)=false by simp[h0]) ?_
 have key:=ck l (fun i (s:StateT)=>LX G 35 HE Tryz.f35 BU (aY Tryz.prog 35 0) ((i,()),(((s,()),((l,()),((([]:List ag),(([]:List ah),(([]:List aq),()))),()))),()))) (fun(r:List bL) (s:StateT)=>(OC r s,()))
  (fun m s=>∃k,Bs k s∧k+3*m≤3000000)
  (fun s _=>by
   exact aB (j:=0) (by kernel_rfl) ((Qm _ _ _).trans (aj (dO _) rfl)))
  (fun i o r s hi hx Cj hk ih=>by
   obtain⟨k,hb,hk⟩:=hk
   refine aB (j:=0) (by kernel_rfl) ((Qm _ _ _).trans ?_)
   refine ae (bm hi) ?_
   refine aa (aR hx) ?_
   have hbd:=hb.d;have hbg:=hb.g
   refine aa (agH hG s o hbd (by omega) (by omega) (ht o (List.mem_of_getElem? hx))) ?_
   rw[OC]
   by_cases h1:(mT s o).2.1=0
   ·rw[if_neg (by simp[h1])]
    refine aj (show((mT s o).2.1 != 0)=false by simp[h1]) ?_
    rw[aN hi (show l.length≤1073741824 by omega)]
    exact ih (mT s o).1 ⟨k+3,hb.one o,by omega⟩
   ·rw[if_pos h1]
    exact ae (show((mT s o).2.1 != 0)=true by simp[h1]) rfl)
  s ⟨n,hs,hn⟩
 exact key
def wi(s:StateT)(l:List bL):StateT:=if(kj s l).2.1≠0 then s else(kj s l).1
theorem agJ(hG:HG G){n:Nat}(s:StateT)(l:List bL)(hs:Bs n s)(hn:n+3*l.length≤3000000)(ht:∀o∈l,uD o):FX G 37 P1 ((s,l,()),())=some ((wi s l,()),()):=by
 refine aA (fn:=Tryz.f37) (hG _ _ rfl) (by kernel_rfl) (by kernel_rfl) ((afa _ _ _).trans ?_)
 refine aa (agI hG s l hs hn ht) ?_
 unfold wi
 by_cases h1:(kj s l).2.1=0
 ·rw[if_neg (by simp[h1])]
  exact aj (show((kj s l).2.1 != 0)=false by simp[h1]) rfl
 ·rw[if_pos h1]
  exact ae (show((kj s l).2.1 != 0)=true by simp[h1]) rfl
theorem Bs.try{n:Nat}{s:StateT}{l:List bL}(h:Bs n s):Bs (n+3*l.length) (wi s l):=by
 unfold wi
 split
 ·exact h.mono (by omega)
 ·unfold kj
  split
  ·exact Bs.zero _
  ·exact h.go
def jc:Nat→List (List bL)→StateT→StateT
 |0,_,s=>s
 |_+1,[],s=>s
 |n+1,l::r,s=>jc n r (wi s (l.take 8))
def oK(l:List (List bL)):StateT:=jc 30 l zS
theorem Bs.reach:∀(m:Nat) (l:List (List bL)) {n:Nat} {s:StateT},Bs n s→Bs (n+24*m) (jc m l s)
 |0,_,n,s,h=>by simpa[jc] using h
 |m+1,[],n,s,h=>h.mono (by omega)
 |m+1,l::r,n,s,h=>by
  rw[jc]
  have h1:Bs (n+3*(l.take 8).length) (wi s (l.take 8)):=h.try
  have hl:(l.take 8).length≤8:=by simp;omega
  exact(Bs.reach m r (h1.mono (show n+3*(l.take 8).length≤n+24 by omega))).mono (by omega)
theorem Bs.FZ(l:List (List bL)):Bs 720 (oK l):=(Bs.reach 30 l (Bs.zero 0)).mono (by omega)
theorem agK(hG:HG G)(l:List (List bL))(hl:l.length≤1073741824)(ht:∀e∈l,∀o∈e,uD o):FX G 17 HB ((l,()),())=some ((oK l,()),()):=by
 refine aA (fn:=Tryz.f17) (hG _ _ rfl) (by kernel_rfl) (by kernel_rfl) ((aeR _ _ _).trans ?_)
 have loop:∀(n i m:Nat) (s:StateT),i+n=l.length→i+m=30→Bs (24*i) s→LX G 17 HB Tryz.f17 BL (aY Tryz.prog 17 0) ((l,((i:Int),())),(((((([]:List ag),([]:List ah)),([]:List aq)),()),((s,()),())),()))=some ((jc m (l.drop i) s,()),()):=by
  intro n
  induction n with
  |zero =>
   intro i m s hi hm hb
   have h2:l.drop i=[]:=List.drop_eq_nil_of_le (by omega)
   have h3:jc m (l.drop i) s=s:=by rw[h2];cases m<;>rfl
   rw[h3]
   exact aB (j:=0) (by kernel_rfl) ((Qb _ _ _).trans (aj (decide_eq_false (show ¬((i:Int)<((l.length:Nat):Int)) by omega)) rfl))
  |succ n ih =>
   intro i m s hi hm hb
   refine aB (j:=0) (by kernel_rfl) ((Qb _ _ _).trans ?_)
   have aM:i<l.length:=by omega
   refine ae (bm aM) ?_
   cases m with
   |zero=>exact aj (decide_eq_false (show ¬((i:Int)<30) by omega)) rfl
   |succ m =>
    refine ae (decide_eq_true (show((i:Int)<30) by omega)) ?_
    have h2:l.drop i=l[i]::l.drop (i+1):=List.drop_eq_getElem_cons aM
    have hx:l[i]? = some l[i]:=List.getElem?_eq_getElem aM
    have hlen:(l[i].take 8).length≤8:=by simp;omega
    rw[h2,jc]
    refine aa (aR hx) ?_
    refine aa (agA (hG _ _ rfl) l[i]) ?_
    refine aa (agJ hG s (l[i].take 8) hb (by omega) (fun o ho=>ht l[i] (List.getElem_mem aM) o (List.mem_of_mem_take ho))) ?_
    rw[aN aM hl]
    have vj:Bs (24*i+3*(l[i].take 8).length) (wi s (l[i].take 8)):=hb.try
    exact ih (i+1) m (wi s (l[i].take 8)) (by omega) (by omega) (vj.mono (by omega))
 exact loop l.length 0 30 zS (by omega) (by omega) (Bs.zero _)
end Go.Vs
