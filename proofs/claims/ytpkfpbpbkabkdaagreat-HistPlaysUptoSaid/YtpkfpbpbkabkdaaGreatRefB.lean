/- What the document's reference -/
import Derived.Test.YtpkfpbpbkabkdaaGreatRefA
set_option linter.unusedVariables false
set_option linter.unusedSimpArgs false
namespace Go.Vs
open Go.Proofs
variable {G:(f:FuncId)→(g:aL)→Option (g.A→Option g.B)}
def zd(x:ID):List ag→Int→Int
 |[],_ => -1
 |v::r,i=>if v.1=x then i else zd x r (i+1)
theorem J3(x:ID):∀(l:List ag) (i:Int),0≤i→zd x l i = -1∨(i≤zd x l i∧zd x l i<i+l.length)
 |[],i,_=>.inl rfl
 |v::r,i,h=>by
  unfold zd
  split
  ·right;simp;omega
  ·rcases J3 x r (i+1) (by omega) with h|h
   ·exact .inl h
   ·right;simp;omega
theorem abv(hG:G 217 CM=none)(d:aj)(x:ID)(hs:Sm d):FX G 217 CM ((d,x,()),())=some ((zd x d.1 0,()),()):=by
 have hv:=hs.v;refine aq hG afj ?_;have loop:∀(n i:Nat),i+n=d.1.length→LX G 217 CM Tryz.f217 Bb (aN Tryz.prog 217 0) (((i:Int),()),(((d,()),((x,()),())),()))=some ((zd x (d.1.drop i) i,()),()):=by
  intro n
  induction n with
  |zero =>
   intro i hi;refine au Qg ?_;have h1:¬((i:Int)<(d.1.length:Int)):=by omega
   have h2:d.1.drop i=[]:=adS (by omega);rw[h2];simp only[h1,decide_false];rfl
  |succ n ih =>
   intro i hi;refine au Qg ?_;have aF:i<d.1.length:=by omega
   have h2:d.1.drop i=d.1[i]::d.1.drop (i+1):=adu aF;have hx:d.1[i]? = some d.1[i]:=aci aF;rw[h2,zd];simp only[aX aF,aJ hx,Option.bind_some,jk,aG aF (show d.1.length≤1073741824 by omega)];by_cases he:d.1[i].1=x
   ·have d1:=decide_eq_true he;rw[if_pos he];simp only[d1];rfl
   ·have d1:=decide_eq_false he;rw[if_neg he];simp only[d1];exact ih (i+1) (by omega)
 exact loop d.1.length 0 (by omega)
def Ff(d:aj)(e:ah)(out:List Int):List Int :=
 let a:=zd ((cm d (e.1,0)).getD zI) d.1 0
 let b:=zd ((cm d (e.1,1)).getD zI) d.1 0
 if 0≤a∧0≤b then(out.set a.toNat (min (out.getD a.toNat 0) (out.getD b.toNat 0))).set b.toNat (min (out.getD a.toNat 0) (out.getD b.toNat 0)) else out
def jq(d:aj):List ah→List Int→List Int
 |[],out=>out
 |e::r,out=>jq d r (Ff d e out)
def HM(d:aj):Nat→List Int→List Int
 |0,out=>out
 |n+1,out=>HM d n (jq d d.2 out)
def CR(n:Nat):List Int:=(List.range n).map fun i=>((i:Nat):Int)
def labels(d:aj):List Int:=HM d d.1.length (CR d.1.length)
theorem HN(d:aj)(e:ah)(out:List Int):(Ff d e out).length=out.length:=by unfold Ff;simp only;split<;>simp
theorem vj(d:aj):∀(l:List ah) (out:List Int),(jq d l out).length=out.length
 |[],out=>rfl
 |e::r,out=>by rw[jq,vj d r,HN]
theorem xX(d:aj):∀(n:Nat) (out:List Int),(HM d n out).length=out.length
 |0,out=>rfl
 |n+1,out=>by rw[HM,xX d n,vj]
theorem CS(d:aj):(labels d).length=d.1.length:=by unfold labels;rw[xX];simp[CR]
theorem Xl(hG:HG G)(d:aj)(hs:Sm d)(n:Int)(R:List Int→List Int) (hR:∀out:List Int,out.length=d.1.length→LX G 193 rX Tryz.f193 wu (aN Tryz.prog 193 1) ((IntKind.wrap .i64 (n+1),()),(((d,()),()),(out,())))=some ((R out,()),())) :
  ∀out:List Int,out.length=d.1.length→LX G 193 rX Tryz.f193 qF (aN Tryz.prog 193 2) ((n,((0:Int),())),(((d,()),()),(out,())))=some ((R (jq d d.2 out),()),()):=by
 have hv:=hs.v;have he:=hs.e;have loop:∀(m i:Nat) (out:List Int),i+m=d.2.length→out.length=d.1.length→LX G 193 rX Tryz.f193 qF (aN Tryz.prog 193 2) ((n,((i:Int),())),(((d,()),()),(out,())))=some ((R (jq d (d.2.drop i) out),()),()):=by
  intro m
  induction m with
  |zero =>
   intro i out hi ho;have h1:¬((i:Int)<(d.2.length:Int)):=by omega
   have h2:d.2.drop i=[]:=adS (by omega);rw[h2,jq];refine au Qj ?_;simp only[h1,decide_false];exact hR out ho
  |succ m ih =>
   intro i out hi ho;have aF:i<d.2.length:=by omega
   have h2:d.2.drop i=d.2[i]::d.2.drop (i+1):=adu aF;have hx:d.2[i]? = some d.2[i]:=aci aF;rw[h2,jq];generalize d.2[i]=e at *;refine au Qj ?_;simp only[aX aF,aJ hx,Option.bind_some,aG aF (show d.2.length≤1073741824 by omega)];refine aa (HK hG d (e.1,0) (by omega) (fun w hw=>by have:=hs.r w hw;omega)) ?_;refine aa (HK hG d (e.1,1) (by omega) (fun w hw=>by have:=hs.r w hw;omega)) ?_;rw[show(pz zI (cm d (e.1,0))).1=(cm d (e.1,0)).getD zI from jS _ _,show(pz zI (cm d (e.1,1))).1=(cm d (e.1,1)).getD zI from jS _ _];refine aa (abv (hG _ _ rfl) d ((cm d (e.1,0)).getD zI) hs) ?_;refine aa (abv (hG _ _ rfl) d ((cm d (e.1,1)).getD zI) hs) ?_;have hL:Ff d e out=(if 0≤zd ((cm d (e.1,0)).getD zI) d.1 0∧0≤zd ((cm d (e.1,1)).getD zI) d.1 0 then(out.set (zd ((cm d (e.1,0)).getD zI) d.1 0).toNat (min (out.getD (zd ((cm d (e.1,0)).getD zI) d.1 0).toNat 0) (out.getD (zd ((cm d (e.1,1)).getD zI) d.1 0).toNat 0))).set (zd ((cm d (e.1,1)).getD zI) d.1 0).toNat (min (out.getD (zd ((cm d (e.1,0)).getD zI) d.1 0).toNat 0) (out.getD (zd ((cm d (e.1,1)).getD zI) d.1 0).toNat 0)) else out):=rfl;have ha:=J3 ((cm d (e.1,0)).getD zI) d.1 0 (by omega);have hb:=J3 ((cm d (e.1,1)).getD zI) d.1 0 (by omega);generalize zd ((cm d (e.1,0)).getD zI) d.1 0=a at *;generalize zd ((cm d (e.1,1)).getD zI) d.1 0=b at *;by_cases h3:0≤a
   case neg =>
    have d3:decide (a≥0)=false:=decide_eq_false h3;rw[hL,if_neg (by omega)];simp only[d3];exact ih (i+1) out (by omega) ho
   have d3:decide (a≥0)=true:=decide_eq_true h3;by_cases h4:0≤b
   case neg =>
    have d4:decide (b≥0)=false:=decide_eq_false h4;rw[hL,if_neg (by omega)];simp only[d3,d4];exact ih (i+1) out (by omega) ho
   have d4:decide (b≥0)=true:=decide_eq_true h4;rw[if_pos ⟨h3,h4⟩]at hL;have hal:a.toNat<out.length:=by omega
   have hbl:b.toNat<out.length:=by omega
   have xa:out[a.toNat]? = some out[a.toNat]:=aci hal;have xb:out[b.toNat]? = some out[b.toNat]:=aci hbl;have ga:out.getD a.toNat 0=out[a.toNat]:=by simp[List.getD,xa]
   have gb:out.getD b.toNat 0=out[b.toNat]:=by simp[List.getD,xb]
   rw[ga,gb]at hL;generalize out[a.toNat]=p at *;generalize out[b.toNat]=q at *;have d5:decide ((0:Int)≤a)=true:=decide_eq_true h3;have d6:decide ((0:Int)≤b)=true:=decide_eq_true h4;have d7:decide (a<((out.length:Nat):Int))=true:=decide_eq_true (by omega);have d8:decide (b<((out.length:Nat):Int))=true:=decide_eq_true (by omega);have hbs:b.toNat<(out.set a.toNat (min p q)).length:=by simpa using hbl
   have d9:decide (b<(((out.set a.toNat (min p q)).length:Nat):Int))=true:=decide_eq_true (by simp;omega);have xs:(out.set a.toNat (min p q))[b.toNat]? = some (out.set a.toNat (min p q))[b.toNat]:=aci hbs;simp only[d3,d4,d5,d6,d7,d8,Bool.and_self,xa,xb,Option.bind_some,d9,xs];rw[hL];exact ih (i+1) ((out.set a.toNat (min p q)).set b.toNat (min p q)) (by omega) (by simp[ho])
 intro out ho;exact loop d.2.length 0 out (by omega) ho
theorem agv(hG:HG G)(d:aj)(hs:Sm d):FX G 193 rX ((d,()),())=some ((labels d,()),()):=by
 have hv:=hs.v;refine aq (hG _ _ rfl) afk ?_;have l1:∀(n i:Nat) (out:List Int),i+n=d.1.length→out.length=d.1.length→LX G 193 rX Tryz.f193 wu (aN Tryz.prog 193 1) (((i:Int),()),(((d,()),()),(out,())))=some ((HM d n out,()),()):=by
  intro n
  induction n with
  |zero =>
   intro i out hi ho;refine au Qi ?_;have h1:¬((i:Int)<(d.1.length:Int)):=by omega
   simp only[h1,decide_false];rfl
  |succ n ih =>
   intro i out hi ho;refine au Qi ?_;have aF:i<d.1.length:=by omega
   simp only[aX aF];exact Xl hG d hs (i:Int) (HM d n) (fun out ho=>by rw[aG aF (show d.1.length≤1073741824 by omega)];exact ih (i+1) out (by omega) ho) out ho
 have l0:∀(n i:Nat) (out:List Int),i+n=d.1.length→out=CR i→LX G 193 rX Tryz.f193 Bc (aN Tryz.prog 193 0) (((i:Int),()),(((d,()),()),(out,())))=some ((labels d,()),()):=by
  intro n
  induction n with
  |zero =>
   intro i out hi ho;refine au Qh ?_;have h1:¬((i:Int)<(d.1.length:Int)):=by omega
   have sX:i=d.1.length:=by omega
   subst sX;simp only[h1,decide_false];have:=l1 d.1.length 0 out (by omega) (by rw[ho];simp[CR]);rw[ho]at this ⊢;exact this
  |succ n ih =>
   intro i out hi ho;refine au Qh ?_;have aF:i<d.1.length:=by omega
   have h6:aK out.length [(i:Int)].length=true:=fits (by rw[ho];simp[CR];omega);simp only[aX aF,h6,aG aF (show d.1.length≤1073741824 by omega)];exact ih (i+1) (out++[(i:Int)]) (by omega) (by rw[ho];simp[CR,List.range_succ])
 exact l0 d.1.length 0 [] (by omega) (by simp[CR])
def oT:List Int→Int→Int→Int
 |[],_,n=>n
 |x::r,i,n=>oT r (i+1) (if x=i then IntKind.wrap .i64 (n+1) else n)
def eF(d:aj):Int:=oT (labels d) 0 0
theorem agw(hG:HG G)(d:aj)(hs:Sm d):FX G 165 GN ((d,()),())=some ((eF d,()),()):=by
 have hv:=hs.v;have hl:=CS d;refine aq (hG _ _ rfl) ae1 ?_;refine aa (agv hG d hs) ?_;unfold eF;generalize labels d=l at *;have loop:∀(m i:Nat) (n:Int),i+m=l.length→LX G 165 GN Tryz.f165 wm (aN Tryz.prog 165 0) ((n,((i:Int),())),((),(l,())))=some ((oT (l.drop i) i n,()),()):=by
  intro m
  induction m with
  |zero =>
   intro i n hi;refine au P3 ?_;have h1:¬((i:Int)<(l.length:Int)):=by omega
   have h2:l.drop i=[]:=adS (by omega);rw[h2];simp only[h1,decide_false];rfl
  |succ m ih =>
   intro i n hi;refine au P3 ?_;have aF:i<l.length:=by omega
   have h2:l.drop i=l[i]::l.drop (i+1):=adu aF;have hx:l[i]? = some l[i]:=aci aF;rw[h2,oT];simp only[aX aF,eQ,Bool.and_self,Int.toNat_natCast,hx,Option.bind_some,aG aF (show l.length≤1073741824 by omega)];by_cases he:l[i]=(i:Int)
   ·have d1:(l[i]==(i:Int))=true:=by simp[he]
    rw[if_pos he];simp only[d1];exact ih (i+1) _ (by omega)
   ·have d1:(l[i]==(i:Int))=false:=by simp[he]
    rw[if_neg he];simp only[d1];exact ih (i+1) _ (by omega)
 exact loop l.length 0 0 (by omega)
def qL:List ag→Int→Int
 |[],n=>n
 |v::r,n=>qL r (if v.2.1.length=0 then IntKind.wrap .i64 (n+1) else n)
def BB(d:aj):Int:=qL d.1 ((((cO d).length:Nat)):Int)
theorem agx(hG:HG G)(d:aj)(hs:Sm d)(he:d.2.length≤5000000):FX G 136 EV ((d,()),())=some ((((d.1.length:Nat):Int),(((d.2.length:Nat):Int),(BB d,(eF d,())))),()):=by
 have hv:=hs.v;refine aq (hG _ _ rfl) afI ?_;refine aa (agt hG d hs he) ?_;unfold BB;show LX G 136 EV Tryz.f136 tq (aN Tryz.prog 136 0) ((lI (cO d),((0:Int),())),(((d,()),()),()))=_;unfold lI;generalize (((cO d).length:Nat):Int)=f0;have key:=bV d.1 (fun i (n:Int)=>LX G 136 EV Tryz.f136 tq (aN Tryz.prog 136 0) ((n,(i,())),(((d,()),()),()))) (fun(r:List ag) (n:Int)=>((((d.1.length:Nat):Int),(((d.2.length:Nat):Int),(qL r n,(eF d,())))),())) (fun _ _=>True) (fun n _=>by refine au Qt ?_;simp only[dp];exact aa (agw hG d hs) rfl) (fun i y r n hi hx BA _ ih=>by
   refine au Qt ?_;simp only[aX hi,aJ hx,Option.bind_some,aG hi (show d.1.length≤1073741824 by omega)];by_cases he:y.2.1.length=0
   ·have d1:((((y.2.1.length:Nat)):Int)==0)=true:=by simp[he]
    simp only[d1,qL,if_pos he];exact ih _ trivial
   ·have d1:((((y.2.1.length:Nat)):Int)==0)=false:=by simp;intro e;rw[e]at he;simp at he
    simp only[d1,qL,if_neg he];exact ih _ trivial)
  f0 trivial
 exact key
def jc(d:aj):Int:=IntKind.wrap .i64 (Int.tdiv (IntKind.wrap .i64 (IntKind.wrap .i64 (IntKind.wrap .i64 (IntKind.wrap .i64 (2*eF d)-((d.1.length:Nat):Int))+((d.2.length:Nat):Int))-BB d)) 2)
theorem agy(hG:HG G)(d:aj)(hs:Sm d)(he:d.2.length≤5000000):FX G 107 GW ((d,()),())=some ((jc d,()),()):=by refine aq (hG _ _ rfl) afr ?_;exact aa (agx hG d hs he) rfl
theorem T5{s:ByteArray}{i:Nat}{c:UInt8}(h:s.data.toList[i]? = some c):(if(0:Int)≤(i:Int) then s[Int.toNat (i:Int)]? else none)=some c:=by
 have hi:i<s.size:=by have:=(ack.1 h).1;simpa using this
 rw[if_pos (by omega),Int.toNat_natCast,getElem?_pos s i hi];have h2:=(ack.1 h).2;rw[←h2];rfl
def ke(c:UInt8):Bool:=decide (32≤c.toNat)&&decide (c.toNat≤126)
def yw(s:ByteArray):Bool:=s.data.toList.all ke&&decide (s.size≤16)
theorem agz(hG:G 91 EM=none)(s:ByteArray)(hs:s.size≤100000000):FX G 91 EM ((s,()),())=some ((yw s,()),()):=by
 refine aq hG aeX ?_;have hl:s.data.toList.length=s.size:=by simp
 have key:=bV s.data.toList (fun i (_:Unit)=>LX G 91 EM Tryz.f91 A5 (aN Tryz.prog 91 0) ((s,(i,())),((),()))) (fun(r:List UInt8) (_:Unit)=>((r.all ke&&decide (s.size≤16),()),())) (fun _ _=>True) (fun _ _=>by
   refine au P1 ?_;rw[hl];have h2:decide (((s.size:Nat):Int)≤16)=decide (s.size≤16):=by rw[Bool.eq_iff_iff];simp;omega
   simp only[dp,h2,List.all_nil,Bool.true_and];rfl)
  (fun i c r _ hi hx BA _ ih=>by
   refine au P1 ?_;rw[hl]at hi;have hb:=T5 hx;simp only[aX hi,hb,Option.bind_some,aG hi (show s.size≤1073741824 by omega)];by_cases h1:c.toNat<32
   ·have d1:decide (((c.toNat:Nat):Int)<32)=true:=decide_eq_true (by omega);have d2:ke c=false:=by unfold ke;simp;omega
    simp only[d1,List.all_cons,d2,Bool.false_and];rfl
   ·have d1:decide (((c.toNat:Nat):Int)<32)=false:=decide_eq_false (by omega);by_cases h2:126<c.toNat
    ·have d2:decide (((c.toNat:Nat):Int)>126)=true:=decide_eq_true (by omega);have d3:ke c=false:=by unfold ke;simp;omega
     simp only[d1,d2,List.all_cons,d3,Bool.false_and];rfl
    ·have d2:decide (((c.toNat:Nat):Int)>126)=false:=decide_eq_false (by omega);have d3:ke c=true:=by unfold ke;simp;omega
     simp only[d1,d2,List.all_cons,d3,Bool.true_and];exact ih () trivial)
  () trivial
 exact key
def rZ(n:Int):Bool:=decide (-1099511627776≤n∧n≤1099511627776)
theorem agA(hG:G 90 MO=none)(n:Int):FX G 90 MO ((n,()),())=some ((rZ n,()),()):=by refine aq hG aeY ?_;show(cond (decide (n≥-1099511627776)) (some ((decide (n≤1099511627776),()),())) (some ((false,()),())):Option ((Bool×Unit)×Unit))=some ((rZ n,()),());unfold rZ;by_cases h1 : -1099511627776≤n<;>simp[h1]
def yx(c:pq):Bool:=cW c.1&&(J2 c.2 || decide (c.2=zD))
theorem abw(hG:HG G)(c:pq):FX G 89 MT ((c,()),())=some ((yx c,()),()):=by
 refine aq (hG _ _ rfl) afu ?_;refine aa (Ng (hG _ _ rfl) c.1) ?_;refine aa (agk hG c.2) ?_;have hb:(((c.2.1.1==(0:Int))&&(c.2.1.2==(0:Int)))&&(c.2.2==(0:Int)))=decide (c.2=zD):=kz c.2 zD;unfold yx;simp only[hb]
 cases h1:cW c.1<;>cases h2:J2 c.2<;>rfl
def Vz:aY:=(0,(zI,(zI,(zI,(zC,(zC,(false,(e0,0))))))))
def sK(o:aY):aY :=if o.1=3 then(0,(zI,(o.2.2.1,(o.2.2.2.1,(zC,(zC,(o.2.2.2.2.2.2.1,o.2.2.2.2.2.2.2)))))))
 else if o.1=5 then(0,(zI,(zI,(zI,(o.2.2.2.2.1,(o.2.2.2.2.2.1,(o.2.2.2.2.2.2.1,(o.2.2.2.2.2.2.2.1,0))))))))
 else if o.1=6 then(0,(zI,(o.2.2.1,(zI,(o.2.2.2.2.1,(o.2.2.2.2.2.1,(o.2.2.2.2.2.2.1,o.2.2.2.2.2.2.2)))))))
 else if o.1=7 then(0,(zI,(o.2.2.1,(o.2.2.2.1,(o.2.2.2.2.1,(o.2.2.2.2.2.1,(false,(e0,o.2.2.2.2.2.2.2.2))))))))
 else if o.1=8 then(0,(zI,(o.2.2.1,(o.2.2.2.1,(o.2.2.2.2.1,(o.2.2.2.2.2.1,(false,(o.2.2.2.2.2.2.2.1,0))))))))
 else(0,(zI,(o.2.2.1,(o.2.2.2.1,(o.2.2.2.2.1,(o.2.2.2.2.2.1,(o.2.2.2.2.2.2.1,o.2.2.2.2.2.2.2)))))))
theorem agB(hG:G 88 MS=none)(o:aY):FX G 88 MS ((o,()),())=some ((sK o,()),()):=by
 refine aq hG aft ?_;unfold sK;by_cases h3:o.1=3
 ·have d:(o.1==(3:Int))=true:=by simp[h3]
  rw[if_pos h3];simp only[d];rfl
 have d3:(o.1==(3:Int))=false:=by simp[h3]
 rw[if_neg h3];by_cases h5:o.1=5
 ·have d:(o.1==(5:Int))=true:=by simp[h5]
  rw[if_pos h5];simp only[d3,d];rfl
 have d5:(o.1==(5:Int))=false:=by simp[h5]
 rw[if_neg h5];by_cases h6:o.1=6
 ·have d:(o.1==(6:Int))=true:=by simp[h6]
  rw[if_pos h6];simp only[d3,d5,d];rfl
 have d6:(o.1==(6:Int))=false:=by simp[h6]
 rw[if_neg h6];by_cases h7:o.1=7
 ·have d:(o.1==(7:Int))=true:=by simp[h7]
  rw[if_pos h7];simp only[d3,d5,d6,d];rfl
 have d7:(o.1==(7:Int))=false:=by simp[h7]
 rw[if_neg h7];by_cases h8:o.1=8
 ·have d:(o.1==(8:Int))=true:=by simp[h8]
  rw[if_pos h8];simp only[d3,d5,d6,d7,d];rfl
 have d8:(o.1==(8:Int))=false:=by simp[h8]
 rw[if_neg h8];simp only[d3,d5,d6,d7,d8];rfl
def vl(x y:aY):Bool :=(x.1==y.1)&&(((x.2.1.1==y.2.1.1)&&(x.2.1.2==y.2.1.2))&&(((x.2.2.1.1==y.2.2.1.1)&&(x.2.2.1.2==y.2.2.1.2))&&(((x.2.2.2.1.1==y.2.2.2.1.1)&&(x.2.2.2.1.2==y.2.2.2.1.2)) && ((((x.2.2.2.2.1.1.1==y.2.2.2.2.1.1.1)&&(x.2.2.2.2.1.1.2==y.2.2.2.2.1.1.2))&&(((x.2.2.2.2.1.2.1.1==y.2.2.2.2.1.2.1.1)&&(x.2.2.2.2.1.2.1.2==y.2.2.2.2.1.2.1.2))&&(x.2.2.2.2.1.2.2==y.2.2.2.2.1.2.2))) && ((((x.2.2.2.2.2.1.1.1==y.2.2.2.2.2.1.1.1)&&(x.2.2.2.2.2.1.1.2==y.2.2.2.2.2.1.1.2))&&(((x.2.2.2.2.2.1.2.1.1==y.2.2.2.2.2.1.2.1.1)&&(x.2.2.2.2.2.1.2.1.2==y.2.2.2.2.2.1.2.1.2))&&(x.2.2.2.2.2.1.2.2==y.2.2.2.2.2.1.2.2))) && ((x.2.2.2.2.2.2.1==y.2.2.2.2.2.2.1)&&((x.2.2.2.2.2.2.2.1==y.2.2.2.2.2.2.2.1)&&(x.2.2.2.2.2.2.2.2==y.2.2.2.2.2.2.2.2))))))))
theorem vm(x y:aY):vl x y=true↔x=y:=by obtain⟨x1,⟨x2,x3⟩,⟨x4,x5⟩,⟨x6,x7⟩,⟨⟨x8,x9⟩,⟨x10,x11⟩,x12⟩,⟨⟨x13,x14⟩,⟨x15,x16⟩,x17⟩,x18,x19,x20⟩:=x;obtain⟨y1,⟨y2,y3⟩,⟨y4,y5⟩,⟨y6,y7⟩,⟨⟨y8,y9⟩,⟨py,kN⟩,pQ⟩,⟨⟨kO,CP⟩,⟨tN,N6⟩,Qc⟩,TE,Qo,DH⟩:=y;unfold vl;simp only[Xe];simp[and_assoc]
theorem bj{α:Type}{c b:Bool}{x y r:α}(h:c=b)(k:cond (not b) x y=r):cond (not c) x y=r:=by subst h;exact k
def cj(o:aY):Int :=if o.1<1 then 1 else if 8<o.1 then 1 else if cW o.2.1=false then 1 else if vl (sK o) Vz=false then 1
 else if o.1=3 then(if yx o.2.2.2.2.1=true∧yx o.2.2.2.2.2.1=true then 0 else 1)
 else if o.1=5 then(if cW o.2.2.1=true∧cW o.2.2.2.1=true∧0≤o.2.2.2.2.2.2.2.2∧o.2.2.2.2.2.2.2.2≤3 then 0 else 1)
 else if o.1=6 then(if cW o.2.2.2.1=true then 0 else 1)
 else if o.1=8 then(if rZ o.2.2.2.2.2.2.2.2=true then 0 else 1)
 else if o.1=7 then(if yw o.2.2.2.2.2.2.2.1=true then 0 else 4)
 else 0
def I1(n:Int):Option ((Int×Unit)×Unit):=some ((n,()),())
theorem abx(hG:HG G)(o:aY)(ht:o.2.2.2.2.2.2.2.1.size≤100000000):FX G 46 MP ((o,()),())=some ((cj o,()),()):=by
 refine aq (hG _ _ rfl) ae9 ?_;refine aa (Ng (hG _ _ rfl) o.2.1) ?_;unfold cj;by_cases h1:o.1<1
 ·rw[if_pos h1];have d:=decide_eq_true h1;simp only[d];rfl
 rw[if_neg h1];have d1:=decide_eq_false h1;by_cases h2:8<o.1
 ·rw[if_pos h2];have d:decide (o.1>8)=true:=decide_eq_true h2;simp only[d1,d];rfl
 rw[if_neg h2];have d2:decide (o.1>8)=false:=decide_eq_false h2
 cases hm:cW o.2.1
 ·rw[if_pos rfl];simp only[d1,d2];rfl
 rw[if_neg (by simp)];simp only[d1,d2];refine aa (agB (hG _ _ rfl) o) ?_;refine bj (b:=vl (sK o) Vz) rfl ?_
 cases he:vl (sK o) Vz
 ·rw[if_pos rfl];rfl
 rw[if_neg (by simp)];by_cases h3:o.1=3
 ·rw[if_pos h3];have d:(o.1==(3:Int))=true:=by simp[h3]
  simp only[d];refine aa (abw hG o.2.2.2.2.1) ?_;refine aa (abw hG o.2.2.2.2.2.1) ?_
  cases hc:yx o.2.2.2.2.1<;>cases oa:yx o.2.2.2.2.2.1<;>rfl
 rw[if_neg h3];have d3:(o.1==(3:Int))=false:=by simp[h3]
 by_cases h5:o.1=5
 ·rw[if_pos h5];have d:(o.1==(5:Int))=true:=by simp[h5]
  simp only[d3,d];refine aa (Ng (hG _ _ rfl) o.2.2.1) ?_;refine aa (Ng (hG _ _ rfl) o.2.2.2.1) ?_
  cases hc:cW o.2.2.1
  ·rw[if_neg (by simp)];rfl
  cases oa:cW o.2.2.2.1
  ·rw[if_neg (by simp)];rfl
  by_cases h6:o.2.2.2.2.2.2.2.2<0
  ·have d6:=decide_eq_true h6;rw[if_neg (by omega)];simp only[d6];rfl
  have d6:=decide_eq_false h6;by_cases h7:o.2.2.2.2.2.2.2.2>3
  ·have d7:=decide_eq_true h7;rw[if_neg (by omega)];simp only[d6,d7];rfl
  have d7:=decide_eq_false h7;rw[if_pos ⟨rfl,rfl,by omega,by omega⟩];simp only[d6,d7];rfl
 rw[if_neg h5];have d5:(o.1==(5:Int))=false:=by simp[h5]
 by_cases h6:o.1=6
 ·rw[if_pos h6];have d:(o.1==(6:Int))=true:=by simp[h6]
  simp only[d3,d5,d];refine aa (Ng (hG _ _ rfl) o.2.2.2.1) ?_
  cases hc:cW o.2.2.2.1<;>rfl
 rw[if_neg h6];have d6:(o.1==(6:Int))=false:=by simp[h6]
 by_cases h8:o.1=8
 ·rw[if_pos h8];have d:(o.1==(8:Int))=true:=by simp[h8]
  simp only[d3,d5,d6,d];refine aa (agA (hG _ _ rfl) o.2.2.2.2.2.2.2.2) ?_
  cases hc:rZ o.2.2.2.2.2.2.2.2<;>rfl
 rw[if_neg h8];have d8:(o.1==(8:Int))=false:=by simp[h8]
 by_cases h7:o.1=7
 ·rw[if_pos h7];have d:(o.1==(7:Int))=true:=by simp[h7]
  simp only[d3,d5,d6,d8,d];refine aa (agz (hG _ _ rfl) o.2.2.2.2.2.2.2.1 (by omega)) ?_
  cases hc:yw o.2.2.2.2.2.2.2.1<;>rfl
 rw[if_neg h7];have d7:(o.1==(7:Int))=false:=by simp[h7]
 simp only[d3,d5,d6,d8,d7];rfl
def tB(o:aY):Prop:=o.2.2.2.2.2.2.2.1.size≤100000000
def gT:List aY→Int
 |[]=>0
 |o::r=>if cj o≠0 then cj o else gT r
def cg(l:List aY):Int:=if 1≤l.length∧l.length≤6 then gT l else 3
theorem aby(hG:HG G)(l:List aY)(ht:∀o∈l,tB o):FX G 69 EN ((l,()),())=some ((cg l,()),()):=by
 refine aq (hG _ _ rfl) ae6 ?_;unfold cg;by_cases h1:l.length<1
 ·have d:decide (((l.length:Nat):Int)<1)=true:=decide_eq_true (by omega);rw[if_neg (by omega)];simp only[d];rfl
 have d1:decide (((l.length:Nat):Int)<1)=false:=decide_eq_false (by omega);by_cases h2:6<l.length
 ·have d:decide (((l.length:Nat):Int)>6)=true:=decide_eq_true (by omega);rw[if_neg (by omega)];simp only[d1,d];rfl
 have d2:decide (((l.length:Nat):Int)>6)=false:=decide_eq_false (by omega);rw[if_pos (by omega)];simp only[d1,d2];have key:=bV l (fun i (_:Unit)=>LX G 69 EN Tryz.f69 A8 (aN Tryz.prog 69 0) ((i,()),(((l,()),()),()))) (fun(r:List aY) (_:Unit)=>((gT r,()),())) (fun _ _=>True) (fun _ _=>by refine au P6 ?_;simp only[dp];rfl) (fun i o r _ hi hx BA _ ih=>by
   refine au P6 ?_;simp only[aX hi,aJ hx,Option.bind_some,aG hi (show l.length≤1073741824 by omega)];refine aa (abx hG o (ht o (adj hx))) ?_;rw[gT];by_cases h:cj o=0
   ·have d:(cj o != 0)=false:=by simp[h]
    rw[if_neg (by simp[h])];simp only[d];exact ih () trivial
   ·have d:(cj o != 0)=true:=by simp[h]
    rw[if_pos h];simp only[d];rfl)
  () trivial
 exact key
theorem ae{α:Type}{c:Bool}{x y r:α}(h:c=true)(k:x=r):cond c x y=r:=by subst h;exact k
theorem af{α:Type}{c:Bool}{x y r:α}(h:c=false)(k:y=r):cond c x y=r:=by subst h;exact k
theorem db{a b:Bool}(h:a=true)(k:b=true):(a&&b)=true:=by rw[h,k];rfl
def zS:StateT:=(([],[]),[])
abbrev aW(o:aY):ID:=o.2.1
abbrev eL(o:aY):ID:=o.2.2.1
abbrev ba(o:aY):ID:=o.2.2.2.1
abbrev oA(o:aY):pq:=o.2.2.2.2.1
abbrev oB(o:aY):pq:=o.2.2.2.2.2.1
abbrev mV(o:aY):Bool:=o.2.2.2.2.2.2.1
abbrev nO(o:aY):ByteArray:=o.2.2.2.2.2.2.2.1
abbrev oN(o:aY):Int:=o.2.2.2.2.2.2.2.2
def iH(o:aY)(w:ag):ag:=if mV o=false∧w.1=aW o then(if o.1=7 then(w.1,(w.2.1,(nO o,w.2.2.2))) else(w.1,(w.2.1,(w.2.2.1,oN o)))) else w
def jE(o:aY)(w:ah):ah:=if mV o=true∧w.1=aW o then(if o.1=7 then(w.1,(nO o,w.2.2)) else(w.1,(w.2.1,oN o))) else w
def HO(o:aY)(l:List ag):Bool := !(mV o)&&l.any fun w=>decide (w.1=aW o)
def Fg(o:aY)(l:List ah):Bool:=mV o&&l.any fun w=>decide (w.1=aW o)
def wH(s:StateT)(o:aY):StateT×(Int×Unit) :=if HO o s.1.1 || Fg o s.1.2 then(((s.1.1.map (iH o),s.1.2.map (jE o)),s.2),(0,())) else(zS,(13,()))
theorem Xm(s:StateT)(o:aY)(vs:List ag)(hs:Sm s.1):∀(n i:Nat) (fd:Bool) (out fin:List ah),i+n=s.1.2.length→out=(s.1.2.take i).map (jE o)++s.1.2.drop i→fin=s.1.2.map (jE o) → LX G 86 AH Tryz.f86 qE (aN Tryz.prog 86 1) ((fd,((i:Int),())),(((s,()),((o,()),((([]:List ag),(([]:List ah),(([]:List aw),()))),((vs,(out,())),())))),())) = some ((if(fd || Fg o (s.1.2.drop i)) then((((vs,fin),s.2),((0:Int),())):StateT×(Int×Unit)) else(zS,(13,()))),()):=by
 have he:=hs.e;intro n
 induction n with
 |zero =>
  intro i fd out fin hi ho hf;refine au Qe ?_;have TV:out.length=s.1.2.length:=by rw[ho];simp;omega
  have h1:¬((i:Int)<(out.length:Int)):=by omega
  have h2:out=fin:=by rw[ho,hf,List.take_of_length_le (by omega),List.drop_eq_nil_of_le (by omega),List.append_nil]
  have h3:Fg o (s.1.2.drop i)=false:=by rw[List.drop_eq_nil_of_le (by omega)];simp[Fg]
  subst h2;rw[h3];simp only[h1,decide_false]
  cases fd<;>rfl
 |succ n ih =>
  intro i fd out fin hi ho hf;refine au Qe ?_;have TV:out.length=s.1.2.length:=by rw[ho];simp;omega
  have aF:i<s.1.2.length:=by omega
  have hx:s.1.2[i]? = some s.1.2[i]:=aci aF;have hg:out[i]? = some s.1.2[i]:=by rw[ho];exact Fe _ _ _ _ hx
  have h2:s.1.2.drop i=s.1.2[i]::s.1.2.drop (i+1):=adu aF;have wJ:=aX (show i<out.length by omega);have hw:=aG aF (show s.1.2.length≤1073741824 by omega);rw[h2];generalize s.1.2[i]=y at *;have hE:Fg o (y::s.1.2.drop (i+1))=((mV o&&decide (y.1=aW o)) || Fg o (s.1.2.drop (i+1))):=by unfold Fg;cases mV o<;>simp
  rw[hE];refine ae wJ ?_
  cases QU:mV o
  ·have e1:jE o y=y:=by unfold jE;rw[if_neg (by simp[QU])]
   rw[Bool.false_and,Bool.false_or];refine af QU ?_;rw[wI,hw];exact ih (i+1) fd out fin (by omega) (by rw[ho];exact qJ _ _ _ _ hx e1) hf
  ·rw[Bool.true_and];refine ae QU ?_;refine ae (db (eQ i) wJ) ?_;refine aa hg ?_;by_cases hq:y.1=aW o
   ·refine ae ((jk y.1 (aW o)).trans (decide_eq_true hq)) ?_;rw[decide_eq_true hq,Bool.true_or,Bool.or_true,wI,hw];by_cases h7:o.1=7
    ·have e1:jE o y=(y.1,(nO o,y.2.2)):=by unfold jE;rw[if_pos ⟨QU,hq⟩,if_pos h7]
     refine ae (show(o.1==(7:Int))=true by simp[h7]) ?_;refine ae (db (eQ i) wJ) ?_;refine aa hg ?_;have:=ih (i+1) true (out.set i (y.1,(nO o,y.2.2))) fin (by omega) (by rw[ho,←vg _ _ _ _ hx,e1]) hf;rw[Bool.true_or]at this;exact this
    ·have e1:jE o y=(y.1,(y.2.1,oN o)):=by unfold jE;rw[if_pos ⟨QU,hq⟩,if_neg h7]
     refine af (show(o.1==(7:Int))=false by simp[h7]) ?_;refine ae (db (eQ i) wJ) ?_;refine aa hg ?_;have:=ih (i+1) true (out.set i (y.1,(y.2.1,oN o))) fin (by omega) (by rw[ho,←vg _ _ _ _ hx,e1]) hf;rw[Bool.true_or]at this;exact this
   ·have e1:jE o y=y:=by unfold jE;rw[if_neg (fun h=>hq h.2)]
    refine af ((jk y.1 (aW o)).trans (decide_eq_false hq)) ?_;rw[decide_eq_false hq,Bool.false_or,wI,hw];exact ih (i+1) fd out fin (by omega) (by rw[ho];exact qJ _ _ _ _ hx e1) hf
theorem Xn(s:StateT)(o:aY)(hs:Sm s.1):∀(n i:Nat) (fd:Bool) (out fin:List ag),i+n=s.1.1.length→out=(s.1.1.take i).map (iH o)++s.1.1.drop i→fin=s.1.1.map (iH o) → LX G 86 AH Tryz.f86 qD (aN Tryz.prog 86 0) ((fd,((i:Int),())),(((s,()),((o,()),((([]:List ag),(([]:List ah),(([]:List aw),()))),((out,(s.1.2,())),())))),())) = some ((if((fd || HO o (s.1.1.drop i)) || Fg o s.1.2) then((((fin,s.1.2.map (jE o)),s.2),((0:Int),())):StateT×(Int×Unit)) else(zS,(13,()))),()):=by
 have hv:=hs.v;intro n
 induction n with
 |zero =>
  intro i fd out fin hi ho hf;refine au Qd ?_;have TV:out.length=s.1.1.length:=by rw[ho];simp;omega
  have h1:¬((i:Int)<(out.length:Int)):=by omega
  have h2:out=fin:=by rw[ho,hf,List.take_of_length_le (by omega),List.drop_eq_nil_of_le (by omega),List.append_nil]
  have h3:HO o (s.1.1.drop i)=false:=by rw[List.drop_eq_nil_of_le (by omega)];simp[HO]
  subst h2;rw[h3,Bool.or_false];simp only[h1,decide_false];exact Xm s o out hs s.1.2.length 0 fd s.1.2 (s.1.2.map (jE o)) (by omega) (by simp) rfl
 |succ n ih =>
  intro i fd out fin hi ho hf;refine au Qd ?_;have TV:out.length=s.1.1.length:=by rw[ho];simp;omega
  have aF:i<s.1.1.length:=by omega
  have hx:s.1.1[i]? = some s.1.1[i]:=aci aF;have hg:out[i]? = some s.1.1[i]:=by rw[ho];exact Fe _ _ _ _ hx
  have h2:s.1.1.drop i=s.1.1[i]::s.1.1.drop (i+1):=adu aF;have wJ:=aX (show i<out.length by omega);have hw:=aG aF (show s.1.1.length≤1073741824 by omega);rw[h2];generalize s.1.1[i]=y at *;have hE:HO o (y::s.1.1.drop (i+1))=((!(mV o)&&decide (y.1=aW o)) || HO o (s.1.1.drop (i+1))):=by unfold HO;cases mV o<;>simp
  rw[hE];refine ae wJ ?_
  cases QU:mV o
  ·rw[Bool.not_false,Bool.true_and];refine ae (show(!(mV o))=true by rw[QU];rfl) ?_;refine ae (db (eQ i) wJ) ?_;refine aa hg ?_;by_cases hq:y.1=aW o
   ·refine ae ((jk y.1 (aW o)).trans (decide_eq_true hq)) ?_;rw[decide_eq_true hq,Bool.true_or,Bool.or_true,Bool.true_or,wI,hw];by_cases h7:o.1=7
    ·have e1:iH o y=(y.1,(y.2.1,(nO o,y.2.2.2))):=by unfold iH;rw[if_pos ⟨QU,hq⟩,if_pos h7]
     refine ae (show(o.1==(7:Int))=true by simp[h7]) ?_;refine ae (db (eQ i) wJ) ?_;refine aa hg ?_;have:=ih (i+1) true (out.set i (y.1,(y.2.1,(nO o,y.2.2.2)))) fin (by omega) (by rw[ho,←vg _ _ _ _ hx,e1]) hf;rw[Bool.true_or,Bool.true_or]at this;exact this
    ·have e1:iH o y=(y.1,(y.2.1,(y.2.2.1,oN o))):=by unfold iH;rw[if_pos ⟨QU,hq⟩,if_neg h7]
     refine af (show(o.1==(7:Int))=false by simp[h7]) ?_;refine ae (db (eQ i) wJ) ?_;refine aa hg ?_;have:=ih (i+1) true (out.set i (y.1,(y.2.1,(y.2.2.1,oN o)))) fin (by omega) (by rw[ho,←vg _ _ _ _ hx,e1]) hf;rw[Bool.true_or,Bool.true_or]at this;exact this
   ·have e1:iH o y=y:=by unfold iH;rw[if_neg (fun h=>hq h.2)]
    refine af ((jk y.1 (aW o)).trans (decide_eq_false hq)) ?_;rw[decide_eq_false hq,Bool.false_or,wI,hw];exact ih (i+1) fd out fin (by omega) (by rw[ho];exact qJ _ _ _ _ hx e1) hf
  ·have e1:iH o y=y:=by unfold iH;rw[if_neg (by simp[QU])]
   rw[Bool.not_true,Bool.false_and,Bool.false_or];refine af (show(!(mV o))=false by rw[QU];rfl) ?_;rw[wI,hw];exact ih (i+1) fd out fin (by omega) (by rw[ho];exact qJ _ _ _ _ hx e1) hf
theorem agC(hG:HG G)(s:StateT)(o:aY)(hs:Sm s.1):FX G 86 AH ((s,o,()),())=some (wH s o,()):=by have hv:=hs.v;have he:=hs.e;refine aq (hG _ _ rfl) afg ?_;refine aa (abh (hG _ _ rfl) s.1 (by omega) (by omega) (fun w hw=>by have:=hs.r w hw;omega)) ?_;have:=Xn (G:=G) s o hs s.1.1.length 0 false s.1.1 (s.1.1.map (iH o)) (by omega) (by simp) rfl;rw[Bool.false_or]at this;exact this
structure Bd(n:Nat)(d:aj):Prop where
 v:d.1.length≤n
 e:d.2.length≤n
 r:∀w∈d.1,w.2.1.length≤n
theorem Bd.sm{n:Nat}{d:aj}(h:Bd n d)(hn:n≤50000000):Sm d:=⟨by have:=h.v;omega,by have:=h.e;omega,fun w hw=>by have:=h.r w hw;omega⟩
theorem Bd.mono{n m:Nat}{d:aj}(h:Bd n d)(hm:n≤m):Bd m d:=⟨by have:=h.v;omega,by have:=h.e;omega,fun w hw=>by have:=h.r w hw;omega⟩
theorem fW(v:ag):∀l:List ag,(dW v l).length=l.length+1
 |[]=>rfl
 |w::r=>by unfold dW;split<;>simp[fW v r]
theorem kf(v:ah):∀l:List ah,(dq v l).length=l.length+1
 |[]=>rfl
 |w::r=>by unfold dq;split<;>simp[kf v r]
theorem lU{v w:ag}:∀{l:List ag},w∈dW v l↔w=v∨w∈l
 |[]=>by simp[dW]
 |u::r=>by
  unfold dW
  split
  ·simp
  ·simp only[List.mem_cons,lU (l:=r)];exact⟨fun h=>by rcases h with h|h|h<;>simp[h],fun h=>by rcases h with h|h|h<;>simp[h]⟩
theorem nP{v w:ah}:∀{l:List ah},w∈dq v l↔w=v∨w∈l
 |[]=>by simp[dq]
 |u::r=>by
  unfold dq
  split
  ·simp
  ·simp only[List.mem_cons,nP (l:=r)];exact⟨fun h=>by rcases h with h|h|h<;>simp[h],fun h=>by rcases h with h|h|h<;>simp[h]⟩
theorem xY(row:List ab)(a d:ab):(lS row a d).length≤row.length+1:=by
 unfold lS
 split
 ·rw[fU];omega
 ·rw[fU];simp;omega
theorem HP(row:List ab)(d:ab):(gS row d).length≤row.length:=by unfold gS;rw[fU];exact adv _ _
theorem Fh(row:List ab)(a d:ab):(jo row a d).length=row.length:=by unfold jo;rw[fU];split<;>simp
theorem Bd.bJ{n:Nat}{d:aj}(h:Bd n d)(x:ID):(bJ d x).length≤n:=by
 unfold Vs.bJ
 cases hf:bp d x with
 |none=>simp[zV]
 |some v=>exact h.r v (adt hf)
theorem Bd.b8{n:Nat}{d:aj}(h:Bd n d){x:ID}{l:List ab}(hl:l.length≤n):Bd n (b8 d x l):=by
 refine⟨by simp[Vs.b8];exact h.v,h.e,fun w hw=>?_⟩;obtain⟨u,hu,rfl⟩:=adq.1 hw;unfold rG
 split
 ·exact hl
 ·exact h.r u hu
theorem Bd.bN{n:Nat}{d:aj}(h:Bd n d)(c:pq)(x:ab):Bd (n+1) (bN d c x) :=(h.mono (by omega)).b8 (by have:=xY (Vs.bJ d c.1) c.2 x;have:=h.bJ c.1;omega)
theorem Bd.aC{n:Nat}{d:aj}(h:Bd n d)(a x:ab):Bd n (aC d a x) :=h.b8 (by rw[Fh];exact h.bJ _)
theorem Bd.aB{n:Nat}{d:aj}(h:Bd n d)(x:ab):Bd n (aB d x) :=h.b8 (by have:=HP (Vs.bJ d ((cm d x).getD zI)) x;have:=h.bJ ((cm d x).getD zI);omega)
theorem Bd.aS{n:Nat}{d:aj}(h:Bd n d)(v e:ID):Bd n (aS d v e) :=⟨adk (adv _ _) h.v,adk (adv _ _) h.e,fun w hw=>h.r w (adR.1 hw).1⟩
theorem Bd.dW{n:Nat}{d:aj}(h:Bd n d)(v:ag)(hv:v.2.1.length≤n+1):Bd (n+1) (dW v d.1,d.2) :=⟨by rw[fW];have:=h.v;omega,by have:=h.e;simp only;omega,fun w hw=>by
  rcases lU.1 hw with rfl|hw
  ·exact hv
  ·have:=h.r w hw;omega⟩
theorem Bd.dq{n:Nat}{d:aj}(h:Bd n d)(v:ah):Bd (n+1) (d.1,dq v d.2) :=⟨by have:=h.v;simp only;omega,by rw[kf];have:=h.e;omega,fun w hw=>by have:=h.r w hw;omega⟩
theorem xZ(g:aw):∀l:List aw,(kR g l).length≤l.length+1
 |[]=>by simp[kR]
 |e::r=>by
  unfold kR
  split
  ·have:=adv (fun q:aw=>decide (q.1≠g.1)) (e::r);simp[mU];simp at this;omega
  ·have:=xZ g r
   split<;>simp<;>omega
theorem eI(l:List aw)(g:aw):(bK l g).length≤l.length+1:=by
 unfold bK;split
 ·omega
 ·exact xZ g l
def fX(s:StateT)(o:aY):aj :=bN (bN (s.1.1,dq (aW o,(e0,0)) s.1.2) (aZ s (oA o)).1 (aW o,0)) (if(bp s.1 (oB o).1).isSome=true∧(oB o).2=(aW o,0) then oB o else(aZ s (oB o)).1) (aW o,1)
def pC(s:StateT)(o:aY):StateT×(Int×Unit) :=if(gE s.1 (aW o)).isSome=true then(zS,(12,()))
 else if 40≤s.1.2.length then(zS,(3,()))
 else if(aZ s (oA o)).2.1≠0 then(zS,(13,()))
 else if(aZ s (oB o)).2.1≠0 then(zS,(13,()))
 else if jc (fX s o)≠0 then(zS,(15,()))
 else((fX s o,s.2),(0,()))
theorem agD(hG:HG G){n:Nat}(s:StateT)(o:aY)(hs:Bd n s.1)(hn:n≤4000000)(hg:s.2.length≤50000000):FX G 82 PF ((s,o,()),())=some (pC s o,()):=by
  have hv:=hs.v;have he:=hs.e;have T6:=hs.sm (by omega);refine aq (hG _ _ rfl) afc ?_;refine aa (T1 (hG _ _ rfl) s.1 (aW o) (by omega)) ?_;rw[show(pz zE (gE s.1 (aW o))).2.1=(gE s.1 (aW o)).isSome from gZ _ _];unfold pC
  cases h1:(gE s.1 (aW o)).isSome
  case true=>rw[if_pos rfl];rfl
  rw[if_neg (by simp)];by_cases h2:40≤s.1.2.length
  · have d:decide (((s.1.2.length:Nat):Int)≥40)=true:=decide_eq_true (by omega)
    rw[if_pos h2];simp only[d];rfl
  have d2:decide (((s.1.2.length:Nat):Int)≥40)=false:=decide_eq_false (by omega);rw[if_neg h2];simp only[d2];refine aa (abt hG s (oA o) T6 hg) ?_;refine aa (abt hG s (oB o) T6 hg) ?_;refine aa (CQ (hG _ _ rfl) s.1 (oB o).1 (by omega)) ?_;rw[show(pz zV (bp s.1 (oB o).1)).2.1=(bp s.1 (oB o).1).isSome from gZ _ _];have b1:=hs.dq (aW o,(e0,0));have b2:=b1.bN (aZ s (oA o)).1 (aW o,0);have fin:∀(bc:pq),fX s o=bN (bN (s.1.1,dq (aW o,(e0,0)) s.1.2) (aZ s (oA o)).1 (aW o,0)) bc (aW o,1) →(cond ((aZ s (oA o)).2.1 != 0) (some (((([],[]),[]),((13:Int),())),())) (cond ((aZ s (oB o)).2.1 != 0) (some (((([],[]),[]),((13:Int),())),())) ((FX G 115 ym ((s.1,((aW o,(e0,(0:Int))),())),())).bind fun(y5:((aj×Unit)×Unit)) =>(FX G 116 yn ((y5.1.1,((aZ s (oA o)).1,((aW o,(0:Int)),()))),())).bind fun(y6:((aj×Unit)×Unit)) =>(FX G 116 yn ((y6.1.1,(bc,((aW o,(1:Int)),()))),())).bind fun(y7:((aj×Unit)×Unit)) =>(FX G 107 GW ((y7.1.1,()),())).bind fun(y8:((Int×Unit)×Unit)) =>cond (y8.1.1 != (0:Int)) (some (((([],[]),[]),((15:Int),())),())) (some (((y7.1.1,s.2),((0:Int),())),())))):Option ((StateT×(Int×Unit))×Unit)) = some ((if(aZ s (oA o)).2.1≠0 then(zS,(13,())) else if(aZ s (oB o)).2.1≠0 then(zS,(13,())) else if jc (fX s o)≠0 then(zS,(15,())) else((fX s o,s.2),(0,())):StateT×(Int×Unit)),()):=by
    intro bc hbc;by_cases h3:(aZ s (oA o)).2.1=0
    case neg =>
      have d:((aZ s (oA o)).2.1 != 0)=true:=by simp[h3]
      rw[if_pos h3,d];rfl
    rw[if_neg (by simp[h3]),show((aZ s (oA o)).2.1 != 0)=false by simp[h3]];by_cases h4:(aZ s (oB o)).2.1=0
    case neg =>
      have d:((aZ s (oB o)).2.1 != 0)=true:=by simp[h4]
      rw[if_pos h4,d];rfl
    rw[if_neg (by simp[h4]),show((aZ s (oB o)).2.1 != 0)=false by simp[h4]];simp only[cond_false];have b3:=b2.bN bc (aW o,1);rw[←hbc]at b3;refine aa (abj hG s.1 (aW o,(e0,0)) (by omega)) ?_;refine aa (abl hG _ _ _ (b1.sm (by omega))) ?_;refine aa ((abl hG (bN (s.1.1,dq (aW o,(e0,0)) s.1.2) (aZ s (oA o)).1 (aW o,0)) bc (aW o,1) (b2.sm (by omega))).trans (congrArg (fun z:aj=>some ((z,()),())) hbc.symm)) ?_;refine aa (agy hG (fX s o) (b3.sm (by omega)) (by have:=b3.e;omega)) ?_;by_cases h5:jc (fX s o)=0
    · rw[if_neg (by simp[h5])]
      have d:(jc (fX s o) != 0)=false:=by simp[h5]
      simp only[d];rfl
    · rw[if_pos h5]
      have d:(jc (fX s o) != 0)=true:=by simp[h5]
      simp only[d];rfl
  have hb:((((oB o).2.1.1==o.2.1.1)&&((oB o).2.1.2==o.2.1.2))&&((oB o).2.2==(0:Int)))=decide ((oB o).2=(aW o,0)):=kz (oB o).2 (aW o,0);simp only[hb]
  cases h6:(bp s.1 (oB o).1).isSome
  · exact fin (aZ s (oB o)).1 (by unfold fX;rw[if_neg (by simp[h6])])
  · by_cases h7:(oB o).2=(aW o,0)
    · have d:=decide_eq_true h7
      simp only[d];exact fin (oB o) (by unfold fX;rw[if_pos ⟨h6,h7⟩])
    · have d:=decide_eq_false h7
      simp only[d];exact fin (aZ s (oB o)).1 (by unfold fX;rw[if_neg (by simp[h7])])
def Fi(s:StateT)(o:aY):StateT×(Int×Unit) :=if(gE s.1 (aW o)).isSome=false then(zS,(13,()))
 else((aS (aB (aB s.1 (aW o,0)) (aW o,1)) zI (aW o),bK (bK s.2 ((aW o,0),da s.1 (aW o,0))) ((aW o,1),da s.1 (aW o,1))),(0,()))
theorem agE(hG:HG G){n:Nat}(s:StateT)(o:aY)(hs:Bd n s.1)(hn:n≤4000000)(hg:s.2.length≤5000000):FX G 83 PH ((s,o,()),())=some (Fi s o,()):=by
 have hv:=hs.v;have he:=hs.e;have T6:=hs.sm (by omega);refine aq (hG _ _ rfl) afd ?_;refine aa (T1 (hG _ _ rfl) s.1 (aW o) (by omega)) ?_;rw[show(pz zE (gE s.1 (aW o))).2.1=(gE s.1 (aW o)).isSome from gZ _ _];unfold Fi
 cases h1:(gE s.1 (aW o)).isSome
 case false=>rw[if_pos rfl];rfl
 rw[if_neg (by simp)];have b1:=hs.aB (aW o,0);have b2:=b1.aB (aW o,1);have l1:=eI s.2 ((aW o,0),da s.1 (aW o,0));refine aa (abo hG s.1 (aW o,0) T6) ?_;refine aa (T4 hG s.2 ((aW o,0),da s.1 (aW o,0)) (by omega)) ?_;refine aa (abo hG s.1 (aW o,1) T6) ?_;refine aa (T4 hG (bK s.2 ((aW o,0),da s.1 (aW o,0))) ((aW o,1),da s.1 (aW o,1)) (by omega)) ?_;refine aa (abn hG s.1 (aW o,0) T6) ?_;refine aa (abn hG (aB s.1 (aW o,0)) (aW o,1) (b1.sm (by omega))) ?_;exact aa (T2 (hG _ _ rfl) (aB (aB s.1 (aW o,0)) (aW o,1)) zI (aW o) (by have:=b2.v;omega) (by have:=b2.e;omega)) rfl
def IX(o:aY):ab:=(aW o,IntKind.wrap .i64 (1-Int.tmod (oN o) 2))
def FK(o:aY):ab:=(ba o,IntKind.wrap .i64 (Int.tdiv (oN o) 2))
def QV(s:StateT)(o:aY):aj :=(dW (eL o,(cI [IX o,FK o],(e0,0))) (aC s.1 (IX o) (ao (FK o))).1,dq (ba o,(e0,0)) (aC s.1 (IX o) (ao (FK o))).2)
def lV(s:StateT)(o:aY):StateT×(Int×Unit) :=if(gE s.1 (aW o)).isSome=false then(zS,(13,()))
 else if(bp s.1 (eL o)).isSome=true then(zS,(12,()))
 else if(gE s.1 (ba o)).isSome=true then(zS,(12,()))
 else if 24≤s.1.1.length then(zS,(3,()))
 else if 40≤s.1.2.length then(zS,(3,()))
 else((QV s o,s.2),(0,()))
theorem agF(hG:HG G){n:Nat}(s:StateT)(o:aY)(hs:Bd n s.1)(hn:n≤4000000):FX G 84 PI ((s,o,()),())=some (lV s o,()):=by
 have hv:=hs.v;have he:=hs.e;have T6:=hs.sm (by omega);refine aq (hG _ _ rfl) afe ?_;refine aa (T1 (hG _ _ rfl) s.1 (aW o) (by omega)) ?_;rw[show(pz zE (gE s.1 (aW o))).2.1=(gE s.1 (aW o)).isSome from gZ _ _];unfold lV
 cases h1:(gE s.1 (aW o)).isSome
 case false=>rw[if_pos rfl];rfl
 rw[if_neg (by simp)];refine aa (CQ (hG _ _ rfl) s.1 (eL o) (by omega)) ?_;rw[show(pz zV (bp s.1 (eL o))).2.1=(bp s.1 (eL o)).isSome from gZ _ _];refine aa (T1 (hG _ _ rfl) s.1 (ba o) (by omega)) ?_;rw[show(pz zE (gE s.1 (ba o))).2.1=(gE s.1 (ba o)).isSome from gZ _ _]
 cases h2:(bp s.1 (eL o)).isSome
 case true=>rw[if_pos rfl];rfl
 rw[if_neg (by simp)]
 cases h3:(gE s.1 (ba o)).isSome
 case true=>rw[if_pos rfl];rfl
 rw[if_neg (by simp)];by_cases h4:24≤s.1.1.length
 ·have d:decide (((s.1.1.length:Nat):Int)≥24)=true:=decide_eq_true (by omega);rw[if_pos h4];simp only[d];rfl
 have d4:decide (((s.1.1.length:Nat):Int)≥24)=false:=decide_eq_false (by omega);rw[if_neg h4];by_cases h5:40≤s.1.2.length
 ·have d:decide (((s.1.2.length:Nat):Int)≥40)=true:=decide_eq_true (by omega);rw[if_pos h5];simp only[d4,d];rfl
 have d5:decide (((s.1.2.length:Nat):Int)≥40)=false:=decide_eq_false (by omega);rw[if_neg h5];simp only[d4,d5];have d6:((2:Int)==0)=false:=rfl;simp only[d6];have b1:=hs.aC (IX o) (ao (FK o));have b2:=b1.dq (ba o,(e0,0));refine aa (Xf (hG _ _ rfl) (FK o)) ?_;refine aa (abm hG s.1 (IX o) (ao (FK o)) T6) ?_;refine aa (abj hG (aC s.1 (IX o) (ao (FK o))) (ba o,(e0,0)) (by have:=b1.e;omega)) ?_;refine aa (HJ hG [IX o,FK o] (by simp)) ?_;exact aa (abi hG ((aC s.1 (IX o) (ao (FK o))).1,dq (ba o,(e0,0)) (aC s.1 (IX o) (ao (FK o))).2) (eL o,(cI [IX o,FK o],(e0,0))) (adk b1.v (by omega))) rfl
def pS(a b:ab)(i:Int):ab:=if(b.1,i)=ao b then a else zD
def HQ(g:List aw)(a b:ab):List aw:=bK (bK g ((b.1,0),pS a b 0)) ((b.1,1),pS a b 1)
def J4(s:StateT)(o:aY)(a b:ab):aj:=aS (aC (aS s.1 (aW o) zI) (ao b) a) zI b.1
theorem agG(hG:HG G)(g:List aw)(a b:ab)(d:aj)(hg:g.length≤5000000) :
  LX G 85 yl Tryz.f85 lN (aN Tryz.prog 85 0) ((g,((0:Int),())),(((([]:List ag),(([]:List ah),(([]:List aw),()))),((a,()),((b,()),((ao b,()),((d,()),()))))),()))=some (((d,HQ g a b),((0:Int),())),()):=by
 have l2:∀g2:List aw,LX G 85 yl Tryz.f85 lN (aN Tryz.prog 85 0) ((g2,((2:Int),())),(((([]:List ag),(([]:List ah),(([]:List aw),()))),((a,()),((b,()),((ao b,()),((d,()),()))))),()))=some (((d,g2),((0:Int),())),()):=fun g2 =>au Qb (af rfl rfl);have step:∀(i:Int) (g1:List aw) (r:(StateT×(Int×Unit))×Unit),i<2→g1.length≤5000001→LX G 85 yl Tryz.f85 lN (aN Tryz.prog 85 0) ((bK g1 ((b.1,i),pS a b i),(IntKind.wrap .i64 (i+1),())),(((([]:List ag),(([]:List ah),(([]:List aw),()))),((a,()),((b,()),((ao b,()),((d,()),()))))),()))=some r → LX G 85 yl Tryz.f85 lN (aN Tryz.prog 85 0) ((g1,(i,())),(((([]:List ag),(([]:List ah),(([]:List aw),()))),((a,()),((b,()),((ao b,()),((d,()),()))))),()))=some r:=fun i g1 r hi hg1 h=>by
  refine au Qb ?_;refine ae (decide_eq_true hi) ?_;unfold pS at h;by_cases he:((b.1,i):ab)=ao b
  ·rw[if_pos he]at h;refine ae ((kz (b.1,i) (ao b)).trans (decide_eq_true he)) ?_;refine aa (T4 hG g1 ((b.1,i),a) (by omega)) ?_;exact h
  ·rw[if_neg he]at h;refine af ((kz (b.1,i) (ao b)).trans (decide_eq_false he)) ?_;refine aa (T4 hG g1 ((b.1,i),zD) (by omega)) ?_;exact h
 have a1:=eI g ((b.1,0),pS a b 0);refine step 0 g _ (by omega) (by omega) ?_;refine step 1 _ _ (by omega) (by omega) ?_;exact l2 _
def jT(s:StateT)(o:aY)(r0 r1:ab):StateT×(Int×Unit) :=if r0.1=r1.1 then(zS,(14,()))
 else if r0.1=ba o then((J4 s o r1 r0,HQ s.2 r1 r0),(0,()))
 else if r1.1=ba o then((J4 s o r0 r1,HQ s.2 r0 r1),(0,()))
 else(zS,(14,()))
def kS(s:StateT)(o:aY):StateT×(Int×Unit):=match bp s.1 (aW o) with
 |none=>(zS,(13,()))
 |some v=>match v.2.1 with
  |[r0,r1]=>jT s o r0 r1
  |_=>(zS,(14,()))
theorem agH(hG:HG G){n:Nat}(s:StateT)(o:aY)(hs:Bd n s.1)(hn:n≤4000000)(hg:s.2.length≤5000000):FX G 85 yl ((s,o,()),())=some (kS s o,()):=by
  have hv:=hs.v;have he:=hs.e;have T6:=hs.sm (by omega);refine aq (hG _ _ rfl) aff ?_;refine aa (CQ (hG _ _ rfl) s.1 (aW o) (by omega)) ?_;unfold kS
  cases hf:bp s.1 (aW o) with
  |none=>rfl
  |some v =>
    refine af (show(!true)=false from rfl) ?_;have two:∀(a b:ab) (r:Option ((StateT×(Int×Unit))×Unit)),r=some (((J4 s o a b,HQ s.2 a b),((0:Int),())),()) →((FX G 121 CJ ((b,()),())).bind fun(y8:((ab×Unit)×Unit)) =>(FX G 81 oP ((s.1,(aW o,(zI,()))),())).bind fun(y9:((aj×Unit)×Unit)) =>(FX G 120 GY ((y9.1.1,(y8.1.1,(a,()))),())).bind fun(py:((aj×Unit)×Unit)) =>(FX G 81 oP ((py.1.1,(zI,(b.1,()))),())).bind fun(kN:((aj×Unit)×Unit)) =>LX G 85 yl Tryz.f85 lN (aN Tryz.prog 85 0) ((s.2,((0:Int),())),(((([]:List ag),(([]:List ah),(([]:List aw),()))),((a,()),((b,()),((y8.1.1,()),((kN.1.1,()),()))))),())))=r:=fun a b r hr=>by subst hr;have b1:=hs.aS (aW o) zI;have b2:=b1.aC (ao b) a;refine aa (Xf (hG _ _ rfl) b) ?_;refine aa (T2 (hG _ _ rfl) s.1 (aW o) zI (by omega) (by omega)) ?_;refine aa (abm hG (aS s.1 (aW o) zI) (ao b) a (b1.sm (by omega))) ?_;refine aa (T2 (hG _ _ rfl) (aC (aS s.1 (aW o) zI) (ao b) a) zI b.1 (by have:=b2.v;omega) (by have:=b2.e;omega)) ?_;exact agG hG s.2 a b (J4 s o a b) hg
    obtain⟨vi,ring,vr⟩:=v;by_cases hl:ring.length=2
    case neg =>
      refine ae (show((((ring.length:Nat):Int)) != 2)=true by simp;omega) ?_
      match ring,hl with
      |[],_=>rfl
      |[_],_=>rfl
      |[_,_],h=>exact absurd rfl h
      |_::_::_::_,_=>rfl
    match ring,hl with
    |[r0,r1],_ =>
      refine af (show((((2:Nat):Int)) != 2)=false from rfl) ?_;refine aa (show aT [r0,r1] 0=some r0 from rfl) ?_;refine aa (show aT [r0,r1] 1=some r1 from rfl) ?_;show _=some (jT s o r0 r1,());unfold jT;by_cases h1:r0.1=r1.1
      · rw[if_pos h1]
        exact ae ((jk r0.1 r1.1).trans (decide_eq_true h1)) rfl
      rw[if_neg h1];refine af ((jk r0.1 r1.1).trans (decide_eq_false h1)) ?_;refine aa (show aT [r0,r1] 0=some r0 from rfl) ?_;refine aa (show aT [r0,r1] 1=some r1 from rfl) ?_;by_cases h2:r0.1=ba o
      · rw[if_pos h2]
        refine ae ((jk r0.1 (ba o)).trans (decide_eq_true h2)) ?_;refine aa (show aT [r0,r1] 1=some r1 from rfl) ?_;refine aa (show aT [r0,r1] 0=some r0 from rfl) ?_;refine af (by rw[show((r0.1.1==(ba o).1)&&(r0.1.2==(ba o).2))=true from(jk r0.1 (ba o)).trans (decide_eq_true h2)];rfl) ?_;exact two r1 r0 _ rfl
      rw[if_neg h2];refine af ((jk r0.1 (ba o)).trans (decide_eq_false h2)) ?_;by_cases h3:r1.1=ba o
      · rw[if_pos h3]
        refine af (by rw[show((r1.1.1==(ba o).1)&&(r1.1.2==(ba o).2))=true from(jk r1.1 (ba o)).trans (decide_eq_true h3)];rfl) ?_;exact two r0 r1 _ rfl
      · rw[if_neg h3]
        exact ae (by rw[show((r1.1.1==(ba o).1)&&(r1.1.2==(ba o).2))=false from(jk r1.1 (ba o)).trans (decide_eq_false h3)];rfl) rfl
def pG(s:StateT)(o:aY):StateT×(Int×Unit) :=if(bp s.1 (aW o)).isSome=true then(zS,(12,())) else if 24≤s.1.1.length then(zS,(3,())) else(((dW (aW o,([],(e0,0))) s.1.1,s.1.2),s.2),(0,()))
def ya(s:StateT)(o:aY):StateT×(Int×Unit):=match bp s.1 (aW o) with
 |none=>(zS,(13,()))
 |some v=>if 0<v.2.1.length then(zS,(14,())) else((aS s.1 (aW o) zI,s.2),(0,()))
def kT(s:StateT)(o:aY):StateT×(Int×Unit) :=if cj o≠0 then(zS,(cj o,()))
 else if o.1=1 then pG s o else if o.1=2 then ya s o else if o.1=3 then pC s o else if o.1=4 then Fi s o else if o.1=5 then lV s o else if o.1=6 then kS s o else wH s o
theorem agI(hG:HG G){n:Nat}(s:StateT)(o:aY)(hs:Bd n s.1)(hn:n≤4000000)(hg:s.2.length≤5000000)(ht:tB o):FX G 45 PB ((s,o,()),())=some (kT s o,()):=by
 have hv:=hs.v;have he:=hs.e;refine aq (hG _ _ rfl) aeM ?_;refine aa (abx hG o ht) ?_;unfold kT;by_cases h0:cj o=0
 case neg =>
  rw[if_pos h0];exact ae (show(cj o != 0)=true by simp[h0]) rfl
 rw[if_neg (by simp[h0])];refine af (show(cj o != 0)=false by simp[h0]) ?_;refine aa (CQ (hG _ _ rfl) s.1 (aW o) (by omega)) ?_;by_cases h1:o.1=1
 ·rw[if_pos h1];refine ae (show(o.1==(1:Int))=true by simp[h1]) ?_;rw[show(pz zV (bp s.1 (aW o))).2.1=(bp s.1 (aW o)).isSome from gZ _ _];unfold pG
  cases hf:(bp s.1 (aW o)).isSome
  ·rw[if_neg (by simp)];refine af rfl ?_;by_cases h4:24≤s.1.1.length
   ·rw[if_pos h4];exact ae (decide_eq_true (show((s.1.1.length:Nat):Int)≥24 by omega)) rfl
   ·rw[if_neg h4];refine af (decide_eq_false (show ¬((s.1.1.length:Nat):Int)≥24 by omega)) ?_;exact aa (abi hG s.1 (aW o,([],(e0,0))) (by omega)) rfl
  ·rw[if_pos rfl];rfl
 rw[if_neg h1];refine af (show(o.1==(1:Int))=false by simp[h1]) ?_;by_cases h2:o.1=2
 ·rw[if_pos h2];refine ae (show(o.1==(2:Int))=true by simp[h2]) ?_;unfold ya
  cases hf:bp s.1 (aW o) with
  |none=>rfl
  |some v =>
   refine af (show(!true)=false from rfl) ?_;by_cases h4:0<v.2.1.length
   ·show _=some ((if 0<v.2.1.length then(zS,(14,())) else((aS s.1 (aW o) zI,s.2),(0,())):StateT×(Int×Unit)),());rw[if_pos h4];exact ae (decide_eq_true (show((v.2.1.length:Nat):Int)>0 by omega)) rfl
   ·show _=some ((if 0<v.2.1.length then(zS,(14,())) else((aS s.1 (aW o) zI,s.2),(0,())):StateT×(Int×Unit)),());rw[if_neg h4];refine af (decide_eq_false (show ¬((v.2.1.length:Nat):Int)>0 by omega)) ?_;exact aa (T2 (hG _ _ rfl) s.1 (aW o) zI (by omega) (by omega)) rfl
 rw[if_neg h2];refine af (show(o.1==(2:Int))=false by simp[h2]) ?_;by_cases h3:o.1=3
 ·rw[if_pos h3];refine ae (show(o.1==(3:Int))=true by simp[h3]) ?_;exact aa (agD hG s o hs hn (by omega)) rfl
 rw[if_neg h3];refine af (show(o.1==(3:Int))=false by simp[h3]) ?_;by_cases h4:o.1=4
 ·rw[if_pos h4];refine ae (show(o.1==(4:Int))=true by simp[h4]) ?_;exact aa (agE hG s o hs hn hg) rfl
 rw[if_neg h4];refine af (show(o.1==(4:Int))=false by simp[h4]) ?_;by_cases h5:o.1=5
 ·rw[if_pos h5];refine ae (show(o.1==(5:Int))=true by simp[h5]) ?_;exact aa (agF hG s o hs hn) rfl
 rw[if_neg h5];refine af (show(o.1==(5:Int))=false by simp[h5]) ?_;by_cases h6:o.1=6
 ·rw[if_pos h6];refine ae (show(o.1==(6:Int))=true by simp[h6]) ?_;exact aa (agH hG s o hs hn hg) rfl
 rw[if_neg h6];refine af (show(o.1==(6:Int))=false by simp[h6]) ?_;exact aa (agC hG s o (hs.sm (by omega))) rfl
structure Bs(n:Nat)(s:StateT):Prop where
 d:Bd n s.1
 g:s.2.length≤n
theorem Bs.mono{n m:Nat}{s:StateT}(h:Bs n s)(hm:n≤m):Bs m s:=⟨h.d.mono hm,by have:=h.g;omega⟩
theorem Bs.zero(n:Nat):Bs n zS:=⟨⟨adD _,adD _,fun w hw=>by simp[zS]at hw⟩,adD _⟩
theorem Bs.one{n:Nat}{s:StateT}(h:Bs n s)(o:aY):Bs (n+3) (kT s o).1:=by
 have h1:=h.d;have h2:=h.g;unfold kT
 split
 ·exact Bs.zero _
 split
 ·unfold pG;split
  ·exact Bs.zero _
  split
  ·exact Bs.zero _
  ·exact⟨(h1.dW _ (by simp)).mono (by omega),by simp only;omega⟩
 split
 ·unfold ya
  cases bp s.1 (aW o) with
  |none=>exact Bs.zero _
  |some v =>
   simp only
   split
   ·exact Bs.zero _
   ·exact⟨(h1.aS _ _).mono (by omega),by simp only;omega⟩
 split
 ·unfold pC
  split;· exact Bs.zero _
  split;· exact Bs.zero _
  split;· exact Bs.zero _
  split;· exact Bs.zero _
  split;· exact Bs.zero _
  exact⟨by unfold fX;exact((h1.dq _).bN _ _).bN _ _,by simp only;omega⟩
 split
 ·unfold Fi
  split;· exact Bs.zero _
  refine⟨(((h1.aB _).aB _).aS _ _).mono (by omega),?_⟩;have a1:=eI s.2 ((aW o,0),da s.1 (aW o,0));have a2:=eI (bK s.2 ((aW o,0),da s.1 (aW o,0))) ((aW o,1),da s.1 (aW o,1));simp only;omega
 split
 ·unfold lV
  split;· exact Bs.zero _
  split;· exact Bs.zero _
  split;· exact Bs.zero _
  split;· exact Bs.zero _
  split;· exact Bs.zero _
  refine⟨?_,by simp only;omega⟩;have b2:=((h1.aC (IX o) (ao (FK o))).dq (ba o,(e0,0)));exact(b2.dW (eL o,(cI [IX o,FK o],(e0,0))) (by simp[fU])).mono (by omega)
 split
 ·unfold kS;have key:∀a b:ab,Bs (n+3) (J4 s o a b,HQ s.2 a b):=fun a b=>by refine⟨(((h1.aS _ _).aC _ _).aS _ _).mono (by omega),?_⟩;have a1:=eI s.2 ((b.1,0),pS a b 0);have a2:=eI (bK s.2 ((b.1,0),pS a b 0)) ((b.1,1),pS a b 1);simp only[HQ];omega
  split
  ·exact Bs.zero _
  ·split
   ·unfold jT
    split;· exact Bs.zero _
    split;· exact key _ _
    split;· exact key _ _
    exact Bs.zero _
   ·exact Bs.zero _
 ·unfold wH
  split
  ·refine⟨⟨by simp;have:=h1.v;omega,by simp;have:=h1.e;omega,fun w hw=>?_⟩,by simp only;omega⟩;obtain⟨u,hu,rfl⟩:=adq.1 hw;have hr:=h1.r u hu;have e:(iH o u).2.1=u.2.1:=by unfold iH;split<;>(try split)<;>rfl
   rw[e];omega
  ·exact Bs.zero _
def Fj:List aY→StateT→StateT×(Int×Unit)
 |[],s=>(s,(0,()))
 |o::r,s=>if(kT s o).2.1≠0 then(zS,(kT s o).2) else Fj r (kT s o).1
def cP(s:StateT)(l:List aY):StateT×(Int×Unit):=if cg l≠0 then(zS,(cg l,())) else Fj l s
theorem Bs.go{l:List aY}:∀{n:Nat} {s:StateT},Bs n s→Bs (n+3*l.length) (Fj l s).1:=by
 induction l with
 |nil=>intro n s h;exact h.mono (by simp)
 |cons o r ih =>
  intro n s h;unfold Fj
  split
  ·exact Bs.zero _
  ·exact(ih (h.one o)).mono (by simp;omega)
theorem agJ(hG:HG G){n:Nat}(s:StateT)(l:List aY)(hs:Bs n s)(hn:n+3*l.length≤3000000)(ht:∀o∈l,tB o):FX G 49 GO ((s,l,()),())=some (cP s l,()):=by
 refine aq (hG _ _ rfl) ae2 ?_;refine aa (aby hG l ht) ?_;unfold cP;by_cases h0:cg l=0
 case neg =>
  rw[if_pos h0];exact ae (show(cg l != 0)=true by simp[h0]) rfl
 rw[if_neg (by simp[h0])];refine af (show(cg l != 0)=false by simp[h0]) ?_;have key:=bV l (fun i (s:StateT)=>LX G 49 GO Tryz.f49 A6 (aN Tryz.prog 49 0) ((i,()),(((s,()),((l,()),((([]:List ag),(([]:List ah),(([]:List aw),()))),()))),()))) (fun(r:List aY) (s:StateT)=>(Fj r s,())) (fun m s=>∃k,Bs k s∧k+3*m≤3000000) (fun s _=>by exact au P4 (af (dp _) rfl)) (fun i o r s hi hx BA hk ih=>by
   obtain⟨k,hb,hk⟩:=hk;refine au P4 ?_;refine ae (aX hi) ?_;refine aa (aJ hx) ?_;have hbd:=hb.d;have hbg:=hb.g;refine aa (agI hG s o hbd (by omega) (by omega) (ht o (adj hx))) ?_;rw[Fj];by_cases h1:(kT s o).2.1=0
   ·rw[if_neg (by simp[h1])];refine af (show((kT s o).2.1 != 0)=false by simp[h1]) ?_;rw[wI,aG hi (show l.length≤1073741824 by omega)];exact ih (kT s o).1 ⟨k+3,hb.one o,by omega⟩
   ·rw[if_pos h1];exact ae (show((kT s o).2.1 != 0)=true by simp[h1]) rfl)
  s ⟨n,hs,hn⟩
 exact key
def je(s:StateT)(l:List aY):StateT:=if(cP s l).2.1≠0 then s else(cP s l).1
theorem agK(hG:HG G){n:Nat}(s:StateT)(l:List aY)(hs:Bs n s)(hn:n+3*l.length≤3000000)(ht:∀o∈l,tB o):FX G 64 PD ((s,l,()),())=some ((je s l,()),()):=by
 refine aq (hG _ _ rfl) ae4 ?_;refine aa (agJ hG s l hs hn ht) ?_;unfold je;by_cases h1:(cP s l).2.1=0
 ·rw[if_neg (by simp[h1])];exact af (show((cP s l).2.1 != 0)=false by simp[h1]) rfl
 ·rw[if_pos h1];exact ae (show((cP s l).2.1 != 0)=true by simp[h1]) rfl
theorem Bs.try{n:Nat}{s:StateT}{l:List aY}(h:Bs n s):Bs (n+3*l.length) (je s l):=by
 unfold je
 split
 ·exact h.mono (by omega)
 ·unfold cP
  split
  ·exact Bs.zero _
  ·exact h.go
def lW:Nat→List (List aY)→StateT→StateT
 |0,_,s=>s
 |_+1,[],s=>s
 |n+1,l::r,s=>lW n r (je s (l.take 8))
def BC(l:List (List aY)):StateT:=lW 30 l zS
theorem Bs.reach:∀(m:Nat) (l:List (List aY)) {n:Nat} {s:StateT},Bs n s→Bs (n+24*m) (lW m l s)
 |0,_,n,s,h=>by simpa[lW] using h
 |m+1,[],n,s,h=>h.mono (by omega)
 |m+1,l::r,n,s,h=>by
  rw[lW];have h1:Bs (n+3*(l.take 8).length) (je s (l.take 8)):=h.try;have hl:(l.take 8).length≤8:=by simp;omega
  exact(Bs.reach m r (h1.mono (show n+3*(l.take 8).length≤n+24 by omega))).mono (by omega)
theorem Bs.Lv(l:List (List aY)):Bs 720 (BC l):=(Bs.reach 30 l (Bs.zero 0)).mono (by omega)
end Go.Vs
