/- What the document's reference -/
import Derived.Test.YtpkfpbpbkabkdaaGreatRefA
set_option linter.unusedVariables false
set_option linter.unusedSimpArgs false
namespace Go.Vs
open Go.Proofs
variable {G:(f:FuncId)→(g:aX)→Option (g.A→Option g.B)}
def CJ(x:ID):List ai→Int→Int
 |[],_ => -1
 |v::r,i=>if v.1=x then i else CJ x r (i+1)
theorem NZ(x:ID):∀(l:List ai) (i:Int),0≤i→CJ x l i = -1∨(i≤CJ x l i∧CJ x l i<i+l.length)
 |[],i,_=>.inl rfl
 |v::r,i,h=>by
  unfold CJ
  split
  ·right;simp;omega
  ·rcases NZ x r (i+1) (by omega) with h|h
   ·exact .inl h
   ·right;simp;omega
theorem af3(hG:G 217 Gp=none)(d:ak)(x:ID)(hs:Sm d):FX G 217 Gp ((d,x,()),())=some ((CJ x d.1 0,()),()):=by
 have hv:=hs.v;refine aB hG aka ?_;have loop:∀(n i:Nat),i+n=d.1.length→LX G 217 Gp Tryz.f217 Ev (aS Tryz.prog 217 0) (((i:Int),()),(((d,()),((x,()),())),()))=some ((CJ x (d.1.drop i) i,()),()):=by
  intro n
  induction n with
  |zero =>
   intro i hi;refine aw UR ?_;have h1:¬((i:Int)<(d.1.length:Int)):=by omega
   have h2:d.1.drop i=[]:=adB (by omega);rw[h2];simp only[h1,decide_false];rfl
  |succ n ih =>
   intro i hi;refine aw UR ?_;have aG:i<d.1.length:=by omega
   have h2:d.1.drop i=d.1[i]::d.1.drop (i+1):=ac8 aG;have hx:d.1[i]? = some d.1[i]:=aa4 aG;rw[h2,CJ];simp only[ba aG,aC hx,Option.bind_some,jl,aI aG (show d.1.length≤1073741824 by omega)];by_cases he:d.1[i].1=x
   ·have d1:=decide_eq_true he;rw[if_pos he];simp only[d1];rfl
   ·have d1:=decide_eq_false he;rw[if_neg he];simp only[d1];exact ih (i+1) (by omega)
 exact loop d.1.length 0 (by omega)
def Jl(d:ak)(e:an)(out:List Int):List Int :=
 let a:=CJ ((bJ d (e.1,0)).getD zI) d.1 0
 let b:=CJ ((bJ d (e.1,1)).getD zI) d.1 0
 if 0≤a∧0≤b then(out.set a.toNat (min (out.getD a.toNat 0) (out.getD b.toNat 0))).set b.toNat (min (out.getD a.toNat 0) (out.getD b.toNat 0)) else out
def kJ(d:ak):List an→List Int→List Int
 |[],out=>out
 |e::r,out=>kJ d r (Jl d e out)
def LI(d:ak):Nat→List Int→List Int
 |0,out=>out
 |n+1,out=>LI d n (kJ d d.2 out)
def Gv(n:Nat):List Int:=(List.range n).map fun i=>((i:Nat):Int)
def labels(d:ak):List Int:=LI d d.1.length (Gv d.1.length)
theorem LJ(d:ak)(e:an)(out:List Int):(Jl d e out).length=out.length:=by unfold Jl;simp only;split<;>simp
theorem yE(d:ak):∀(l:List an) (out:List Int),(kJ d l out).length=out.length
 |[],out=>rfl
 |e::r,out=>by rw[kJ,yE d r,LJ]
theorem BH(d:ak):∀(n:Nat) (out:List Int),(LI d n out).length=out.length
 |0,out=>rfl
 |n+1,out=>by rw[LI,BH d n,yE]
theorem Gx(d:ak):(labels d).length=d.1.length:=by unfold labels;rw[BH];simp[Gv]
theorem abT(hG:HG G)(d:ak)(hs:Sm d)(n:Int)(R:List Int→List Int) (hR:∀out:List Int,out.length=d.1.length→LX G 193 u7 Tryz.f193 z5 (aS Tryz.prog 193 1) ((IntKind.wrap .i64 (n+1),()),(((d,()),()),(out,())))=some ((R out,()),())) :
  ∀out:List Int,out.length=d.1.length→LX G 193 u7 Tryz.f193 tD (aS Tryz.prog 193 2) ((n,((0:Int),())),(((d,()),()),(out,())))=some ((R (kJ d d.2 out),()),()):=by
 have hv:=hs.v;have he:=hs.e;have loop:∀(m i:Nat) (out:List Int),i+m=d.2.length→out.length=d.1.length→LX G 193 u7 Tryz.f193 tD (aS Tryz.prog 193 2) ((n,((i:Int),())),(((d,()),()),(out,())))=some ((R (kJ d (d.2.drop i) out),()),()):=by
  intro m
  induction m with
  |zero =>
   intro i out hi ho;have h1:¬((i:Int)<(d.2.length:Int)):=by omega
   have h2:d.2.drop i=[]:=adB (by omega);rw[h2,kJ];refine aw UU ?_;simp only[h1,decide_false];exact hR out ho
  |succ m ih =>
   intro i out hi ho;have aG:i<d.2.length:=by omega
   have h2:d.2.drop i=d.2[i]::d.2.drop (i+1):=ac8 aG;have hx:d.2[i]? = some d.2[i]:=aa4 aG;rw[h2,kJ];generalize d.2[i]=e at *;refine aw UU ?_;simp only[ba aG,aC hx,Option.bind_some,aI aG (show d.2.length≤1073741824 by omega)];refine aa (LH hG d (e.1,0) (by omega) (fun w hw=>by have:=hs.r w hw;omega)) ?_;refine aa (LH hG d (e.1,1) (by omega) (fun w hw=>by have:=hs.r w hw;omega)) ?_;rw[show(jY zI (bJ d (e.1,0))).1=(bJ d (e.1,0)).getD zI from fz _ _,show(jY zI (bJ d (e.1,1))).1=(bJ d (e.1,1)).getD zI from fz _ _];refine aa (af3 (hG _ _ rfl) d ((bJ d (e.1,0)).getD zI) hs) ?_;refine aa (af3 (hG _ _ rfl) d ((bJ d (e.1,1)).getD zI) hs) ?_;have hL:Jl d e out=(if 0≤CJ ((bJ d (e.1,0)).getD zI) d.1 0∧0≤CJ ((bJ d (e.1,1)).getD zI) d.1 0 then(out.set (CJ ((bJ d (e.1,0)).getD zI) d.1 0).toNat (min (out.getD (CJ ((bJ d (e.1,0)).getD zI) d.1 0).toNat 0) (out.getD (CJ ((bJ d (e.1,1)).getD zI) d.1 0).toNat 0))).set (CJ ((bJ d (e.1,1)).getD zI) d.1 0).toNat (min (out.getD (CJ ((bJ d (e.1,0)).getD zI) d.1 0).toNat 0) (out.getD (CJ ((bJ d (e.1,1)).getD zI) d.1 0).toNat 0)) else out):=rfl;have ha:=NZ ((bJ d (e.1,0)).getD zI) d.1 0 (by omega);have hb:=NZ ((bJ d (e.1,1)).getD zI) d.1 0 (by omega);generalize CJ ((bJ d (e.1,0)).getD zI) d.1 0=a at *;generalize CJ ((bJ d (e.1,1)).getD zI) d.1 0=b at *;by_cases h3:0≤a
   case neg =>
    have d3:decide (a≥0)=false:=decide_eq_false h3;rw[hL,if_neg (by omega)];simp only[d3];exact ih (i+1) out (by omega) ho
   have d3:decide (a≥0)=true:=decide_eq_true h3;by_cases h4:0≤b
   case neg =>
    have d4:decide (b≥0)=false:=decide_eq_false h4;rw[hL,if_neg (by omega)];simp only[d3,d4];exact ih (i+1) out (by omega) ho
   have d4:decide (b≥0)=true:=decide_eq_true h4;rw[if_pos ⟨h3,h4⟩]at hL;have hal:a.toNat<out.length:=by omega
   have hbl:b.toNat<out.length:=by omega
   have xa:out[a.toNat]? = some out[a.toNat]:=aa4 hal;have xb:out[b.toNat]? = some out[b.toNat]:=aa4 hbl;have ga:out.getD a.toNat 0=out[a.toNat]:=by simp[List.getD,xa]
   have gb:out.getD b.toNat 0=out[b.toNat]:=by simp[List.getD,xb]
   rw[ga,gb]at hL;generalize out[a.toNat]=p at *;generalize out[b.toNat]=q at *;have d5:decide ((0:Int)≤a)=true:=decide_eq_true h3;have d6:decide ((0:Int)≤b)=true:=decide_eq_true h4;have d7:decide (a<((out.length:Nat):Int))=true:=decide_eq_true (by omega);have d8:decide (b<((out.length:Nat):Int))=true:=decide_eq_true (by omega);have hbs:b.toNat<(out.set a.toNat (min p q)).length:=by simpa using hbl
   have d9:decide (b<(((out.set a.toNat (min p q)).length:Nat):Int))=true:=decide_eq_true (by simp;omega);have xs:(out.set a.toNat (min p q))[b.toNat]? = some (out.set a.toNat (min p q))[b.toNat]:=aa4 hbs;simp only[d3,d4,d5,d6,d7,d8,Bool.and_self,xa,xb,Option.bind_some,d9,xs];rw[hL];exact ih (i+1) ((out.set a.toNat (min p q)).set b.toNat (min p q)) (by omega) (by simp[ho])
 intro out ho;exact loop d.2.length 0 out (by omega) ho
theorem als(hG:HG G)(d:ak)(hs:Sm d):FX G 193 u7 ((d,()),())=some ((labels d,()),()):=by
 have hv:=hs.v;refine aB (hG _ _ rfl) akb ?_;have l1:∀(n i:Nat) (out:List Int),i+n=d.1.length→out.length=d.1.length→LX G 193 u7 Tryz.f193 z5 (aS Tryz.prog 193 1) (((i:Int),()),(((d,()),()),(out,())))=some ((LI d n out,()),()):=by
  intro n
  induction n with
  |zero =>
   intro i out hi ho;refine aw UT ?_;have h1:¬((i:Int)<(d.1.length:Int)):=by omega
   simp only[h1,decide_false];rfl
  |succ n ih =>
   intro i out hi ho;refine aw UT ?_;have aG:i<d.1.length:=by omega
   simp only[ba aG];exact abT hG d hs (i:Int) (LI d n) (fun out ho=>by rw[aI aG (show d.1.length≤1073741824 by omega)];exact ih (i+1) out (by omega) ho) out ho
 have l0:∀(n i:Nat) (out:List Int),i+n=d.1.length→out=Gv i→LX G 193 u7 Tryz.f193 Ew (aS Tryz.prog 193 0) (((i:Int),()),(((d,()),()),(out,())))=some ((labels d,()),()):=by
  intro n
  induction n with
  |zero =>
   intro i out hi ho;refine aw US ?_;have h1:¬((i:Int)<(d.1.length:Int)):=by omega
   have vW:i=d.1.length:=by omega
   subst vW;simp only[h1,decide_false];have:=l1 d.1.length 0 out (by omega) (by rw[ho];simp[Gv]);rw[ho]at this ⊢;exact this
  |succ n ih =>
   intro i out hi ho;refine aw US ?_;have aG:i<d.1.length:=by omega
   have h6:aU out.length [(i:Int)].length=true:=fits (by rw[ho];simp[Gv];omega);simp only[ba aG,h6,aI aG (show d.1.length≤1073741824 by omega)];exact ih (i+1) (out++[(i:Int)]) (by omega) (by rw[ho];simp[Gv,List.range_succ])
 exact l0 d.1.length 0 [] (by omega) (by simp[Gv])
def rI:List Int→Int→Int→Int
 |[],_,n=>n
 |x::r,i,n=>rI r (i+1) (if x=i then IntKind.wrap .i64 (n+1) else n)
def gh(d:ak):Int:=rI (labels d) 0 0
theorem alu(hG:HG G)(d:ak)(hs:Sm d):FX G 165 KW ((d,()),())=some ((gh d,()),()):=by
 have hv:=hs.v;have hl:=Gx d;refine aB (hG _ _ rfl) ajV ?_;refine aa (als hG d hs) ?_;unfold gh;generalize labels d=l at *;have loop:∀(m i:Nat) (n:Int),i+m=l.length→LX G 165 KW Tryz.f165 zX (aS Tryz.prog 165 0) ((n,((i:Int),())),((),(l,())))=some ((rI (l.drop i) i n,()),()):=by
  intro m
  induction m with
  |zero =>
   intro i n hi;refine aw UH ?_;have h1:¬((i:Int)<(l.length:Int)):=by omega
   have h2:l.drop i=[]:=adB (by omega);rw[h2];simp only[h1,decide_false];rfl
  |succ m ih =>
   intro i n hi;refine aw UH ?_;have aG:i<l.length:=by omega
   have h2:l.drop i=l[i]::l.drop (i+1):=ac8 aG;have hx:l[i]? = some l[i]:=aa4 aG;rw[h2,rI];simp only[ba aG,gr,Bool.and_self,Int.toNat_natCast,hx,Option.bind_some,aI aG (show l.length≤1073741824 by omega)];by_cases he:l[i]=(i:Int)
   ·have d1:(l[i]==(i:Int))=true:=by simp[he]
    rw[if_pos he];simp only[d1];exact ih (i+1) _ (by omega)
   ·have d1:(l[i]==(i:Int))=false:=by simp[he]
    rw[if_neg he];simp only[d1];exact ih (i+1) _ (by omega)
 exact loop l.length 0 0 (by omega)
def tI:List ai→Int→Int
 |[],n=>n
 |v::r,n=>tI r (if v.2.1.length=0 then IntKind.wrap .i64 (n+1) else n)
def EV(d:ak):Int:=tI d.1 ((((b5 d).length:Nat)):Int)
theorem alv(hG:HG G)(d:ak)(hs:Sm d)(he:d.2.length≤5000000):FX G 136 IW ((d,()),())=some ((((d.1.length:Nat):Int),(((d.2.length:Nat):Int),(EV d,(gh d,())))),()):=by
 have hv:=hs.v;refine aB (hG _ _ rfl) akF ?_;refine aa (alp hG d hs he) ?_;unfold EV;show LX G 136 IW Tryz.f136 wF (aS Tryz.prog 136 0) ((lI (b5 d),((0:Int),())),(((d,()),()),()))=_;unfold lI;generalize (((b5 d).length:Nat):Int)=f0;have key:=cq d.1 (fun i (n:Int)=>LX G 136 IW Tryz.f136 wF (aS Tryz.prog 136 0) ((n,(i,())),(((d,()),()),()))) (fun(r:List ai) (n:Int)=>((((d.1.length:Nat):Int),(((d.2.length:Nat):Int),(tI r n,(gh d,())))),())) (fun _ _=>True) (fun n _=>by refine aw Vg ?_;simp only[dR];exact aa (alu hG d hs) rfl) (fun i y r n hi hx Cb _ ih=>by
   refine aw Vg ?_;simp only[ba hi,aC hx,Option.bind_some,aI hi (show d.1.length≤1073741824 by omega)];by_cases he:y.2.1.length=0
   ·have d1:((((y.2.1.length:Nat)):Int)==0)=true:=by simp[he]
    simp only[d1,tI,if_pos he];exact ih _ trivial
   ·have d1:((((y.2.1.length:Nat)):Int)==0)=false:=by simp;intro e;rw[e]at he;simp at he
    simp only[d1,tI,if_neg he];exact ih _ trivial)
  f0 trivial
 exact key
def bK(d:ak):Int:=IntKind.wrap .i64 (Int.tdiv (IntKind.wrap .i64 (IntKind.wrap .i64 (IntKind.wrap .i64 (IntKind.wrap .i64 (2*gh d)-((d.1.length:Nat):Int))+((d.2.length:Nat):Int))-EV d)) 2)
theorem abU(hG:HG G)(d:ak)(hs:Sm d)(he:d.2.length≤5000000):FX G 107 IU ((d,()),())=some ((bK d,()),()):=by refine aB (hG _ _ rfl) akj ?_;exact aa (alv hG d hs he) rfl
theorem YP{s:ByteArray}{i:Nat}{c:UInt8}(h:s.data.toList[i]? = some c):(if(0:Int)≤(i:Int) then s[Int.toNat (i:Int)]? else none)=some c:=by
 have hi:i<s.size:=by have:=(aa2.1 h).1;simpa using this
 rw[if_pos (by omega),Int.toNat_natCast,getElem?_pos s i hi];have h2:=(aa2.1 h).2;rw[←h2];rfl
def lX(c:UInt8):Bool:=decide (32≤c.toNat)&&decide (c.toNat≤126)
def lY(s:ByteArray):Bool:=s.data.toList.all lX&&decide (s.size≤16)
theorem abV(hG:G 91 zR=none)(s:ByteArray)(hs:s.size≤100000000):FX G 91 zR ((s,()),())=some ((lY s,()),()):=by
 refine aB hG ajR ?_;have hl:s.data.toList.length=s.size:=by simp
 have key:=cq s.data.toList (fun i (_:Unit)=>LX G 91 zR Tryz.f91 Ep (aS Tryz.prog 91 0) ((s,(i,())),((),()))) (fun(r:List UInt8) (_:Unit)=>((r.all lX&&decide (s.size≤16),()),())) (fun _ _=>True) (fun _ _=>by
   refine aw UF ?_;rw[hl];have h2:decide (((s.size:Nat):Int)≤16)=decide (s.size≤16):=by rw[Bool.eq_iff_iff];simp;omega
   simp only[dR,h2,List.all_nil,Bool.true_and];rfl)
  (fun i c r _ hi hx Cb _ ih=>by
   refine aw UF ?_;rw[hl]at hi;have hb:=YP hx;simp only[ba hi,hb,Option.bind_some,aI hi (show s.size≤1073741824 by omega)];by_cases h1:c.toNat<32
   ·have d1:decide (((c.toNat:Nat):Int)<32)=true:=decide_eq_true (by omega);have d2:lX c=false:=by unfold lX;simp;omega
    simp only[d1,List.all_cons,d2,Bool.false_and];rfl
   ·have d1:decide (((c.toNat:Nat):Int)<32)=false:=decide_eq_false (by omega);by_cases h2:126<c.toNat
    ·have d2:decide (((c.toNat:Nat):Int)>126)=true:=decide_eq_true (by omega);have d3:lX c=false:=by unfold lX;simp;omega
     simp only[d1,d2,List.all_cons,d3,Bool.false_and];rfl
    ·have d2:decide (((c.toNat:Nat):Int)>126)=false:=decide_eq_false (by omega);have d3:lX c=true:=by unfold lX;simp;omega
     simp only[d1,d2,List.all_cons,d3,Bool.true_and];exact ih () trivial)
  () trivial
 exact key
def jZ(n:Int):Bool:=decide (-1099511627776≤n∧n≤1099511627776)
theorem abW(hG:G 90 B2=none)(n:Int):FX G 90 B2 ((n,()),())=some ((jZ n,()),()):=by refine aB hG ajS ?_;show(cond (decide (n≥-1099511627776)) (some ((decide (n≤1099511627776),()),())) (some ((false,()),())):Option ((Bool×Unit)×Unit))=some ((jZ n,()),());unfold jZ;by_cases h1 : -1099511627776≤n<;>simp[h1]
def pQ(c:ml):Bool:=cz c.1&&(Je c.2 || decide (c.2=zD))
theorem af4(hG:HG G)(c:ml):FX G 89 RB ((c,()),())=some ((pQ c,()),()):=by
 refine aB (hG _ _ rfl) ako ?_;refine aa (Gt (hG _ _ rfl) c.1) ?_;refine aa (alh hG c.2) ?_;have hb:(((c.2.1.1==(0:Int))&&(c.2.1.2==(0:Int)))&&(c.2.2==(0:Int)))=decide (c.2=zD):=lW c.2 zD;unfold pQ;simp only[hb]
 cases h1:cz c.1<;>cases h2:Je c.2<;>rfl
def F2:aW:=(0,(zI,(zI,(zI,(zC,(zC,(false,(e0,0))))))))
def kr(o:aW):aW :=if o.1=3 then(0,(zI,(o.2.2.1,(o.2.2.2.1,(zC,(zC,(o.2.2.2.2.2.2.1,o.2.2.2.2.2.2.2)))))))
 else if o.1=5 then(0,(zI,(zI,(zI,(o.2.2.2.2.1,(o.2.2.2.2.2.1,(o.2.2.2.2.2.2.1,(o.2.2.2.2.2.2.2.1,0))))))))
 else if o.1=6 then(0,(zI,(o.2.2.1,(zI,(o.2.2.2.2.1,(o.2.2.2.2.2.1,(o.2.2.2.2.2.2.1,o.2.2.2.2.2.2.2)))))))
 else if o.1=7 then(0,(zI,(o.2.2.1,(o.2.2.2.1,(o.2.2.2.2.1,(o.2.2.2.2.2.1,(false,(e0,o.2.2.2.2.2.2.2.2))))))))
 else if o.1=8 then(0,(zI,(o.2.2.1,(o.2.2.2.1,(o.2.2.2.2.1,(o.2.2.2.2.2.1,(false,(o.2.2.2.2.2.2.2.1,0))))))))
 else(0,(zI,(o.2.2.1,(o.2.2.2.1,(o.2.2.2.2.1,(o.2.2.2.2.2.1,(o.2.2.2.2.2.2.1,o.2.2.2.2.2.2.2)))))))
theorem alw(hG:G 88 RA=none)(o:aW):FX G 88 RA ((o,()),())=some ((kr o,()),()):=by
 refine aB hG akn ?_;unfold kr;by_cases h3:o.1=3
 ·have d:(o.1==(3:Int))=true:=by simp[h3]
  rw[if_pos h3];simp only[d];rfl
 have d3:(o.1==(3:Int))=false:=by simp[h3]
 rw[if_neg h3];by_cases h5:o.1=5
 ·have d:(o.1==(5:Int))=true:=by simp[h5]
  rw[if_pos h5];simp only[d3,d];rfl
 have d5:(o.1==(5:Int))=false:=by simp[h5]
 rw[if_neg h5];by_cases h6:o.1=6
 ·have d:(o.1==(6:Int))=true:=by simp[h6]
  rw[if_pos h6];simp only[d3,d5,d];rfl
 have d6:(o.1==(6:Int))=false:=by simp[h6]
 rw[if_neg h6];by_cases h7:o.1=7
 ·have d:(o.1==(7:Int))=true:=by simp[h7]
  rw[if_pos h7];simp only[d3,d5,d6,d];rfl
 have d7:(o.1==(7:Int))=false:=by simp[h7]
 rw[if_neg h7];by_cases h8:o.1=8
 ·have d:(o.1==(8:Int))=true:=by simp[h8]
  rw[if_pos h8];simp only[d3,d5,d6,d7,d];rfl
 have d8:(o.1==(8:Int))=false:=by simp[h8]
 rw[if_neg h8];simp only[d3,d5,d6,d7,d8];rfl
def sD(x y:aW):Bool :=(x.1==y.1)&&(((x.2.1.1==y.2.1.1)&&(x.2.1.2==y.2.1.2))&&(((x.2.2.1.1==y.2.2.1.1)&&(x.2.2.1.2==y.2.2.1.2))&&(((x.2.2.2.1.1==y.2.2.2.1.1)&&(x.2.2.2.1.2==y.2.2.2.1.2)) && ((((x.2.2.2.2.1.1.1==y.2.2.2.2.1.1.1)&&(x.2.2.2.2.1.1.2==y.2.2.2.2.1.1.2))&&(((x.2.2.2.2.1.2.1.1==y.2.2.2.2.1.2.1.1)&&(x.2.2.2.2.1.2.1.2==y.2.2.2.2.1.2.1.2))&&(x.2.2.2.2.1.2.2==y.2.2.2.2.1.2.2))) && ((((x.2.2.2.2.2.1.1.1==y.2.2.2.2.2.1.1.1)&&(x.2.2.2.2.2.1.1.2==y.2.2.2.2.2.1.1.2))&&(((x.2.2.2.2.2.1.2.1.1==y.2.2.2.2.2.1.2.1.1)&&(x.2.2.2.2.2.1.2.1.2==y.2.2.2.2.2.1.2.1.2))&&(x.2.2.2.2.2.1.2.2==y.2.2.2.2.2.1.2.2))) && ((x.2.2.2.2.2.2.1==y.2.2.2.2.2.2.1)&&((x.2.2.2.2.2.2.2.1==y.2.2.2.2.2.2.2.1)&&(x.2.2.2.2.2.2.2.2==y.2.2.2.2.2.2.2.2))))))))
theorem ku(x y:aW):sD x y=true↔x=y:=by obtain⟨x1,⟨x2,x3⟩,⟨x4,x5⟩,⟨x6,x7⟩,⟨⟨x8,x9⟩,⟨x10,x11⟩,x12⟩,⟨⟨x13,x14⟩,⟨x15,x16⟩,x17⟩,x18,x19,x20⟩:=x;obtain⟨y1,⟨y2,y3⟩,⟨y4,y5⟩,⟨y6,y7⟩,⟨⟨y8,y9⟩,⟨qy,n8⟩,sj⟩,⟨⟨mH,I0⟩,⟨xc,XM⟩,y17⟩,y18,y19,Lr⟩:=y;unfold sD;simp only[VI];simp[and_assoc]
theorem aZ{α:Type}{c b:Bool}{x y r:α}(h:c=b)(k:cond (not b) x y=r):cond (not c) x y=r:=by subst h;exact k
def bm(o:aW):Int :=if o.1<1 then 1 else if 8<o.1 then 1 else if cz o.2.1=false then 1 else if sD (kr o) F2=false then 1
 else if o.1=3 then(if pQ o.2.2.2.2.1=true∧pQ o.2.2.2.2.2.1=true then 0 else 1)
 else if o.1=5 then(if cz o.2.2.1=true∧cz o.2.2.2.1=true∧0≤o.2.2.2.2.2.2.2.2∧o.2.2.2.2.2.2.2.2≤3 then 0 else 1)
 else if o.1=6 then(if cz o.2.2.2.1=true then 0 else 1)
 else if o.1=8 then(if jZ o.2.2.2.2.2.2.2.2=true then 0 else 1)
 else if o.1=7 then(if lY o.2.2.2.2.2.2.2.1=true then 0 else 4)
 else 0
def I1(n:Int):Option ((Int×Unit)×Unit):=some ((n,()),())
theorem af5(hG:HG G)(o:aW)(ht:o.2.2.2.2.2.2.2.1.size≤100000000):FX G 46 Ry ((o,()),())=some ((bm o,()),()):=by
 refine aB (hG _ _ rfl) aj1 ?_;refine aa (Gt (hG _ _ rfl) o.2.1) ?_;unfold bm;by_cases h1:o.1<1
 ·rw[if_pos h1];have d:=decide_eq_true h1;simp only[d];rfl
 rw[if_neg h1];have d1:=decide_eq_false h1;by_cases h2:8<o.1
 ·rw[if_pos h2];have d:decide (o.1>8)=true:=decide_eq_true h2;simp only[d1,d];rfl
 rw[if_neg h2];have d2:decide (o.1>8)=false:=decide_eq_false h2
 cases hm:cz o.2.1
 ·rw[if_pos rfl];simp only[d1,d2];rfl
 rw[if_neg (by simp)];simp only[d1,d2];refine aa (alw (hG _ _ rfl) o) ?_;refine aZ (b:=sD (kr o) F2) rfl ?_
 cases he:sD (kr o) F2
 ·rw[if_pos rfl];rfl
 rw[if_neg (by simp)];by_cases h3:o.1=3
 ·rw[if_pos h3];have d:(o.1==(3:Int))=true:=by simp[h3]
  simp only[d];refine aa (af4 hG o.2.2.2.2.1) ?_;refine aa (af4 hG o.2.2.2.2.2.1) ?_
  cases hc:pQ o.2.2.2.2.1<;>cases qS:pQ o.2.2.2.2.2.1<;>rfl
 rw[if_neg h3];have d3:(o.1==(3:Int))=false:=by simp[h3]
 by_cases h5:o.1=5
 ·rw[if_pos h5];have d:(o.1==(5:Int))=true:=by simp[h5]
  simp only[d3,d];refine aa (Gt (hG _ _ rfl) o.2.2.1) ?_;refine aa (Gt (hG _ _ rfl) o.2.2.2.1) ?_
  cases hc:cz o.2.2.1
  ·rw[if_neg (by simp)];rfl
  cases qS:cz o.2.2.2.1
  ·rw[if_neg (by simp)];rfl
  by_cases h6:o.2.2.2.2.2.2.2.2<0
  ·have d6:=decide_eq_true h6;rw[if_neg (by omega)];simp only[d6];rfl
  have d6:=decide_eq_false h6;by_cases h7:o.2.2.2.2.2.2.2.2>3
  ·have d7:=decide_eq_true h7;rw[if_neg (by omega)];simp only[d6,d7];rfl
  have d7:=decide_eq_false h7;rw[if_pos ⟨rfl,rfl,by omega,by omega⟩];simp only[d6,d7];rfl
 rw[if_neg h5];have d5:(o.1==(5:Int))=false:=by simp[h5]
 by_cases h6:o.1=6
 ·rw[if_pos h6];have d:(o.1==(6:Int))=true:=by simp[h6]
  simp only[d3,d5,d];refine aa (Gt (hG _ _ rfl) o.2.2.2.1) ?_
  cases hc:cz o.2.2.2.1<;>rfl
 rw[if_neg h6];have d6:(o.1==(6:Int))=false:=by simp[h6]
 by_cases h8:o.1=8
 ·rw[if_pos h8];have d:(o.1==(8:Int))=true:=by simp[h8]
  simp only[d3,d5,d6,d];refine aa (abW (hG _ _ rfl) o.2.2.2.2.2.2.2.2) ?_
  cases hc:jZ o.2.2.2.2.2.2.2.2<;>rfl
 rw[if_neg h8];have d8:(o.1==(8:Int))=false:=by simp[h8]
 by_cases h7:o.1=7
 ·rw[if_pos h7];have d:(o.1==(7:Int))=true:=by simp[h7]
  simp only[d3,d5,d6,d8,d];refine aa (abV (hG _ _ rfl) o.2.2.2.2.2.2.2.1 (by omega)) ?_
  cases hc:lY o.2.2.2.2.2.2.2.1<;>rfl
 rw[if_neg h7];have d7:(o.1==(7:Int))=false:=by simp[h7]
 simp only[d3,d5,d6,d8,d7];rfl
def Ak(o:aW):Prop:=o.2.2.2.2.2.2.2.1.size≤100000000
def lZ:List aW→Int
 |[]=>0
 |o::r=>if bm o≠0 then bm o else lZ r
def fC(l:List aW):Int:=if 1≤l.length∧l.length≤6 then lZ l else 3
theorem alx(hG:HG G)(l:List aW)(ht:∀o∈l,Ak o):FX G 69 KY ((l,()),())=some ((fC l,()),()):=by
 refine aB (hG _ _ rfl) ajZ ?_;unfold fC;by_cases h1:l.length<1
 ·have d:decide (((l.length:Nat):Int)<1)=true:=decide_eq_true (by omega);rw[if_neg (by omega)];simp only[d];rfl
 have d1:decide (((l.length:Nat):Int)<1)=false:=decide_eq_false (by omega);by_cases h2:6<l.length
 ·have d:decide (((l.length:Nat):Int)>6)=true:=decide_eq_true (by omega);rw[if_neg (by omega)];simp only[d1,d];rfl
 have d2:decide (((l.length:Nat):Int)>6)=false:=decide_eq_false (by omega);rw[if_pos (by omega)];simp only[d1,d2];have key:=cq l (fun i (_:Unit)=>LX G 69 KY Tryz.f69 Et (aS Tryz.prog 69 0) ((i,()),(((l,()),()),()))) (fun(r:List aW) (_:Unit)=>((lZ r,()),())) (fun _ _=>True) (fun _ _=>by refine aw UK ?_;simp only[dR];rfl) (fun i o r _ hi hx Cb _ ih=>by
   refine aw UK ?_;simp only[ba hi,aC hx,Option.bind_some,aI hi (show l.length≤1073741824 by omega)];refine aa (af5 hG o (ht o (ab6 hx))) ?_;rw[lZ];by_cases h:bm o=0
   ·have d:(bm o != 0)=false:=by simp[h]
    rw[if_neg (by simp[h])];simp only[d];exact ih () trivial
   ·have d:(bm o != 0)=true:=by simp[h]
    rw[if_pos h];simp only[d];rfl)
  () trivial
 exact key
theorem af{α:Type}{c:Bool}{x y r:α}(h:c=true)(k:x=r):cond c x y=r:=by subst h;exact k
theorem ag{α:Type}{c:Bool}{x y r:α}(h:c=false)(k:y=r):cond c x y=r:=by subst h;exact k
theorem dp{a b:Bool}(h:a=true)(k:b=true):(a&&b)=true:=by rw[h,k];rfl
def zS:StateT:=(([],[]),[])
abbrev au(o:aW):ID:=o.2.1
abbrev b6(o:aW):ID:=o.2.2.1
abbrev aj(o:aW):ID:=o.2.2.2.1
abbrev oA(o:aW):ml:=o.2.2.2.2.1
abbrev oB(o:aW):ml:=o.2.2.2.2.2.1
abbrev cW(o:aW):Bool:=o.2.2.2.2.2.2.1
abbrev gO(o:aW):ByteArray:=o.2.2.2.2.2.2.2.1
abbrev oN(o:aW):Int:=o.2.2.2.2.2.2.2.2
def fJ(o:aW)(w:ai):ai:=if cW o=false∧w.1=au o then(if o.1=7 then(w.1,(w.2.1,(gO o,w.2.2.2))) else(w.1,(w.2.1,(w.2.2.1,oN o)))) else w
def gL(o:aW)(w:an):an:=if cW o=true∧w.1=au o then(if o.1=7 then(w.1,(gO o,w.2.2)) else(w.1,(w.2.1,oN o))) else w
def Gy(o:aW)(l:List ai):Bool := !(cW o)&&l.any fun w=>decide (w.1=au o)
def EW(o:aW)(l:List an):Bool:=cW o&&l.any fun w=>decide (w.1=au o)
def qC(s:StateT)(o:aW):StateT×(Int×Unit) :=if Gy o s.1.1 || EW o s.1.2 then(((s.1.1.map (fJ o),s.1.2.map (gL o)),s.2),(0,())) else(zS,(13,()))
theorem abX(s:StateT)(o:aW)(vs:List ai)(hs:Sm s.1):∀(n i:Nat) (fd:Bool) (out fin:List an),i+n=s.1.2.length→out=(s.1.2.take i).map (gL o)++s.1.2.drop i→fin=s.1.2.map (gL o) → LX G 86 D2 Tryz.f86 tC (aS Tryz.prog 86 1) ((fd,((i:Int),())),(((s,()),((o,()),((([]:List ai),(([]:List an),(([]:List aE),()))),((vs,(out,())),())))),())) = some ((if(fd || EW o (s.1.2.drop i)) then((((vs,fin),s.2),((0:Int),())):StateT×(Int×Unit)) else(zS,(13,()))),()):=by
 have he:=hs.e;intro n
 induction n with
 |zero =>
  intro i fd out fin hi ho hf;refine aw UQ ?_;have hol:out.length=s.1.2.length:=by rw[ho];simp;omega
  have h1:¬((i:Int)<(out.length:Int)):=by omega
  have h2:out=fin:=by rw[ho,hf,List.take_of_length_le (by omega),List.drop_eq_nil_of_le (by omega),List.append_nil]
  have h3:EW o (s.1.2.drop i)=false:=by rw[List.drop_eq_nil_of_le (by omega)];simp[EW]
  subst h2;rw[h3];simp only[h1,decide_false]
  cases fd<;>rfl
 |succ n ih =>
  intro i fd out fin hi ho hf;refine aw UQ ?_;have hol:out.length=s.1.2.length:=by rw[ho];simp;omega
  have aG:i<s.1.2.length:=by omega
  have hx:s.1.2[i]? = some s.1.2[i]:=aa4 aG;have hg:out[i]? = some s.1.2[i]:=by rw[ho];exact Jk _ _ _ _ hx
  have h2:s.1.2.drop i=s.1.2[i]::s.1.2.drop (i+1):=ac8 aG;have Al:=ba (show i<out.length by omega);have hw:=aI aG (show s.1.2.length≤1073741824 by omega);rw[h2];generalize s.1.2[i]=y at *;have hE:EW o (y::s.1.2.drop (i+1))=((cW o&&decide (y.1=au o)) || EW o (s.1.2.drop (i+1))):=by unfold EW;cases cW o<;>simp
  rw[hE];refine af Al ?_
  cases VN:cW o
  ·have e1:gL o y=y:=by unfold gL;rw[if_neg (by simp[VN])]
   rw[Bool.false_and,Bool.false_or];refine ag VN ?_;rw[wI,hw];exact ih (i+1) fd out fin (by omega) (by rw[ho];exact tG _ _ _ _ hx e1) hf
  ·rw[Bool.true_and];refine af VN ?_;refine af (dp (gr i) Al) ?_;refine aa hg ?_;by_cases hq:y.1=au o
   ·refine af ((jl y.1 (au o)).trans (decide_eq_true hq)) ?_;rw[decide_eq_true hq,Bool.true_or,Bool.or_true,wI,hw];by_cases h7:o.1=7
    ·have e1:gL o y=(y.1,(gO o,y.2.2)):=by unfold gL;rw[if_pos ⟨VN,hq⟩,if_pos h7]
     refine af (show(o.1==(7:Int))=true by simp[h7]) ?_;refine af (dp (gr i) Al) ?_;refine aa hg ?_;have:=ih (i+1) true (out.set i (y.1,(gO o,y.2.2))) fin (by omega) (by rw[ho,←yz _ _ _ _ hx,e1]) hf;rw[Bool.true_or]at this;exact this
    ·have e1:gL o y=(y.1,(y.2.1,oN o)):=by unfold gL;rw[if_pos ⟨VN,hq⟩,if_neg h7]
     refine ag (show(o.1==(7:Int))=false by simp[h7]) ?_;refine af (dp (gr i) Al) ?_;refine aa hg ?_;have:=ih (i+1) true (out.set i (y.1,(y.2.1,oN o))) fin (by omega) (by rw[ho,←yz _ _ _ _ hx,e1]) hf;rw[Bool.true_or]at this;exact this
   ·have e1:gL o y=y:=by unfold gL;rw[if_neg (fun h=>hq h.2)]
    refine ag ((jl y.1 (au o)).trans (decide_eq_false hq)) ?_;rw[decide_eq_false hq,Bool.false_or,wI,hw];exact ih (i+1) fd out fin (by omega) (by rw[ho];exact tG _ _ _ _ hx e1) hf
theorem abY(s:StateT)(o:aW)(hs:Sm s.1):∀(n i:Nat) (fd:Bool) (out fin:List ai),i+n=s.1.1.length→out=(s.1.1.take i).map (fJ o)++s.1.1.drop i→fin=s.1.1.map (fJ o) → LX G 86 D2 Tryz.f86 tB (aS Tryz.prog 86 0) ((fd,((i:Int),())),(((s,()),((o,()),((([]:List ai),(([]:List an),(([]:List aE),()))),((out,(s.1.2,())),())))),())) = some ((if((fd || Gy o (s.1.1.drop i)) || EW o s.1.2) then((((fin,s.1.2.map (gL o)),s.2),((0:Int),())):StateT×(Int×Unit)) else(zS,(13,()))),()):=by
 have hv:=hs.v;intro n
 induction n with
 |zero =>
  intro i fd out fin hi ho hf;refine aw UP ?_;have hol:out.length=s.1.1.length:=by rw[ho];simp;omega
  have h1:¬((i:Int)<(out.length:Int)):=by omega
  have h2:out=fin:=by rw[ho,hf,List.take_of_length_le (by omega),List.drop_eq_nil_of_le (by omega),List.append_nil]
  have h3:Gy o (s.1.1.drop i)=false:=by rw[List.drop_eq_nil_of_le (by omega)];simp[Gy]
  subst h2;rw[h3,Bool.or_false];simp only[h1,decide_false];exact abX s o out hs s.1.2.length 0 fd s.1.2 (s.1.2.map (gL o)) (by omega) (by simp) rfl
 |succ n ih =>
  intro i fd out fin hi ho hf;refine aw UP ?_;have hol:out.length=s.1.1.length:=by rw[ho];simp;omega
  have aG:i<s.1.1.length:=by omega
  have hx:s.1.1[i]? = some s.1.1[i]:=aa4 aG;have hg:out[i]? = some s.1.1[i]:=by rw[ho];exact Jk _ _ _ _ hx
  have h2:s.1.1.drop i=s.1.1[i]::s.1.1.drop (i+1):=ac8 aG;have Al:=ba (show i<out.length by omega);have hw:=aI aG (show s.1.1.length≤1073741824 by omega);rw[h2];generalize s.1.1[i]=y at *;have hE:Gy o (y::s.1.1.drop (i+1))=((!(cW o)&&decide (y.1=au o)) || Gy o (s.1.1.drop (i+1))):=by unfold Gy;cases cW o<;>simp
  rw[hE];refine af Al ?_
  cases VN:cW o
  ·rw[Bool.not_false,Bool.true_and];refine af (show(!(cW o))=true by rw[VN];rfl) ?_;refine af (dp (gr i) Al) ?_;refine aa hg ?_;by_cases hq:y.1=au o
   ·refine af ((jl y.1 (au o)).trans (decide_eq_true hq)) ?_;rw[decide_eq_true hq,Bool.true_or,Bool.or_true,Bool.true_or,wI,hw];by_cases h7:o.1=7
    ·have e1:fJ o y=(y.1,(y.2.1,(gO o,y.2.2.2))):=by unfold fJ;rw[if_pos ⟨VN,hq⟩,if_pos h7]
     refine af (show(o.1==(7:Int))=true by simp[h7]) ?_;refine af (dp (gr i) Al) ?_;refine aa hg ?_;have:=ih (i+1) true (out.set i (y.1,(y.2.1,(gO o,y.2.2.2)))) fin (by omega) (by rw[ho,←yz _ _ _ _ hx,e1]) hf;rw[Bool.true_or,Bool.true_or]at this;exact this
    ·have e1:fJ o y=(y.1,(y.2.1,(y.2.2.1,oN o))):=by unfold fJ;rw[if_pos ⟨VN,hq⟩,if_neg h7]
     refine ag (show(o.1==(7:Int))=false by simp[h7]) ?_;refine af (dp (gr i) Al) ?_;refine aa hg ?_;have:=ih (i+1) true (out.set i (y.1,(y.2.1,(y.2.2.1,oN o)))) fin (by omega) (by rw[ho,←yz _ _ _ _ hx,e1]) hf;rw[Bool.true_or,Bool.true_or]at this;exact this
   ·have e1:fJ o y=y:=by unfold fJ;rw[if_neg (fun h=>hq h.2)]
    refine ag ((jl y.1 (au o)).trans (decide_eq_false hq)) ?_;rw[decide_eq_false hq,Bool.false_or,wI,hw];exact ih (i+1) fd out fin (by omega) (by rw[ho];exact tG _ _ _ _ hx e1) hf
  ·have e1:fJ o y=y:=by unfold fJ;rw[if_neg (by simp[VN])]
   rw[Bool.not_true,Bool.false_and,Bool.false_or];refine ag (show(!(cW o))=false by rw[VN];rfl) ?_;rw[wI,hw];exact ih (i+1) fd out fin (by omega) (by rw[ho];exact tG _ _ _ _ hx e1) hf
theorem aly(hG:HG G)(s:StateT)(o:aW)(hs:Sm s.1):FX G 86 D2 ((s,o,()),())=some (qC s o,()):=by have hv:=hs.v;have he:=hs.e;refine aB (hG _ _ rfl) aj8 ?_;refine aa (afR (hG _ _ rfl) s.1 (by omega) (by omega) (fun w hw=>by have:=hs.r w hw;omega)) ?_;have:=abY (G:=G) s o hs s.1.1.length 0 false s.1.1 (s.1.1.map (fJ o)) (by omega) (by simp) rfl;rw[Bool.false_or]at this;exact this
structure Bd(n:Nat)(d:ak):Prop where
 v:d.1.length≤n
 e:d.2.length≤n
 r:∀w∈d.1,w.2.1.length≤n
theorem Bd.sm{n:Nat}{d:ak}(h:Bd n d)(hn:n≤50000000):Sm d:=⟨by have:=h.v;omega,by have:=h.e;omega,fun w hw=>by have:=h.r w hw;omega⟩
theorem Bd.mono{n m:Nat}{d:ak}(h:Bd n d)(hm:n≤m):Bd m d:=⟨by have:=h.v;omega,by have:=h.e;omega,fun w hw=>by have:=h.r w hw;omega⟩
theorem gu(v:ai):∀l:List ai,(ct v l).length=l.length+1
 |[]=>rfl
 |w::r=>by unfold ct;split<;>simp[gu v r]
theorem l6(v:an):∀l:List an,(bS v l).length=l.length+1
 |[]=>rfl
 |w::r=>by unfold bS;split<;>simp[l6 v r]
theorem kx{v w:ai}:∀{l:List ai},w∈ct v l↔w=v∨w∈l
 |[]=>by simp[ct]
 |u::r=>by
  unfold ct
  split
  ·simp
  ·simp only[List.mem_cons,kx (l:=r)];exact⟨fun h=>by rcases h with h|h|h<;>simp[h],fun h=>by rcases h with h|h|h<;>simp[h]⟩
theorem ky{v w:an}:∀{l:List an},w∈bS v l↔w=v∨w∈l
 |[]=>by simp[bS]
 |u::r=>by
  unfold bS
  split
  ·simp
  ·simp only[List.mem_cons,ky (l:=r)];exact⟨fun h=>by rcases h with h|h|h<;>simp[h],fun h=>by rcases h with h|h|h<;>simp[h]⟩
theorem BI(row:List ae)(a d:ae):(gN row a d).length≤row.length+1:=by
 unfold gN
 split
 ·rw[iv];omega
 ·rw[iv];simp;omega
theorem BJ(row:List ae)(d:ae):(bz row d).length≤row.length:=by unfold bz;rw[iv];exact ac9 _ _
theorem Jm(row:List ae)(a d:ae):(dJ row a d).length=row.length:=by unfold dJ;rw[iv];split<;>simp
theorem Bd.aV{n:Nat}{d:ak}(h:Bd n d)(x:ID):(aV d x).length≤n:=by
 unfold Vs.aV
 cases hf:aO d x with
 |none=>simp[zV]
 |some v=>exact h.r v (acq hf)
theorem Bd.b8{n:Nat}{d:ak}(h:Bd n d){x:ID}{l:List ae}(hl:l.length≤n):Bd n (b8 d x l):=by
 refine⟨by simp[Vs.b8];exact h.v,h.e,fun w hw=>?_⟩;obtain⟨u,hu,rfl⟩:=aca.1 hw;unfold iM
 split
 ·exact hl
 ·exact h.r u hu
theorem Bd.br{n:Nat}{d:ak}(h:Bd n d)(c:ml)(x:ae):Bd (n+1) (br d c x) :=(h.mono (by omega)).b8 (by have:=BI (Vs.aV d c.1) c.2 x;have:=h.aV c.1;omega)
theorem Bd.az{n:Nat}{d:ak}(h:Bd n d)(a x:ae):Bd n (az d a x) :=h.b8 (by rw[Jm];exact h.aV _)
theorem Bd.av{n:Nat}{d:ak}(h:Bd n d)(x:ae):Bd n (av d x) :=h.b8 (by have:=BJ (Vs.aV d ((bJ d x).getD zI)) x;have:=h.aV ((bJ d x).getD zI);omega)
theorem Bd.aF{n:Nat}{d:ak}(h:Bd n d)(v e:ID):Bd n (aF d v e) :=⟨acN (ac9 _ _) h.v,acN (ac9 _ _) h.e,fun w hw=>h.r w (adg.1 hw).1⟩
theorem Bd.ct{n:Nat}{d:ak}(h:Bd n d)(v:ai)(hv:v.2.1.length≤n+1):Bd (n+1) (ct v d.1,d.2) :=⟨by rw[gu];have:=h.v;omega,by have:=h.e;simp only;omega,fun w hw=>by
  rcases kx.1 hw with rfl|hw
  ·exact hv
  ·have:=h.r w hw;omega⟩
theorem Bd.bS{n:Nat}{d:ak}(h:Bd n d)(v:an):Bd (n+1) (d.1,bS v d.2) :=⟨by have:=h.v;simp only;omega,by rw[l6];have:=h.e;omega,fun w hw=>by have:=h.r w hw;omega⟩
theorem BL(g:aE):∀l:List aE,(mM g l).length≤l.length+1
 |[]=>by simp[mM]
 |e::r=>by
  unfold mM
  split
  ·have:=ac9 (fun q:aE=>decide (q.1≠g.1)) (e::r);simp[pP];simp at this;omega
  ·have:=BL g r
   split<;>simp<;>omega
theorem gi(l:List aE)(g:aE):(bN l g).length≤l.length+1:=by
 unfold bN;split
 ·omega
 ·exact BL g l
def gP(s:StateT)(o:aW):ak :=br (br (s.1.1,bS (au o,(e0,0)) s.1.2) (aR s (oA o)).1 (au o,0)) (if(aO s.1 (oB o).1).isSome=true∧(oB o).2=(au o,0) then oB o else(aR s (oB o)).1) (au o,1)
def kK(s:StateT)(o:aW):StateT×(Int×Unit) :=if(cH s.1 (au o)).isSome=true then(zS,(12,()))
 else if 40≤s.1.2.length then(zS,(3,()))
 else if(aR s (oA o)).2.1≠0 then(zS,(13,()))
 else if(aR s (oB o)).2.1≠0 then(zS,(13,()))
 else if bK (gP s o)≠0 then(zS,(15,()))
 else((gP s o,s.2),(0,()))
theorem alz(hG:HG G){n:Nat}(s:StateT)(o:aW)(hs:Bd n s.1)(hn:n≤4000000)(hg:s.2.length≤50000000):FX G 82 Um ((s,o,()),())=some (kK s o,()):=by
  have hv:=hs.v;have he:=hs.e;have RX:=hs.sm (by omega);refine aB (hG _ _ rfl) aj4 ?_;refine aa (VM (hG _ _ rfl) s.1 (au o) (by omega)) ?_;rw[show(jY zE (cH s.1 (au o))).2.1=(cH s.1 (au o)).isSome from iF _ _];unfold kK
  cases h1:(cH s.1 (au o)).isSome
  case true=>rw[if_pos rfl];rfl
  rw[if_neg (by simp)];by_cases h2:40≤s.1.2.length
  · have d:decide (((s.1.2.length:Nat):Int)≥40)=true:=decide_eq_true (by omega)
    rw[if_pos h2];simp only[d];rfl
  have d2:decide (((s.1.2.length:Nat):Int)≥40)=false:=decide_eq_false (by omega);rw[if_neg h2];simp only[d2];refine aa (af1 hG s (oA o) RX hg) ?_;refine aa (af1 hG s (oB o) RX hg) ?_;refine aa (Gu (hG _ _ rfl) s.1 (oB o).1 (by omega)) ?_;rw[show(jY zV (aO s.1 (oB o).1)).2.1=(aO s.1 (oB o).1).isSome from iF _ _];have b1:=hs.bS (au o,(e0,0));have b2:=b1.br (aR s (oA o)).1 (au o,0);have fin:∀(bc:ml),gP s o=br (br (s.1.1,bS (au o,(e0,0)) s.1.2) (aR s (oA o)).1 (au o,0)) bc (au o,1) →(cond ((aR s (oA o)).2.1 != 0) (some (((([],[]),[]),((13:Int),())),())) (cond ((aR s (oB o)).2.1 != 0) (some (((([],[]),[]),((13:Int),())),())) ((FX G 115 B4 ((s.1,((au o,(e0,(0:Int))),())),())).bind fun(y5:((ak×Unit)×Unit)) =>(FX G 116 B5 ((y5.1.1,((aR s (oA o)).1,((au o,(0:Int)),()))),())).bind fun(y6:((ak×Unit)×Unit)) =>(FX G 116 B5 ((y6.1.1,(bc,((au o,(1:Int)),()))),())).bind fun(y7:((ak×Unit)×Unit)) =>(FX G 107 IU ((y7.1.1,()),())).bind fun(y8:((Int×Unit)×Unit)) =>cond (y8.1.1 != (0:Int)) (some (((([],[]),[]),((15:Int),())),())) (some (((y7.1.1,s.2),((0:Int),())),())))):Option ((StateT×(Int×Unit))×Unit)) = some ((if(aR s (oA o)).2.1≠0 then(zS,(13,())) else if(aR s (oB o)).2.1≠0 then(zS,(13,())) else if bK (gP s o)≠0 then(zS,(15,())) else((gP s o,s.2),(0,())):StateT×(Int×Unit)),()):=by
    intro bc hbc;by_cases h3:(aR s (oA o)).2.1=0
    case neg =>
      have d:((aR s (oA o)).2.1 != 0)=true:=by simp[h3]
      rw[if_pos h3,d];rfl
    rw[if_neg (by simp[h3]),show((aR s (oA o)).2.1 != 0)=false by simp[h3]];by_cases h4:(aR s (oB o)).2.1=0
    case neg =>
      have d:((aR s (oB o)).2.1 != 0)=true:=by simp[h4]
      rw[if_pos h4,d];rfl
    rw[if_neg (by simp[h4]),show((aR s (oB o)).2.1 != 0)=false by simp[h4]];simp only[cond_false];have b3:=b2.br bc (au o,1);rw[←hbc]at b3;refine aa (afT hG s.1 (au o,(e0,0)) (by omega)) ?_;refine aa (afV hG _ _ _ (b1.sm (by omega))) ?_;refine aa ((afV hG (br (s.1.1,bS (au o,(e0,0)) s.1.2) (aR s (oA o)).1 (au o,0)) bc (au o,1) (b2.sm (by omega))).trans (congrArg (fun z:ak=>some ((z,()),())) hbc.symm)) ?_;refine aa (abU hG (gP s o) (b3.sm (by omega)) (by have:=b3.e;omega)) ?_;by_cases h5:bK (gP s o)=0
    · rw[if_neg (by simp[h5])]
      have d:(bK (gP s o) != 0)=false:=by simp[h5]
      simp only[d];rfl
    · rw[if_pos h5]
      have d:(bK (gP s o) != 0)=true:=by simp[h5]
      simp only[d];rfl
  have hb:((((oB o).2.1.1==o.2.1.1)&&((oB o).2.1.2==o.2.1.2))&&((oB o).2.2==(0:Int)))=decide ((oB o).2=(au o,0)):=lW (oB o).2 (au o,0);simp only[hb]
  cases h6:(aO s.1 (oB o).1).isSome
  · exact fin (aR s (oB o)).1 (by unfold gP;rw[if_neg (by simp[h6])])
  · by_cases h7:(oB o).2=(au o,0)
    · have d:=decide_eq_true h7
      simp only[d];exact fin (oB o) (by unfold gP;rw[if_pos ⟨h6,h7⟩])
    · have d:=decide_eq_false h7
      simp only[d];exact fin (aR s (oB o)).1 (by unfold gP;rw[if_neg (by simp[h7])])
def wM(s:StateT)(o:aW):StateT×(Int×Unit) :=if(cH s.1 (au o)).isSome=false then(zS,(13,()))
 else((aF (av (av s.1 (au o,0)) (au o,1)) zI (au o),bN (bN s.2 ((au o,0),dA s.1 (au o,0))) ((au o,1),dA s.1 (au o,1))),(0,()))
theorem alA(hG:HG G){n:Nat}(s:StateT)(o:aW)(hs:Bd n s.1)(hn:n≤4000000)(hg:s.2.length≤5000000):FX G 83 Un ((s,o,()),())=some (wM s o,()):=by
 have hv:=hs.v;have he:=hs.e;have RX:=hs.sm (by omega);refine aB (hG _ _ rfl) aj5 ?_;refine aa (VM (hG _ _ rfl) s.1 (au o) (by omega)) ?_;rw[show(jY zE (cH s.1 (au o))).2.1=(cH s.1 (au o)).isSome from iF _ _];unfold wM
 cases h1:(cH s.1 (au o)).isSome
 case false=>rw[if_pos rfl];rfl
 rw[if_neg (by simp)];have b1:=hs.av (au o,0);have b2:=b1.av (au o,1);have l1:=gi s.2 ((au o,0),dA s.1 (au o,0));refine aa (afY hG s.1 (au o,0) RX) ?_;refine aa (YO hG s.2 ((au o,0),dA s.1 (au o,0)) (by omega)) ?_;refine aa (afY hG s.1 (au o,1) RX) ?_;refine aa (YO hG (bN s.2 ((au o,0),dA s.1 (au o,0))) ((au o,1),dA s.1 (au o,1)) (by omega)) ?_;refine aa (afX hG s.1 (au o,0) RX) ?_;refine aa (afX hG (av s.1 (au o,0)) (au o,1) (b1.sm (by omega))) ?_;exact aa (YN (hG _ _ rfl) (av (av s.1 (au o,0)) (au o,1)) zI (au o) (by have:=b2.v;omega) (by have:=b2.e;omega)) rfl
def Jn(o:aW):ae:=(au o,IntKind.wrap .i64 (1-Int.tmod (oN o) 2))
def F3(o:aW):ae:=(aj o,IntKind.wrap .i64 (Int.tdiv (oN o) 2))
def Jo(s:StateT)(o:aW):ak :=(ct (b6 o,(bB [Jn o,F3 o],(e0,0))) (az s.1 (Jn o) (ah (F3 o))).1,bS (aj o,(e0,0)) (az s.1 (Jn o) (ah (F3 o))).2)
def iS(s:StateT)(o:aW):StateT×(Int×Unit) :=if(cH s.1 (au o)).isSome=false then(zS,(13,()))
 else if(aO s.1 (b6 o)).isSome=true then(zS,(12,()))
 else if(cH s.1 (aj o)).isSome=true then(zS,(12,()))
 else if 24≤s.1.1.length then(zS,(3,()))
 else if 40≤s.1.2.length then(zS,(3,()))
 else((Jo s o,s.2),(0,()))
theorem alB(hG:HG G){n:Nat}(s:StateT)(o:aW)(hs:Bd n s.1)(hn:n≤4000000):FX G 84 Uo ((s,o,()),())=some (iS s o,()):=by
 have hv:=hs.v;have he:=hs.e;have RX:=hs.sm (by omega);refine aB (hG _ _ rfl) aj6 ?_;refine aa (VM (hG _ _ rfl) s.1 (au o) (by omega)) ?_;rw[show(jY zE (cH s.1 (au o))).2.1=(cH s.1 (au o)).isSome from iF _ _];unfold iS
 cases h1:(cH s.1 (au o)).isSome
 case false=>rw[if_pos rfl];rfl
 rw[if_neg (by simp)];refine aa (Gu (hG _ _ rfl) s.1 (b6 o) (by omega)) ?_;rw[show(jY zV (aO s.1 (b6 o))).2.1=(aO s.1 (b6 o)).isSome from iF _ _];refine aa (VM (hG _ _ rfl) s.1 (aj o) (by omega)) ?_;rw[show(jY zE (cH s.1 (aj o))).2.1=(cH s.1 (aj o)).isSome from iF _ _]
 cases h2:(aO s.1 (b6 o)).isSome
 case true=>rw[if_pos rfl];rfl
 rw[if_neg (by simp)]
 cases h3:(cH s.1 (aj o)).isSome
 case true=>rw[if_pos rfl];rfl
 rw[if_neg (by simp)];by_cases h4:24≤s.1.1.length
 ·have d:decide (((s.1.1.length:Nat):Int)≥24)=true:=decide_eq_true (by omega);rw[if_pos h4];simp only[d];rfl
 have d4:decide (((s.1.1.length:Nat):Int)≥24)=false:=decide_eq_false (by omega);rw[if_neg h4];by_cases h5:40≤s.1.2.length
 ·have d:decide (((s.1.2.length:Nat):Int)≥40)=true:=decide_eq_true (by omega);rw[if_pos h5];simp only[d4,d];rfl
 have d5:decide (((s.1.2.length:Nat):Int)≥40)=false:=decide_eq_false (by omega);rw[if_neg h5];simp only[d4,d5];have d6:((2:Int)==0)=false:=rfl;simp only[d6];have b1:=hs.az (Jn o) (ah (F3 o));have b2:=b1.bS (aj o,(e0,0));refine aa (abP (hG _ _ rfl) (F3 o)) ?_;refine aa (afW hG s.1 (Jn o) (ah (F3 o)) RX) ?_;refine aa (afT hG (az s.1 (Jn o) (ah (F3 o))) (aj o,(e0,0)) (by have:=b1.e;omega)) ?_;refine aa (Ji hG [Jn o,F3 o] (by simp)) ?_;exact aa (afS hG ((az s.1 (Jn o) (ah (F3 o))).1,bS (aj o,(e0,0)) (az s.1 (Jn o) (ah (F3 o))).2) (b6 o,(bB [Jn o,F3 o],(e0,0))) (acN b1.v (by omega))) rfl
def sE(a b:ae)(i:Int):ae:=if(b.1,i)=ah b then a else zD
def Hs(g:List aE)(a b:ae):List aE:=bN (bN g ((b.1,0),sE a b 0)) ((b.1,1),sE a b 1)
def Gz(s:StateT)(o:aW)(a b:ae):ak:=aF (az (aF s.1 (au o) zI) (ah b) a) zI b.1
theorem alC(hG:HG G)(g:List aE)(a b:ae)(d:ak)(hg:g.length≤5000000) :
  LX G 85 B3 Tryz.f85 nW (aS Tryz.prog 85 0) ((g,((0:Int),())),(((([]:List ai),(([]:List an),(([]:List aE),()))),((a,()),((b,()),((ah b,()),((d,()),()))))),()))=some (((d,Hs g a b),((0:Int),())),()):=by
 have l2:∀g2:List aE,LX G 85 B3 Tryz.f85 nW (aS Tryz.prog 85 0) ((g2,((2:Int),())),(((([]:List ai),(([]:List an),(([]:List aE),()))),((a,()),((b,()),((ah b,()),((d,()),()))))),()))=some (((d,g2),((0:Int),())),()):=fun g2 =>aw UO (ag rfl rfl);have step:∀(i:Int) (g1:List aE) (r:(StateT×(Int×Unit))×Unit),i<2→g1.length≤5000001→LX G 85 B3 Tryz.f85 nW (aS Tryz.prog 85 0) ((bN g1 ((b.1,i),sE a b i),(IntKind.wrap .i64 (i+1),())),(((([]:List ai),(([]:List an),(([]:List aE),()))),((a,()),((b,()),((ah b,()),((d,()),()))))),()))=some r → LX G 85 B3 Tryz.f85 nW (aS Tryz.prog 85 0) ((g1,(i,())),(((([]:List ai),(([]:List an),(([]:List aE),()))),((a,()),((b,()),((ah b,()),((d,()),()))))),()))=some r:=fun i g1 r hi hg1 h=>by
  refine aw UO ?_;refine af (decide_eq_true hi) ?_;unfold sE at h;by_cases he:((b.1,i):ae)=ah b
  ·rw[if_pos he]at h;refine af ((lW (b.1,i) (ah b)).trans (decide_eq_true he)) ?_;refine aa (YO hG g1 ((b.1,i),a) (by omega)) ?_;exact h
  ·rw[if_neg he]at h;refine ag ((lW (b.1,i) (ah b)).trans (decide_eq_false he)) ?_;refine aa (YO hG g1 ((b.1,i),zD) (by omega)) ?_;exact h
 have a1:=gi g ((b.1,0),sE a b 0);refine step 0 g _ (by omega) (by omega) ?_;refine step 1 _ _ (by omega) (by omega) ?_;exact l2 _
def dG(s:StateT)(o:aW)(r0 r1:ae):StateT×(Int×Unit) :=if r0.1=r1.1 then(zS,(14,()))
 else if r0.1=aj o then((Gz s o r1 r0,Hs s.2 r1 r0),(0,()))
 else if r1.1=aj o then((Gz s o r0 r1,Hs s.2 r0 r1),(0,()))
 else(zS,(14,()))
def fU(s:StateT)(o:aW):StateT×(Int×Unit):=match aO s.1 (au o) with
 |none=>(zS,(13,()))
 |some v=>match v.2.1 with
  |[r0,r1]=>dG s o r0 r1
  |_=>(zS,(14,()))
theorem alD(hG:HG G){n:Nat}(s:StateT)(o:aW)(hs:Bd n s.1)(hn:n≤4000000)(hg:s.2.length≤5000000):FX G 85 B3 ((s,o,()),())=some (fU s o,()):=by
  have hv:=hs.v;have he:=hs.e;have RX:=hs.sm (by omega);refine aB (hG _ _ rfl) aj7 ?_;refine aa (Gu (hG _ _ rfl) s.1 (au o) (by omega)) ?_;unfold fU
  cases hf:aO s.1 (au o) with
  |none=>rfl
  |some v =>
    refine ag (show(!true)=false from rfl) ?_;have two:∀(a b:ae) (r:Option ((StateT×(Int×Unit))×Unit)),r=some (((Gz s o a b,Hs s.2 a b),((0:Int),())),()) →((FX G 121 Gl ((b,()),())).bind fun(y8:((ae×Unit)×Unit)) =>(FX G 81 rz ((s.1,(au o,(zI,()))),())).bind fun(y9:((ak×Unit)×Unit)) =>(FX G 120 K1 ((y9.1.1,(y8.1.1,(a,()))),())).bind fun(qy:((ak×Unit)×Unit)) =>(FX G 81 rz ((qy.1.1,(zI,(b.1,()))),())).bind fun(n8:((ak×Unit)×Unit)) =>LX G 85 B3 Tryz.f85 nW (aS Tryz.prog 85 0) ((s.2,((0:Int),())),(((([]:List ai),(([]:List an),(([]:List aE),()))),((a,()),((b,()),((y8.1.1,()),((n8.1.1,()),()))))),())))=r:=fun a b r hr=>by subst hr;have b1:=hs.aF (au o) zI;have b2:=b1.az (ah b) a;refine aa (abP (hG _ _ rfl) b) ?_;refine aa (YN (hG _ _ rfl) s.1 (au o) zI (by omega) (by omega)) ?_;refine aa (afW hG (aF s.1 (au o) zI) (ah b) a (b1.sm (by omega))) ?_;refine aa (YN (hG _ _ rfl) (az (aF s.1 (au o) zI) (ah b) a) zI b.1 (by have:=b2.v;omega) (by have:=b2.e;omega)) ?_;exact alC hG s.2 a b (Gz s o a b) hg
    obtain⟨vi,ring,vr⟩:=v;by_cases hl:ring.length=2
    case neg =>
      refine af (show((((ring.length:Nat):Int)) != 2)=true by simp;omega) ?_
      match ring,hl with
      |[],_=>rfl
      |[_],_=>rfl
      |[_,_],h=>exact absurd rfl h
      |_::_::_::_,_=>rfl
    match ring,hl with
    |[r0,r1],_ =>
      refine ag (show((((2:Nat):Int)) != 2)=false from rfl) ?_;refine aa (show bh [r0,r1] 0=some r0 from rfl) ?_;refine aa (show bh [r0,r1] 1=some r1 from rfl) ?_;show _=some (dG s o r0 r1,());unfold dG;by_cases h1:r0.1=r1.1
      · rw[if_pos h1]
        exact af ((jl r0.1 r1.1).trans (decide_eq_true h1)) rfl
      rw[if_neg h1];refine ag ((jl r0.1 r1.1).trans (decide_eq_false h1)) ?_;refine aa (show bh [r0,r1] 0=some r0 from rfl) ?_;refine aa (show bh [r0,r1] 1=some r1 from rfl) ?_;by_cases h2:r0.1=aj o
      · rw[if_pos h2]
        refine af ((jl r0.1 (aj o)).trans (decide_eq_true h2)) ?_;refine aa (show bh [r0,r1] 1=some r1 from rfl) ?_;refine aa (show bh [r0,r1] 0=some r0 from rfl) ?_;refine ag (by rw[show((r0.1.1==(aj o).1)&&(r0.1.2==(aj o).2))=true from(jl r0.1 (aj o)).trans (decide_eq_true h2)];rfl) ?_;exact two r1 r0 _ rfl
      rw[if_neg h2];refine ag ((jl r0.1 (aj o)).trans (decide_eq_false h2)) ?_;by_cases h3:r1.1=aj o
      · rw[if_pos h3]
        refine ag (by rw[show((r1.1.1==(aj o).1)&&(r1.1.2==(aj o).2))=true from(jl r1.1 (aj o)).trans (decide_eq_true h3)];rfl) ?_;exact two r0 r1 _ rfl
      · rw[if_neg h3]
        exact af (by rw[show((r1.1.1==(aj o).1)&&(r1.1.2==(aj o).2))=false from(jl r1.1 (aj o)).trans (decide_eq_false h3)];rfl) rfl
def l8(s:StateT)(o:aW):StateT×(Int×Unit) :=if(aO s.1 (au o)).isSome=true then(zS,(12,())) else if 24≤s.1.1.length then(zS,(3,())) else(((ct (au o,([],(e0,0))) s.1.1,s.1.2),s.2),(0,()))
def qD(s:StateT)(o:aW):StateT×(Int×Unit):=match aO s.1 (au o) with
 |none=>(zS,(13,()))
 |some v=>if 0<v.2.1.length then(zS,(14,())) else((aF s.1 (au o) zI,s.2),(0,()))
def bT(s:StateT)(o:aW):StateT×(Int×Unit) :=if bm o≠0 then(zS,(bm o,()))
 else if o.1=1 then l8 s o else if o.1=2 then qD s o else if o.1=3 then kK s o else if o.1=4 then wM s o else if o.1=5 then iS s o else if o.1=6 then fU s o else qC s o
theorem af6(hG:HG G){n:Nat}(s:StateT)(o:aW)(hs:Bd n s.1)(hn:n≤4000000)(hg:s.2.length≤5000000)(ht:Ak o):FX G 45 Rv ((s,o,()),())=some (bT s o,()):=by
 have hv:=hs.v;have he:=hs.e;refine aB (hG _ _ rfl) ajH ?_;refine aa (af5 hG o ht) ?_;unfold bT;by_cases h0:bm o=0
 case neg =>
  rw[if_pos h0];exact af (show(bm o != 0)=true by simp[h0]) rfl
 rw[if_neg (by simp[h0])];refine ag (show(bm o != 0)=false by simp[h0]) ?_;refine aa (Gu (hG _ _ rfl) s.1 (au o) (by omega)) ?_;by_cases h1:o.1=1
 ·rw[if_pos h1];refine af (show(o.1==(1:Int))=true by simp[h1]) ?_;rw[show(jY zV (aO s.1 (au o))).2.1=(aO s.1 (au o)).isSome from iF _ _];unfold l8
  cases hf:(aO s.1 (au o)).isSome
  ·rw[if_neg (by simp)];refine ag rfl ?_;by_cases h4:24≤s.1.1.length
   ·rw[if_pos h4];exact af (decide_eq_true (show((s.1.1.length:Nat):Int)≥24 by omega)) rfl
   ·rw[if_neg h4];refine ag (decide_eq_false (show ¬((s.1.1.length:Nat):Int)≥24 by omega)) ?_;exact aa (afS hG s.1 (au o,([],(e0,0))) (by omega)) rfl
  ·rw[if_pos rfl];rfl
 rw[if_neg h1];refine ag (show(o.1==(1:Int))=false by simp[h1]) ?_;by_cases h2:o.1=2
 ·rw[if_pos h2];refine af (show(o.1==(2:Int))=true by simp[h2]) ?_;unfold qD
  cases hf:aO s.1 (au o) with
  |none=>rfl
  |some v =>
   refine ag (show(!true)=false from rfl) ?_;by_cases h4:0<v.2.1.length
   ·show _=some ((if 0<v.2.1.length then(zS,(14,())) else((aF s.1 (au o) zI,s.2),(0,())):StateT×(Int×Unit)),());rw[if_pos h4];exact af (decide_eq_true (show((v.2.1.length:Nat):Int)>0 by omega)) rfl
   ·show _=some ((if 0<v.2.1.length then(zS,(14,())) else((aF s.1 (au o) zI,s.2),(0,())):StateT×(Int×Unit)),());rw[if_neg h4];refine ag (decide_eq_false (show ¬((v.2.1.length:Nat):Int)>0 by omega)) ?_;exact aa (YN (hG _ _ rfl) s.1 (au o) zI (by omega) (by omega)) rfl
 rw[if_neg h2];refine ag (show(o.1==(2:Int))=false by simp[h2]) ?_;by_cases h3:o.1=3
 ·rw[if_pos h3];refine af (show(o.1==(3:Int))=true by simp[h3]) ?_;exact aa (alz hG s o hs hn (by omega)) rfl
 rw[if_neg h3];refine ag (show(o.1==(3:Int))=false by simp[h3]) ?_;by_cases h4:o.1=4
 ·rw[if_pos h4];refine af (show(o.1==(4:Int))=true by simp[h4]) ?_;exact aa (alA hG s o hs hn hg) rfl
 rw[if_neg h4];refine ag (show(o.1==(4:Int))=false by simp[h4]) ?_;by_cases h5:o.1=5
 ·rw[if_pos h5];refine af (show(o.1==(5:Int))=true by simp[h5]) ?_;exact aa (alB hG s o hs hn) rfl
 rw[if_neg h5];refine ag (show(o.1==(5:Int))=false by simp[h5]) ?_;by_cases h6:o.1=6
 ·rw[if_pos h6];refine af (show(o.1==(6:Int))=true by simp[h6]) ?_;exact aa (alD hG s o hs hn hg) rfl
 rw[if_neg h6];refine ag (show(o.1==(6:Int))=false by simp[h6]) ?_;exact aa (aly hG s o (hs.sm (by omega))) rfl
structure Bs(n:Nat)(s:StateT):Prop where
 d:Bd n s.1
 g:s.2.length≤n
theorem Bs.mono{n m:Nat}{s:StateT}(h:Bs n s)(hm:n≤m):Bs m s:=⟨h.d.mono hm,by have:=h.g;omega⟩
theorem Bs.zero(n:Nat):Bs n zS:=⟨⟨adq _,adq _,fun w hw=>by simp[zS]at hw⟩,adq _⟩
theorem Bs.one{n:Nat}{s:StateT}(h:Bs n s)(o:aW):Bs (n+3) (bT s o).1:=by
 have h1:=h.d;have h2:=h.g;unfold bT
 split
 ·exact Bs.zero _
 split
 ·unfold l8;split
  ·exact Bs.zero _
  split
  ·exact Bs.zero _
  ·exact⟨(h1.ct _ (by simp)).mono (by omega),by simp only;omega⟩
 split
 ·unfold qD
  cases aO s.1 (au o) with
  |none=>exact Bs.zero _
  |some v =>
   simp only
   split
   ·exact Bs.zero _
   ·exact⟨(h1.aF _ _).mono (by omega),by simp only;omega⟩
 split
 ·unfold kK
  split;· exact Bs.zero _
  split;· exact Bs.zero _
  split;· exact Bs.zero _
  split;· exact Bs.zero _
  split;· exact Bs.zero _
  exact⟨by unfold gP;exact((h1.bS _).br _ _).br _ _,by simp only;omega⟩
 split
 ·unfold wM
  split;· exact Bs.zero _
  refine⟨(((h1.av _).av _).aF _ _).mono (by omega),?_⟩;have a1:=gi s.2 ((au o,0),dA s.1 (au o,0));have a2:=gi (bN s.2 ((au o,0),dA s.1 (au o,0))) ((au o,1),dA s.1 (au o,1));simp only;omega
 split
 ·unfold iS
  split;· exact Bs.zero _
  split;· exact Bs.zero _
  split;· exact Bs.zero _
  split;· exact Bs.zero _
  split;· exact Bs.zero _
  refine⟨?_,by simp only;omega⟩;have b2:=((h1.az (Jn o) (ah (F3 o))).bS (aj o,(e0,0)));exact(b2.ct (b6 o,(bB [Jn o,F3 o],(e0,0))) (by simp[iv])).mono (by omega)
 split
 ·unfold fU;have key:∀a b:ae,Bs (n+3) (Gz s o a b,Hs s.2 a b):=fun a b=>by refine⟨(((h1.aF _ _).az _ _).aF _ _).mono (by omega),?_⟩;have a1:=gi s.2 ((b.1,0),sE a b 0);have a2:=gi (bN s.2 ((b.1,0),sE a b 0)) ((b.1,1),sE a b 1);simp only[Hs];omega
  split
  ·exact Bs.zero _
  ·split
   ·unfold dG
    split;· exact Bs.zero _
    split;· exact key _ _
    split;· exact key _ _
    exact Bs.zero _
   ·exact Bs.zero _
 ·unfold qC
  split
  ·refine⟨⟨by simp;have:=h1.v;omega,by simp;have:=h1.e;omega,fun w hw=>?_⟩,by simp only;omega⟩;obtain⟨u,hu,rfl⟩:=aca.1 hw;have hr:=h1.r u hu;have e:(fJ o u).2.1=u.2.1:=by unfold fJ;split<;>(try split)<;>rfl
   rw[e];omega
  ·exact Bs.zero _
def j5:List aW→StateT→StateT×(Int×Unit)
 |[],s=>(s,(0,()))
 |o::r,s=>if(bT s o).2.1≠0 then(zS,(bT s o).2) else j5 r (bT s o).1
def cX(s:StateT)(l:List aW):StateT×(Int×Unit):=if fC l≠0 then(zS,(fC l,())) else j5 l s
theorem Bs.go{l:List aW}:∀{n:Nat} {s:StateT},Bs n s→Bs (n+3*l.length) (j5 l s).1:=by
 induction l with
 |nil=>intro n s h;exact h.mono (by simp)
 |cons o r ih =>
  intro n s h;unfold j5
  split
  ·exact Bs.zero _
  ·exact(ih (h.one o)).mono (by simp;omega)
theorem alE(hG:HG G){n:Nat}(s:StateT)(l:List aW)(hs:Bs n s)(hn:n+3*l.length≤3000000)(ht:∀o∈l,Ak o):FX G 49 KX ((s,l,()),())=some (cX s l,()):=by
 refine aB (hG _ _ rfl) ajW ?_;refine aa (alx hG l ht) ?_;unfold cX;by_cases h0:fC l=0
 case neg =>
  rw[if_pos h0];exact af (show(fC l != 0)=true by simp[h0]) rfl
 rw[if_neg (by simp[h0])];refine ag (show(fC l != 0)=false by simp[h0]) ?_;have key:=cq l (fun i (s:StateT)=>LX G 49 KX Tryz.f49 Er (aS Tryz.prog 49 0) ((i,()),(((s,()),((l,()),((([]:List ai),(([]:List an),(([]:List aE),()))),()))),()))) (fun(r:List aW) (s:StateT)=>(j5 r s,())) (fun m s=>∃k,Bs k s∧k+3*m≤3000000) (fun s _=>by exact aw UI (ag (dR _) rfl)) (fun i o r s hi hx Cb hk ih=>by
   obtain⟨k,hb,hk⟩:=hk;refine aw UI ?_;refine af (ba hi) ?_;refine aa (aC hx) ?_;have hbd:=hb.d;have hbg:=hb.g;refine aa (af6 hG s o hbd (by omega) (by omega) (ht o (ab6 hx))) ?_;rw[j5];by_cases h1:(bT s o).2.1=0
   ·rw[if_neg (by simp[h1])];refine ag (show((bT s o).2.1 != 0)=false by simp[h1]) ?_;rw[wI,aI hi (show l.length≤1073741824 by omega)];exact ih (bT s o).1 ⟨k+3,hb.one o,by omega⟩
   ·rw[if_pos h1];exact af (show((bT s o).2.1 != 0)=true by simp[h1]) rfl)
  s ⟨n,hs,hn⟩
 exact key
def oK(s:StateT)(l:List aW):StateT:=if(cX s l).2.1≠0 then s else(cX s l).1
theorem Bs.try{n:Nat}{s:StateT}{l:List aW}(h:Bs n s):Bs (n+3*l.length) (oK s l):=by
 unfold oK
 split
 ·exact h.mono (by omega)
 ·unfold cX
  split
  ·exact Bs.zero _
  ·exact h.go
def og:Nat→List (List aW)→StateT→StateT
 |0,_,s=>s
 |_+1,[],s=>s
 |n+1,l::r,s=>og n r (oK s (l.take 8))
def EX(l:List (List aW)):StateT:=og 30 l zS
theorem Bs.reach:∀(m:Nat) (l:List (List aW)) {n:Nat} {s:StateT},Bs n s→Bs (n+24*m) (og m l s)
 |0,_,n,s,h=>by simpa[og] using h
 |m+1,[],n,s,h=>h.mono (by omega)
 |m+1,l::r,n,s,h=>by
  rw[og];have h1:Bs (n+3*(l.take 8).length) (oK s (l.take 8)):=h.try;have hl:(l.take 8).length≤8:=by simp;omega
  exact(Bs.reach m r (h1.mono (show n+3*(l.take 8).length≤n+24 by omega))).mono (by omega)
theorem Bs.PS(l:List (List aW)):Bs 720 (EX l):=(Bs.reach 30 l (Bs.zero 0)).mono (by omega)
end Go.Vs
