/- What the document's reference -/
import Derived.Test.YtoleelddkocpkaaGreatRefA
set_option linter.unusedVariables false
set_option linter.unusedSimpArgs false
namespace Go.Vs
open Go.Proofs
variable {G:(f:FuncId)→(g:aO)→Option (g.A→Option g.B)}
def B7(x:ID):List ai→Int→Int
 |[],_ => -1
 |v::r,i=>if v.1=x then i else B7 x r (i+1)
theorem NM(x:ID):∀(l:List ai) (i:Int),0≤i→B7 x l i = -1∨(i≤B7 x l i∧B7 x l i<i+l.length)
 |[],i,_=>.inl rfl
 |v::r,i,h=>by
  unfold B7
  split
  ·right;simp;omega
  ·rcases NM x r (i+1) (by omega) with h|h
   ·exact .inl h
   ·right;simp;omega
theorem agm(hG:G 227 FB=none)(d:ak)(x:ID)(hs:Sm d):FX G 227 FB ((d,x,()),())=some ((B7 x d.1 0,()),()):=by
 have hv:=hs.v;refine av hG akD ?_;have loop:∀(n i:Nat),i+n=d.1.length→LX G 227 FB Tryz.f227 DO (aK Tryz.prog 227 0) (((i:Int),()),(((d,()),((x,()),())),()))=some ((B7 x (d.1.drop i) i,()),()):=by
  intro n
  induction n with
  |zero =>
   intro i hi;refine ar U5 ?_;have h1:¬((i:Int)<(d.1.length:Int)):=by omega
   have h2:d.1.drop i=[]:=adF (by omega);rw[h2];simp only[h1,decide_false];rfl
  |succ n ih =>
   intro i hi;refine ar U5 ?_;have aN:i<d.1.length:=by omega
   have h2:d.1.drop i=d.1[i]::d.1.drop (i+1):=adu aN;have hx:d.1[i]? = some d.1[i]:=aa8 aN;rw[h2,B7];simp only[aT aN,aB hx,Option.bind_some,lN,aD aN (show d.1.length≤1073741824 by omega)];by_cases he:d.1[i].1=x
   ·have d1:=decide_eq_true he;rw[if_pos he];simp only[d1];rfl
   ·have d1:=decide_eq_false he;rw[if_neg he];simp only[d1];exact ih (i+1) (by omega)
 exact loop d.1.length 0 (by omega)
def I5(d:ak)(e:ag)(out:List Int):List Int :=
 let a:=B7 ((cf d (e.1,0)).getD zI) d.1 0
 let b:=B7 ((cf d (e.1,1)).getD zI) d.1 0
 if 0≤a∧0≤b then(out.set a.toNat (min (out.getD a.toNat 0) (out.getD b.toNat 0))).set b.toNat (min (out.getD a.toNat 0) (out.getD b.toNat 0)) else out
def kq(d:ak):List ag→List Int→List Int
 |[],out=>out
 |e::r,out=>kq d r (I5 d e out)
def Ly(d:ak):Nat→List Int→List Int
 |0,out=>out
 |n+1,out=>Ly d n (kq d d.2 out)
def FH(n:Nat):List Int:=(List.range n).map fun i=>((i:Nat):Int)
def labels(d:ak):List Int:=Ly d d.1.length (FH d.1.length)
theorem LA(d:ak)(e:ag)(out:List Int):(I5 d e out).length=out.length:=by
 grind [I5]
theorem yf(d:ak):∀(l:List ag) (out:List Int),(kq d l out).length=out.length
 |[],out=>rfl
 |e::r,out=>by rw[kq,yf d r,LA]
theorem A7(d:ak):∀(n:Nat) (out:List Int),(Ly d n out).length=out.length
 |0,out=>rfl
 |n+1,out=>by rw[Ly,A7 d n,yf]
theorem FI(d:ak):(labels d).length=d.1.length:=by grind [labels,A7,FH]
theorem acm(hG:HG G)(d:ak)(hs:Sm d)(n:Int)(R:List Int→List Int) (hR:∀out:List Int,out.length=d.1.length→LX G 211 u9 Tryz.f211 zw (aK Tryz.prog 211 1) ((IntKind.wrap .i64 (n+1),()),(((d,()),()),(out,())))=some ((R out,()),())) :
  ∀out:List Int,out.length=d.1.length→LX G 211 u9 Tryz.f211 tf (aK Tryz.prog 211 2) ((n,((0:Int),())),(((d,()),()),(out,())))=some ((R (kq d d.2 out),()),()):=by
 have hv:=hs.v;have he:=hs.e;have loop:∀(m i:Nat) (out:List Int),i+m=d.2.length→out.length=d.1.length→LX G 211 u9 Tryz.f211 tf (aK Tryz.prog 211 2) ((n,((i:Int),())),(((d,()),()),(out,())))=some ((R (kq d (d.2.drop i) out),()),()):=by
  intro m
  induction m with
  |zero =>
   intro i out hi ho;have h1:¬((i:Int)<(d.2.length:Int)):=by omega
   have h2:d.2.drop i=[]:=adF (by omega);rw[h2,kq];refine ar U8 ?_;simp only[h1,decide_false];exact hR out ho
  |succ m ih =>
   intro i out hi ho;have aN:i<d.2.length:=by omega
   have h2:d.2.drop i=d.2[i]::d.2.drop (i+1):=adu aN;have hx:d.2[i]? = some d.2[i]:=aa8 aN;rw[h2,kq];generalize d.2[i]=e at *;refine ar U8 ?_;simp only[aT aN,aB hx,Option.bind_some,aD aN (show d.2.length≤1073741824 by omega)];refine aa (Lw hG d (e.1,0) (by omega) (fun w hw=>by have:=hs.r w hw;omega)) ?_;refine aa (Lw hG d (e.1,1) (by omega) (fun w hw=>by have:=hs.r w hw;omega)) ?_;rw[show(rS zI (cf d (e.1,0))).1=(cf d (e.1,0)).getD zI from la _ _,show(rS zI (cf d (e.1,1))).1=(cf d (e.1,1)).getD zI from la _ _];refine aa (agm (hG _ _ rfl) d ((cf d (e.1,0)).getD zI) hs) ?_;refine aa (agm (hG _ _ rfl) d ((cf d (e.1,1)).getD zI) hs) ?_;have hL:I5 d e out=(if 0≤B7 ((cf d (e.1,0)).getD zI) d.1 0∧0≤B7 ((cf d (e.1,1)).getD zI) d.1 0 then(out.set (B7 ((cf d (e.1,0)).getD zI) d.1 0).toNat (min (out.getD (B7 ((cf d (e.1,0)).getD zI) d.1 0).toNat 0) (out.getD (B7 ((cf d (e.1,1)).getD zI) d.1 0).toNat 0))).set (B7 ((cf d (e.1,1)).getD zI) d.1 0).toNat (min (out.getD (B7 ((cf d (e.1,0)).getD zI) d.1 0).toNat 0) (out.getD (B7 ((cf d (e.1,1)).getD zI) d.1 0).toNat 0)) else out):=rfl;have ha:=NM ((cf d (e.1,0)).getD zI) d.1 0 (by omega);have hb:=NM ((cf d (e.1,1)).getD zI) d.1 0 (by omega);generalize B7 ((cf d (e.1,0)).getD zI) d.1 0=a at *;generalize B7 ((cf d (e.1,1)).getD zI) d.1 0=b at *;by_cases h3:0≤a
   case neg =>
    have d3:decide (a≥0)=false:=decide_eq_false h3;rw[hL,if_neg (by omega)];simp only[d3];exact ih (i+1) out (by omega) ho
   have d3:decide (a≥0)=true:=decide_eq_true h3;by_cases h4:0≤b
   case neg =>
    have d4:decide (b≥0)=false:=decide_eq_false h4;rw[hL,if_neg (by omega)];simp only[d3,d4];exact ih (i+1) out (by omega) ho
   have d4:decide (b≥0)=true:=decide_eq_true h4;rw[if_pos ⟨h3,h4⟩]at hL;have hal:a.toNat<out.length:=by omega
   have hbl:b.toNat<out.length:=by omega
   have xa:out[a.toNat]? = some out[a.toNat]:=aa8 hal;have xb:out[b.toNat]? = some out[b.toNat]:=aa8 hbl;have ga:out.getD a.toNat 0=out[a.toNat]:=by grind
   have gb:out.getD b.toNat 0=out[b.toNat]:=by grind
   rw[ga,gb]at hL;generalize out[a.toNat]=p at *;generalize out[b.toNat]=q at *;have d5:decide ((0:Int)≤a)=true:=decide_eq_true h3;have d6:decide ((0:Int)≤b)=true:=decide_eq_true h4;have d7:decide (a<((out.length:Nat):Int))=true:=decide_eq_true (by omega);have d8:decide (b<((out.length:Nat):Int))=true:=decide_eq_true (by omega);have hbs:b.toNat<(out.set a.toNat (min p q)).length:=by simp_all
   have d9:decide (b<(((out.set a.toNat (min p q)).length:Nat):Int))=true:=decide_eq_true (by simp;omega);have xs:(out.set a.toNat (min p q))[b.toNat]? = some (out.set a.toNat (min p q))[b.toNat]:=aa8 hbs;simp only[d3,d4,d5,d6,d7,d8,Bool.and_self,xa,xb,Option.bind_some,d9,xs];rw[hL];exact ih (i+1) ((out.set a.toNat (min p q)).set b.toNat (min p q)) (by omega) (by simp[ho])
 intro out ho;exact loop d.2.length 0 out (by omega) ho
theorem alK(hG:HG G)(d:ak)(hs:Sm d):FX G 211 u9 ((d,()),())=some ((labels d,()),()):=by
 have hv:=hs.v;refine av (hG _ _ rfl) akE ?_;have l1:∀(n i:Nat) (out:List Int),i+n=d.1.length→out.length=d.1.length→LX G 211 u9 Tryz.f211 zw (aK Tryz.prog 211 1) (((i:Int),()),(((d,()),()),(out,())))=some ((Ly d n out,()),()):=by
  intro n
  induction n with
  |zero =>
   intro i out hi ho;refine ar U7 ?_;have h1:¬((i:Int)<(d.1.length:Int)):=by omega
   simp only[h1,decide_false];rfl
  |succ n ih =>
   intro i out hi ho;refine ar U7 ?_;have aN:i<d.1.length:=by omega
   simp only[aT aN];exact acm hG d hs (i:Int) (Ly d n) (fun out ho=>by rw[aD aN (show d.1.length≤1073741824 by omega)];exact ih (i+1) out (by omega) ho) out ho
 have l0:∀(n i:Nat) (out:List Int),i+n=d.1.length→out=FH i→LX G 211 u9 Tryz.f211 DP (aK Tryz.prog 211 0) (((i:Int),()),(((d,()),()),(out,())))=some ((labels d,()),()):=by
  intro n
  induction n with
  |zero =>
   intro i out hi ho;refine ar U6 ?_;have h1:¬((i:Int)<(d.1.length:Int)):=by omega
   have yz:i=d.1.length:=by omega
   subst yz;simp only[h1,decide_false];have:=l1 d.1.length 0 out (by omega) (by grind [FH]);rw[ho]at this ⊢;exact this
  |succ n ih =>
   intro i out hi ho;refine ar U6 ?_;have aN:i<d.1.length:=by omega
   have h6:aI out.length [(i:Int)].length=true:=fits (by rw[ho];simp[FH];omega);simp only[aT aN,h6,aD aN (show d.1.length≤1073741824 by omega)];exact ih (i+1) (out++[(i:Int)]) (by omega) (by rw[ho];simp[FH,List.range_succ])
 exact l0 d.1.length 0 [] (by omega) (by simp[FH])
def ri:List Int→Int→Int→Int
 |[],_,n=>n
 |x::r,i,n=>ri r (i+1) (if x=i then IntKind.wrap .i64 (n+1) else n)
def fE(d:ak):Int:=ri (labels d) 0 0
theorem alL(hG:HG G)(d:ak)(hs:Sm d):FX G 186 KB ((d,()),())=some ((fE d,()),()):=by
 have hv:=hs.v;have hl:=FI d;refine av (hG _ _ rfl) akl ?_;refine aa (alK hG d hs) ?_;unfold fE;generalize labels d=l at *;have loop:∀(m i:Nat) (n:Int),i+m=l.length→LX G 186 KB Tryz.f186 zr (aK Tryz.prog 186 0) ((n,((i:Int),())),((),(l,())))=some ((ri (l.drop i) i n,()),()):=by
  intro m
  induction m with
  |zero =>
   intro i n hi;refine ar UP ?_;have h1:¬((i:Int)<(l.length:Int)):=by omega
   have h2:l.drop i=[]:=adF (by omega);rw[h2];simp only[h1,decide_false];rfl
  |succ m ih =>
   intro i n hi;refine ar UP ?_;have aN:i<l.length:=by omega
   have h2:l.drop i=l[i]::l.drop (i+1):=adu aN;have hx:l[i]? = some l[i]:=aa8 aN;rw[h2,ri];simp only[aT aN,fK,Bool.and_self,Int.toNat_natCast,hx,Option.bind_some,aD aN (show l.length≤1073741824 by omega)];by_cases he:l[i]=(i:Int)
   ·have d1:(l[i]==(i:Int))=true:=by simp[he]
    rw[if_pos he];simp only[d1];exact ih (i+1) _ (by omega)
   ·have d1:(l[i]==(i:Int))=false:=by simp[he]
    rw[if_neg he];simp only[d1];exact ih (i+1) _ (by omega)
 exact loop l.length 0 0 (by omega)
def wA:List ai→Int→Int
 |[],n=>n
 |v::r,n=>wA r (if v.2.1.length=0 then IntKind.wrap .i64 (n+1) else n)
def Eb(d:ak):Int:=wA d.1 ((((bW d).length:Nat)):Int)
theorem alM(hG:HG G)(d:ak)(hs:Sm d)(he:d.2.length≤5000000):FX G 149 IG ((d,()),())=some ((((d.1.length:Nat):Int),(((d.2.length:Nat):Int),(Eb d,(fE d,())))),()):=by
 have hv:=hs.v;refine av (hG _ _ rfl) ak3 ?_;refine aa (alI hG d hs he) ?_;unfold Eb;show LX G 149 IG Tryz.f149 wo (aK Tryz.prog 149 0) ((lI (bW d),((0:Int),())),(((d,()),()),()))=_;unfold lI;generalize (((bW d).length:Nat):Int)=f0;have key:=bu d.1 (fun i (n:Int)=>LX G 149 IG Tryz.f149 wo (aK Tryz.prog 149 0) ((n,(i,())),(((d,()),()),()))) (fun(r:List ai) (n:Int)=>((((d.1.length:Nat):Int),(((d.2.length:Nat):Int),(wA r n,(fE d,())))),())) (fun _ _=>True) (fun n _=>by refine ar Vh ?_;simp only[cE];exact aa (alL hG d hs) rfl) (fun i y r n hi hx ya _ ih=>by
   refine ar Vh ?_;simp only[aT hi,aB hx,Option.bind_some,aD hi (show d.1.length≤1073741824 by omega)];by_cases he:y.2.1.length=0
   ·have d1:((((y.2.1.length:Nat)):Int)==0)=true:=by simp[he]
    simp only[d1,wA,if_pos he];simp_all
   ·have d1:((((y.2.1.length:Nat)):Int)==0)=false:=by simp_all
    simp only[d1,wA,if_neg he];simp_all)
  f0 trivial
 exact key
def bL(d:ak):Int:=IntKind.wrap .i64 (Int.tdiv (IntKind.wrap .i64 (IntKind.wrap .i64 (IntKind.wrap .i64 (IntKind.wrap .i64 (2*fE d)-((d.1.length:Nat):Int))+((d.2.length:Nat):Int))-Eb d)) 2)
theorem alN(hG:HG G)(d:ak)(hs:Sm d)(he:d.2.length≤5000000):FX G 99 KI ((d,()),())=some ((bL d,()),()):=by refine av (hG _ _ rfl) akL ?_;exact aa (alM hG d hs he) rfl
theorem Y0{s:ByteArray}{i:Nat}{c:UInt8}(h:s.data.toList[i]? = some c):(if(0:Int)≤(i:Int) then s[Int.toNat (i:Int)]? else none)=some c:=by
 have hi:i<s.size:=by have:=(abC.1 h).1;simp_all
 rw[if_pos (by omega),Int.toNat_natCast,getElem?_pos s i hi];have h2:=(abC.1 h).2;rw[←h2];rfl
def lP(c:UInt8):Bool:=decide (32≤c.toNat)&&decide (c.toNat≤126)
def kL(s:ByteArray):Bool:=s.data.toList.all lP&&decide (s.size≤16)
theorem alO(hG:G 122 Iy=none)(s:ByteArray)(hs:s.size≤100000000):FX G 122 Iy ((s,()),())=some ((kL s,()),()):=by
 refine av hG akh ?_;have hl:s.data.toList.length=s.size:=by simp
 have key:=bu s.data.toList (fun i (_:Unit)=>LX G 122 Iy Tryz.f122 DI (aK Tryz.prog 122 0) ((s,(i,())),((),()))) (fun(r:List UInt8) (_:Unit)=>((r.all lP&&decide (s.size≤16),()),())) (fun _ _=>True) (fun _ _=>by
   refine ar UN ?_;rw[hl];have h2:decide (((s.size:Nat):Int)≤16)=decide (s.size≤16):=by
    grind
   simp only[cE,h2,List.all_nil,Bool.true_and];rfl)
  (fun i c r _ hi hx ya _ ih=>by
   refine ar UN ?_;rw[hl]at hi;have hb:=Y0 hx;simp only[aT hi,hb,Option.bind_some,aD hi (show s.size≤1073741824 by omega)];by_cases h1:c.toNat<32
   ·have d1:decide (((c.toNat:Nat):Int)<32)=true:=decide_eq_true (by omega);have d2:lP c=false:=by grind [lP]
    simp only[d1,List.all_cons,d2,Bool.false_and];rfl
   ·have d1:decide (((c.toNat:Nat):Int)<32)=false:=decide_eq_false (by omega);by_cases h2:126<c.toNat
    ·have d2:decide (((c.toNat:Nat):Int)>126)=true:=decide_eq_true (by omega);have d3:lP c=false:=by grind [lP]
     simp only[d1,d2,List.all_cons,d3,Bool.false_and];rfl
    ·have d2:decide (((c.toNat:Nat):Int)>126)=false:=decide_eq_false (by omega);have d3:lP c=true:=by grind [lP]
     simp only[d1,d2,List.all_cons,d3,Bool.true_and];exact ih () trivial)
  () trivial
 exact key
def jM(n:Int):Bool:=decide (-1099511627776≤n∧n≤1099511627776)
theorem alP(hG:G 121 Rv=none)(n:Int):FX G 121 Rv ((n,()),())=some ((jM n,()),()):=by
 refine av hG aki ?_;show(cond (decide (n≥-1099511627776)) (some ((decide (n≤1099511627776),()),())) (some ((false,()),())):Option ((Bool×Unit)×Unit))=some ((jM n,()),())
 grind [jM]
def BB(c:rN):Bool:=cd c.1&&(kK c.2 || decide (c.2=zD))
theorem agn(hG:HG G)(c:rN):FX G 120 RB ((c,()),())=some ((BB c,()),()):=by
 refine av (hG _ _ rfl) akP ?_;refine aa (RU (hG _ _ rfl) c.1) ?_;refine aa (alz hG c.2) ?_;have hb:(((c.2.1.1==(0:Int))&&(c.2.1.2==(0:Int)))&&(c.2.2==(0:Int)))=decide (c.2=zD):=lO c.2 zD;unfold BB;simp only[hb]
 cases h1:cd c.1<;>cases h2:kK c.2<;>rfl
def zOp:br:=(0,(zI,(zI,(zI,(zC,(zC,(false,(e0,0))))))))
def yg(o:br):br :=if o.1=3 then(0,(zI,(o.2.2.1,(o.2.2.2.1,(zC,(zC,(o.2.2.2.2.2.2.1,o.2.2.2.2.2.2.2)))))))
 else if o.1=5 then(0,(zI,(zI,(zI,(o.2.2.2.2.1,(o.2.2.2.2.2.1,(o.2.2.2.2.2.2.1,(o.2.2.2.2.2.2.2.1,0))))))))
 else if o.1=6 then(0,(zI,(o.2.2.1,(zI,(o.2.2.2.2.1,(o.2.2.2.2.2.1,(o.2.2.2.2.2.2.1,o.2.2.2.2.2.2.2)))))))
 else if o.1=7 then(0,(zI,(o.2.2.1,(o.2.2.2.1,(o.2.2.2.2.1,(o.2.2.2.2.2.1,(false,(e0,o.2.2.2.2.2.2.2.2))))))))
 else if o.1=8 then(0,(zI,(o.2.2.1,(o.2.2.2.1,(o.2.2.2.2.1,(o.2.2.2.2.2.1,(false,(o.2.2.2.2.2.2.2.1,0))))))))
 else(0,(zI,(o.2.2.1,(o.2.2.2.1,(o.2.2.2.2.1,(o.2.2.2.2.2.1,(o.2.2.2.2.2.2.1,o.2.2.2.2.2.2.2)))))))
theorem alQ(hG:G 119 RA=none)(o:br):FX G 119 RA ((o,()),())=some ((yg o,()),()):=by
 refine av hG akO ?_;unfold yg;by_cases h3:o.1=3
 ·have d:(o.1==(3:Int))=true:=by simp[h3]
  rw[if_pos h3];simp only[d];rfl
 have d3:(o.1==(3:Int))=false:=by simp[h3]
 rw[if_neg h3];by_cases h5:o.1=5
 ·have d:(o.1==(5:Int))=true:=by simp[h5]
  rw[if_pos h5];simp only[d3,d];rfl
 have d5:(o.1==(5:Int))=false:=by simp[h5]
 rw[if_neg h5];by_cases h6:o.1=6
 ·have d:(o.1==(6:Int))=true:=by simp[h6]
  rw[if_pos h6];simp only[d3,d5,d];rfl
 have d6:(o.1==(6:Int))=false:=by simp[h6]
 rw[if_neg h6];by_cases h7:o.1=7
 ·have d:(o.1==(7:Int))=true:=by simp[h7]
  rw[if_pos h7];simp only[d3,d5,d6,d];rfl
 have d7:(o.1==(7:Int))=false:=by simp[h7]
 rw[if_neg h7];by_cases h8:o.1=8
 ·have d:(o.1==(8:Int))=true:=by simp[h8]
  rw[if_pos h8];simp only[d3,d5,d6,d7,d];rfl
 have d8:(o.1==(8:Int))=false:=by simp[h8]
 rw[if_neg h8];simp only[d3,d5,d6,d7,d8];rfl
def BC(x y:br):Bool :=(x.1==y.1)&&(((x.2.1.1==y.2.1.1)&&(x.2.1.2==y.2.1.2))&&(((x.2.2.1.1==y.2.2.1.1)&&(x.2.2.1.2==y.2.2.1.2))&&(((x.2.2.2.1.1==y.2.2.2.1.1)&&(x.2.2.2.1.2==y.2.2.2.1.2)) && ((((x.2.2.2.2.1.1.1==y.2.2.2.2.1.1.1)&&(x.2.2.2.2.1.1.2==y.2.2.2.2.1.1.2))&&(((x.2.2.2.2.1.2.1.1==y.2.2.2.2.1.2.1.1)&&(x.2.2.2.2.1.2.1.2==y.2.2.2.2.1.2.1.2))&&(x.2.2.2.2.1.2.2==y.2.2.2.2.1.2.2))) && ((((x.2.2.2.2.2.1.1.1==y.2.2.2.2.2.1.1.1)&&(x.2.2.2.2.2.1.1.2==y.2.2.2.2.2.1.1.2))&&(((x.2.2.2.2.2.1.2.1.1==y.2.2.2.2.2.1.2.1.1)&&(x.2.2.2.2.2.1.2.1.2==y.2.2.2.2.2.1.2.1.2))&&(x.2.2.2.2.2.1.2.2==y.2.2.2.2.2.1.2.2))) && ((x.2.2.2.2.2.2.1==y.2.2.2.2.2.2.1)&&((x.2.2.2.2.2.2.2.1==y.2.2.2.2.2.2.2.1)&&(x.2.2.2.2.2.2.2.2==y.2.2.2.2.2.2.2.2))))))))
theorem LB(x y:br):BC x y=true↔x=y:=by obtain⟨x1,⟨x2,x3⟩,⟨x4,x5⟩,⟨x6,x7⟩,⟨⟨x8,x9⟩,⟨x10,x11⟩,x12⟩,⟨⟨x13,x14⟩,⟨x15,x16⟩,x17⟩,x18,x19,x20⟩:=x;obtain⟨y1,⟨y2,y3⟩,⟨y4,y5⟩,⟨y6,y7⟩,⟨⟨y8,y9⟩,⟨nL,lL⟩,qv⟩,⟨⟨mo,IK⟩,⟨qw,RL⟩,O8⟩,YF,XU,IL⟩:=y;simp_all [BC,YU,and_assoc]
theorem bA{α:Type}{c b:Bool}{x y r:α}(h:c=b)(k:cond (not b) x y=r):cond (not c) x y=r:=by simp_all
def cG(o:br):Int :=if o.1<1 then 1 else if 8<o.1 then 1 else if cd o.2.1=false then 1 else if BC (yg o) zOp=false then 1
 else if o.1=3 then(if BB o.2.2.2.2.1=true∧BB o.2.2.2.2.2.1=true then 0 else 1)
 else if o.1=5 then(if cd o.2.2.1=true∧cd o.2.2.2.1=true∧0≤o.2.2.2.2.2.2.2.2∧o.2.2.2.2.2.2.2.2≤3 then 0 else 1)
 else if o.1=6 then(if cd o.2.2.2.1=true then 0 else 1)
 else if o.1=8 then(if jM o.2.2.2.2.2.2.2.2=true then 0 else 1)
 else if o.1=7 then(if kL o.2.2.2.2.2.2.2.1=true then 0 else 4)
 else 0
def I1(n:Int):Option ((Int×Unit)×Unit):=some ((n,()),())
theorem ago(hG:HG G)(o:br)(ht:o.2.2.2.2.2.2.2.1.size≤100000000):FX G 86 Rx ((o,()),())=some ((cG o,()),()):=by
 refine av (hG _ _ rfl) akt ?_;refine aa (RU (hG _ _ rfl) o.2.1) ?_;unfold cG;by_cases h1:o.1<1
 ·rw[if_pos h1];have d:=decide_eq_true h1;simp only[d];rfl
 rw[if_neg h1];have d1:=decide_eq_false h1;by_cases h2:8<o.1
 ·rw[if_pos h2];have d:decide (o.1>8)=true:=decide_eq_true h2;simp only[d1,d];rfl
 rw[if_neg h2];have d2:decide (o.1>8)=false:=decide_eq_false h2
 cases hm:cd o.2.1
 ·rw[if_pos rfl];simp only[d1,d2];rfl
 rw[if_neg (by simp)];simp only[d1,d2];refine aa (alQ (hG _ _ rfl) o) ?_;refine bA (b:=BC (yg o) zOp) rfl ?_
 cases he:BC (yg o) zOp
 ·rfl
 rw[if_neg (by simp)];by_cases h3:o.1=3
 ·rw[if_pos h3];have d:(o.1==(3:Int))=true:=by simp[h3]
  simp only[d];refine aa (agn hG o.2.2.2.2.1) ?_;refine aa (agn hG o.2.2.2.2.2.1) ?_
  cases hc:BB o.2.2.2.2.1<;>cases pC:BB o.2.2.2.2.2.1<;>rfl
 rw[if_neg h3];have d3:(o.1==(3:Int))=false:=by simp[h3]
 by_cases h5:o.1=5
 ·rw[if_pos h5];have d:(o.1==(5:Int))=true:=by simp[h5]
  simp only[d3,d];refine aa (RU (hG _ _ rfl) o.2.2.1) ?_;refine aa (RU (hG _ _ rfl) o.2.2.2.1) ?_
  cases hc:cd o.2.2.1
  ·rfl
  cases pC:cd o.2.2.2.1
  ·rfl
  by_cases h6:o.2.2.2.2.2.2.2.2<0
  ·have d6:=decide_eq_true h6;rw[if_neg (by omega)];simp only[d6];rfl
  have d6:=decide_eq_false h6;by_cases h7:o.2.2.2.2.2.2.2.2>3
  ·have d7:=decide_eq_true h7;rw[if_neg (by omega)];simp only[d6,d7];rfl
  have d7:=decide_eq_false h7;rw[if_pos ⟨rfl,rfl,by omega,by omega⟩];simp only[d6,d7];rfl
 rw[if_neg h5];have d5:(o.1==(5:Int))=false:=by simp[h5]
 by_cases h6:o.1=6
 ·rw[if_pos h6];have d:(o.1==(6:Int))=true:=by simp[h6]
  simp only[d3,d5,d];refine aa (RU (hG _ _ rfl) o.2.2.2.1) ?_
  cases hc:cd o.2.2.2.1<;>rfl
 rw[if_neg h6];have d6:(o.1==(6:Int))=false:=by simp[h6]
 by_cases h8:o.1=8
 ·rw[if_pos h8];have d:(o.1==(8:Int))=true:=by simp[h8]
  simp only[d3,d5,d6,d];refine aa (alP (hG _ _ rfl) o.2.2.2.2.2.2.2.2) ?_
  cases hc:jM o.2.2.2.2.2.2.2.2<;>rfl
 rw[if_neg h8];have d8:(o.1==(8:Int))=false:=by simp[h8]
 by_cases h7:o.1=7
 ·rw[if_pos h7];have d:(o.1==(7:Int))=true:=by simp[h7]
  simp only[d3,d5,d6,d8,d];refine aa (alO (hG _ _ rfl) o.2.2.2.2.2.2.2.1 (by omega)) ?_
  cases hc:kL o.2.2.2.2.2.2.2.1<;>rfl
 rw[if_neg h7];have d7:(o.1==(7:Int))=false:=by simp[h7]
 simp only[d3,d5,d6,d8,d7];rfl
def tu(o:br):Prop:=o.2.2.2.2.2.2.2.1.size≤100000000
def lQ:List br→Int
 |[]=>0
 |o::r=>if cG o≠0 then cG o else lQ r
def dM(l:List br):Int:=if 1≤l.length∧l.length≤6 then lQ l else 3
theorem alR(hG:HG G)(l:List br)(ht:∀o∈l,tu o):FX G 65 KE ((l,()),())=some ((dM l,()),()):=by
 refine av (hG _ _ rfl) akq ?_;unfold dM;by_cases h1:l.length<1
 ·have d:decide (((l.length:Nat):Int)<1)=true:=decide_eq_true (by omega);rw[if_neg (by omega)];simp only[d];rfl
 have d1:decide (((l.length:Nat):Int)<1)=false:=decide_eq_false (by omega);by_cases h2:6<l.length
 ·have d:decide (((l.length:Nat):Int)>6)=true:=decide_eq_true (by omega);rw[if_neg (by omega)];simp only[d1,d];rfl
 have d2:decide (((l.length:Nat):Int)>6)=false:=decide_eq_false (by omega);rw[if_pos (by omega)];simp only[d1,d2];have key:=bu l (fun i (_:Unit)=>LX G 65 KE Tryz.f65 DL (aK Tryz.prog 65 0) ((i,()),(((l,()),()),()))) (fun(r:List br) (_:Unit)=>((lQ r,()),())) (fun _ _=>True) (fun _ _=>by refine ar US ?_;simp only[cE];rfl) (fun i o r _ hi hx ya _ ih=>by
   refine ar US ?_;simp only[aT hi,aB hx,Option.bind_some,aD hi (show l.length≤1073741824 by omega)];refine aa (ago hG o (ht o (acI hx))) ?_;rw[lQ];by_cases h:cG o=0
   ·have d:(cG o != 0)=false:=by simp[h]
    rw[if_neg (by simp[h])];simp only[d];exact ih () trivial
   ·have d:(cG o != 0)=true:=by simp[h]
    rw[if_pos h];simp only[d];rfl)
  () trivial
 exact key
theorem ae{α:Type}{c:Bool}{x y r:α}(h:c=true)(k:x=r):cond c x y=r:=by simp_all
theorem af{α:Type}{c:Bool}{x y r:α}(h:c=false)(k:y=r):cond c x y=r:=by simp_all
theorem cP{a b:Bool}(h:a=true)(k:b=true):(a&&b)=true:=by rw[h,k];rfl
def zS:StateT:=(([],[]),[])
abbrev bf(o:br):ID:=o.2.1
abbrev fG(o:br):ID:=o.2.2.1
abbrev bD(o:br):ID:=o.2.2.2.1
abbrev oA(o:br):rN:=o.2.2.2.2.1
abbrev oB(o:br):rN:=o.2.2.2.2.2.1
abbrev rj(o:br):Bool:=o.2.2.2.2.2.2.1
abbrev p6(o:br):ByteArray:=o.2.2.2.2.2.2.2.1
abbrev oN(o:br):Int:=o.2.2.2.2.2.2.2.2
def iQ(o:br)(w:ai):ai:=if rj o=false∧w.1=bf o then(if o.1=7 then(w.1,(w.2.1,(p6 o,w.2.2.2))) else(w.1,(w.2.1,(w.2.2.1,oN o)))) else w
def j4(o:br)(w:ag):ag:=if rj o=true∧w.1=bf o then(if o.1=7 then(w.1,(p6 o,w.2.2)) else(w.1,(w.2.1,oN o))) else w
def LC(o:br)(l:List ai):Bool := !(rj o)&&l.any fun w=>decide (w.1=bf o)
def I6(o:br)(l:List ag):Bool:=rj o&&l.any fun w=>decide (w.1=bf o)
def wB(s:StateT)(o:br):StateT×(Int×Unit) :=if LC o s.1.1 || I6 o s.1.2 then(((s.1.1.map (iQ o),s.1.2.map (j4 o)),s.2),(0,())) else(zS,(13,()))
theorem aco(s:StateT)(o:br)(vs:List ai)(hs:Sm s.1):∀(n i:Nat) (fd:Bool) (out fin:List ag),i+n=s.1.2.length→out=(s.1.2.take i).map (j4 o)++s.1.2.drop i→fin=s.1.2.map (j4 o) → LX G 94 Dl Tryz.f94 te (aK Tryz.prog 94 1) ((fd,((i:Int),())),(((s,()),((o,()),((([]:List ai),(([]:List ag),(([]:List ax),()))),((vs,(out,())),())))),())) = some ((if(fd || I6 o (s.1.2.drop i)) then((((vs,fin),s.2),((0:Int),())):StateT×(Int×Unit)) else(zS,(13,()))),()):=by
 have he:=hs.e;intro n
 induction n with
 |zero =>
  intro i fd out fin hi ho hf;refine ar U3 ?_;have hol:out.length=s.1.2.length:=by simp_all
  have h1:¬((i:Int)<(out.length:Int)):=by omega
  have h2:out=fin:=by simp_all
  have h3:I6 o (s.1.2.drop i)=false:=by grind [List.drop_eq_nil_of_le,I6]
  subst h2;rw[h3];simp only[h1,decide_false]
  cases fd<;>rfl
 |succ n ih =>
  intro i fd out fin hi ho hf;refine ar U3 ?_;have hol:out.length=s.1.2.length:=by grind
  have aN:i<s.1.2.length:=by omega
  have hx:s.1.2[i]? = some s.1.2[i]:=aa8 aN;have hg:out[i]? = some s.1.2[i]:=by grind
  have h2:s.1.2.drop i=s.1.2[i]::s.1.2.drop (i+1):=adu aN;have zL:=aT (show i<out.length by omega);have hw:=aD aN (show s.1.2.length≤1073741824 by omega);rw[h2];generalize s.1.2[i]=y at *;have hE:I6 o (y::s.1.2.drop (i+1))=((rj o&&decide (y.1=bf o)) || I6 o (s.1.2.drop (i+1))):=by unfold I6;grind
  rw[hE];refine ae zL ?_
  cases hof:rj o
  ·have e1:j4 o y=y:=by simp_all [j4,if_neg]
   rw[Bool.false_and,Bool.false_or];refine af hof ?_;rw[wI,hw];exact ih (i+1) fd out fin (by omega) (by grind) hf
  ·rw[Bool.true_and];refine ae hof ?_;refine ae (cP (fK i) zL) ?_;refine aa hg ?_;by_cases hq:y.1=bf o
   ·refine ae ((lN y.1 (bf o)).trans (decide_eq_true hq)) ?_;rw[decide_eq_true hq,Bool.true_or,Bool.or_true,wI,hw];by_cases h7:o.1=7
    ·have e1:j4 o y=(y.1,(p6 o,y.2.2)):=by simp_all [j4,if_pos]
     refine ae (show(o.1==(7:Int))=true by simp[h7]) ?_;refine ae (cP (fK i) zL) ?_;refine aa hg ?_;have:=ih (i+1) true (out.set i (y.1,(p6 o,y.2.2))) fin (by omega) (by grind [yd]) hf;rw[Bool.true_or]at this;exact this
    ·have e1:j4 o y=(y.1,(y.2.1,oN o)):=by simp_all [j4,if_pos,if_neg]
     refine af (show(o.1==(7:Int))=false by simp[h7]) ?_;refine ae (cP (fK i) zL) ?_;refine aa hg ?_;have:=ih (i+1) true (out.set i (y.1,(y.2.1,oN o))) fin (by omega) (by grind [yd]) hf;rw[Bool.true_or]at this;exact this
   ·have e1:j4 o y=y:=by simp_all [j4,if_neg]
    refine af ((lN y.1 (bf o)).trans (decide_eq_false hq)) ?_;rw[decide_eq_false hq,Bool.false_or,wI,hw];exact ih (i+1) fd out fin (by omega) (by grind) hf
theorem acp(s:StateT)(o:br)(hs:Sm s.1):∀(n i:Nat) (fd:Bool) (out fin:List ai),i+n=s.1.1.length→out=(s.1.1.take i).map (iQ o)++s.1.1.drop i→fin=s.1.1.map (iQ o) → LX G 94 Dl Tryz.f94 td (aK Tryz.prog 94 0) ((fd,((i:Int),())),(((s,()),((o,()),((([]:List ai),(([]:List ag),(([]:List ax),()))),((out,(s.1.2,())),())))),())) = some ((if((fd || LC o (s.1.1.drop i)) || I6 o s.1.2) then((((fin,s.1.2.map (j4 o)),s.2),((0:Int),())):StateT×(Int×Unit)) else(zS,(13,()))),()):=by
 have hv:=hs.v;intro n
 induction n with
 |zero =>
  intro i fd out fin hi ho hf;refine ar UZ ?_;have hol:out.length=s.1.1.length:=by simp_all
  have h1:¬((i:Int)<(out.length:Int)):=by omega
  have h2:out=fin:=by simp_all
  have h3:LC o (s.1.1.drop i)=false:=by grind [List.drop_eq_nil_of_le,LC]
  subst h2;rw[h3,Bool.or_false];simp only[h1,decide_false];exact aco s o out hs s.1.2.length 0 fd s.1.2 (s.1.2.map (j4 o)) (by omega) (by simp) rfl
 |succ n ih =>
  intro i fd out fin hi ho hf;refine ar UZ ?_;have hol:out.length=s.1.1.length:=by grind
  have aN:i<s.1.1.length:=by omega
  have hx:s.1.1[i]? = some s.1.1[i]:=aa8 aN;have hg:out[i]? = some s.1.1[i]:=by grind
  have h2:s.1.1.drop i=s.1.1[i]::s.1.1.drop (i+1):=adu aN;have zL:=aT (show i<out.length by omega);have hw:=aD aN (show s.1.1.length≤1073741824 by omega);rw[h2];generalize s.1.1[i]=y at *;have hE:LC o (y::s.1.1.drop (i+1))=((!(rj o)&&decide (y.1=bf o)) || LC o (s.1.1.drop (i+1))):=by unfold LC;grind
  rw[hE];refine ae zL ?_
  cases hof:rj o
  ·rw[Bool.not_false,Bool.true_and];refine ae (show(!(rj o))=true by rw[hof];rfl) ?_;refine ae (cP (fK i) zL) ?_;refine aa hg ?_;by_cases hq:y.1=bf o
   ·refine ae ((lN y.1 (bf o)).trans (decide_eq_true hq)) ?_;rw[decide_eq_true hq,Bool.true_or,Bool.or_true,Bool.true_or,wI,hw];by_cases h7:o.1=7
    ·have e1:iQ o y=(y.1,(y.2.1,(p6 o,y.2.2.2))):=by simp_all [iQ,if_pos]
     refine ae (show(o.1==(7:Int))=true by simp[h7]) ?_;refine ae (cP (fK i) zL) ?_;refine aa hg ?_;have:=ih (i+1) true (out.set i (y.1,(y.2.1,(p6 o,y.2.2.2)))) fin (by omega) (by grind [yd]) hf;rw[Bool.true_or,Bool.true_or]at this;exact this
    ·have e1:iQ o y=(y.1,(y.2.1,(y.2.2.1,oN o))):=by simp_all [iQ,if_pos,if_neg]
     refine af (show(o.1==(7:Int))=false by simp[h7]) ?_;refine ae (cP (fK i) zL) ?_;refine aa hg ?_;have:=ih (i+1) true (out.set i (y.1,(y.2.1,(y.2.2.1,oN o)))) fin (by omega) (by grind [yd]) hf;rw[Bool.true_or,Bool.true_or]at this;exact this
   ·have e1:iQ o y=y:=by simp_all [iQ,if_neg]
    refine af ((lN y.1 (bf o)).trans (decide_eq_false hq)) ?_;rw[decide_eq_false hq,Bool.false_or,wI,hw];exact ih (i+1) fd out fin (by omega) (by grind) hf
  ·have e1:iQ o y=y:=by simp_all [iQ,if_neg]
   rw[Bool.not_true,Bool.false_and,Bool.false_or];refine af (show(!(rj o))=false by rw[hof];rfl) ?_;rw[wI,hw];exact ih (i+1) fd out fin (by omega) (by grind) hf
theorem alS(hG:HG G)(s:StateT)(o:br)(hs:Sm s.1):FX G 94 Dl ((s,o,()),())=some (wB s o,()):=by have hv:=hs.v;have he:=hs.e;refine av (hG _ _ rfl) akA ?_;refine aa (af8 (hG _ _ rfl) s.1 (by omega) (by omega) (fun w hw=>by have:=hs.r w hw;omega)) ?_;have:=acp (G:=G) s o hs s.1.1.length 0 false s.1.1 (s.1.1.map (iQ o)) (by omega) (by simp) rfl;rw[Bool.false_or]at this;exact this
structure Bd(n:Nat)(d:ak):Prop where
 v:d.1.length≤n
 e:d.2.length≤n
 r:∀w∈d.1,w.2.1.length≤n
theorem Bd.sm{n:Nat}{d:ak}(h:Bd n d)(hn:n≤50000000):Sm d:=⟨by have:=h.v;omega,by have:=h.e;omega,fun w hw=>by have:=h.r w hw;omega⟩
theorem Bd.mono{n m:Nat}{d:ak}(h:Bd n d)(hm:n≤m):Bd m d:=⟨by have:=h.v;omega,by have:=h.e;omega,fun w hw=>by have:=h.r w hw;omega⟩
theorem fL(v:ai):∀l:List ai,(c8 v l).length=l.length+1
 |[]=>rfl
 |w::r=>by unfold c8;split<;>simp[fL v r]
theorem lR(v:ag):∀l:List ag,(dL v l).length=l.length+1
 |[]=>rfl
 |w::r=>by unfold dL;split<;>simp[lR v r]
theorem j5{v w:ai}:∀{l:List ai},w∈c8 v l↔w=v∨w∈l
 |[]=>by simp[c8]
 |u::r=>by
  unfold c8
  split
  ·simp
  ·simp only[List.mem_cons,j5 (l:=r)];exact⟨fun h=>by rcases h with h|h|h<;>simp[h],fun h=>by rcases h with h|h|h<;>simp[h]⟩
theorem p7{v w:ag}:∀{l:List ag},w∈dL v l↔w=v∨w∈l
 |[]=>by simp[dL]
 |u::r=>by
  unfold dL
  split
  ·simp
  ·simp only[List.mem_cons,p7 (l:=r)];exact⟨fun h=>by rcases h with h|h|h<;>simp[h],fun h=>by rcases h with h|h|h<;>simp[h]⟩
theorem A8(row:List ab)(a d:ab):(nQ row a d).length≤row.length+1:=by
 grind [nQ,jE]
theorem LD(row:List ab)(d:ab):(iP row d).length≤row.length:=by
 grind [iP,jE,List.length_filter_le]
theorem I7(row:List ab)(a d:ab):(fJ row a d).length=row.length:=by
 grind [fJ,jE]
theorem Bd.bI{n:Nat}{d:ak}(h:Bd n d)(x:ID):(bI d x).length≤n:=by
 unfold Vs.bI
 cases hf:bq d x with
 |none=>simp[zV]
 |some v=>exact h.r v (adq hf)
theorem Bd.ck{n:Nat}{d:ak}(h:Bd n d){x:ID}{l:List ab}(hl:l.length≤n):Bd n (ck d x l):=by
 refine⟨by simp[Vs.ck];exact h.v,h.e,fun w hw=>?_⟩;obtain⟨u,hu,rfl⟩:=acn.1 hw;unfold uH
 split
 ·exact hl
 ·exact h.r u hu
theorem Bd.bV{n:Nat}{d:ak}(h:Bd n d)(c:rN)(x:ab):Bd (n+1) (bV d c x) :=(h.mono (by omega)).ck (by have:=A8 (Vs.bI d c.1) c.2 x;have:=h.bI c.1;omega)
theorem Bd.aE{n:Nat}{d:ak}(h:Bd n d)(a x:ab):Bd n (aE d a x) :=h.ck (by rw[I7];exact h.bI _)
theorem Bd.aH{n:Nat}{d:ak}(h:Bd n d)(x:ab):Bd n (aH d x) :=h.ck (by have:=LD (Vs.bI d ((cf d x).getD zI)) x;have:=h.bI ((cf d x).getD zI);omega)
theorem Bd.aM{n:Nat}{d:ak}(h:Bd n d)(v e:ID):Bd n (aM d v e) :=⟨acE (adA _ _) h.v,acE (adA _ _) h.e,fun w hw=>h.r w (adE.1 hw).1⟩
theorem Bd.c8{n:Nat}{d:ak}(h:Bd n d)(v:ai)(hv:v.2.1.length≤n+1):Bd (n+1) (c8 v d.1,d.2) :=⟨by rw[fL];have:=h.v;omega,by have:=h.e;grind,fun w hw=>by
  rcases j5.1 hw with rfl|hw
  ·exact hv
  ·have:=h.r w hw;omega⟩
theorem Bd.dL{n:Nat}{d:ak}(h:Bd n d)(v:ag):Bd (n+1) (d.1,dL v d.2) :=⟨by have:=h.v;grind,by rw[lR];have:=h.e;omega,fun w hw=>by have:=h.r w hw;omega⟩
theorem A9(g:ax):∀l:List ax,(mv g l).length≤l.length+1
 |[]=>by simp[mv]
 |e::r=>by
  unfold mv
  split
  ·have:=adA (fun q:ax=>decide (q.1≠g.1)) (e::r);simp[oQ];simp at this;omega
  ·have:=A9 g r
   split<;>simp<;>omega
theorem gY(l:List ax)(g:ax):(bT l g).length≤l.length+1:=by
 grind [bT,A9]
def ig(s:StateT)(o:br):ak :=bV (bV (s.1.1,dL (bf o,(e0,0)) s.1.2) (bC s (oA o)).1 (bf o,0)) (if(bq s.1 (oB o).1).isSome=true∧(oB o).2=(bf o,0) then oB o else(bC s (oB o)).1) (bf o,1)
def ox(s:StateT)(o:br):StateT×(Int×Unit) :=if(hP s.1 (bf o)).isSome=true then(zS,(12,()))
 else if 40≤s.1.2.length then(zS,(3,()))
 else if(bC s (oA o)).2.1≠0 then(zS,(13,()))
 else if(bC s (oB o)).2.1≠0 then(zS,(13,()))
 else if bL (ig s o)≠0 then(zS,(15,()))
 else((ig s o,s.2),(0,()))
theorem alT(hG:HG G){n:Nat}(s:StateT)(o:br)(hs:Bd n s.1)(hn:n≤4000000)(hg:s.2.length≤50000000):FX G 90 Uu ((s,o,()),())=some (ox s o,()):=by
  have hv:=hs.v;have he:=hs.e;have Y1:=hs.sm (by omega);refine av (hG _ _ rfl) akw ?_;refine aa (YW (hG _ _ rfl) s.1 (bf o) (by omega)) ?_;rw[show(rS zE (hP s.1 (bf o))).2.1=(hP s.1 (bf o)).isSome from je _ _];unfold ox
  cases h1:(hP s.1 (bf o)).isSome
  case true=>rfl
  rw[if_neg (by simp)];by_cases h2:40≤s.1.2.length
  · have d:decide (((s.1.2.length:Nat):Int)≥40)=true:=decide_eq_true (by omega)
    rw[if_pos h2];simp only[d];rfl
  have d2:decide (((s.1.2.length:Nat):Int)≥40)=false:=decide_eq_false (by omega);rw[if_neg h2];simp only[d2];refine aa (agk hG s (oA o) Y1 hg) ?_;refine aa (agk hG s (oB o) Y1 hg) ?_;refine aa (FG (hG _ _ rfl) s.1 (oB o).1 (by omega)) ?_;rw[show(rS zV (bq s.1 (oB o).1)).2.1=(bq s.1 (oB o).1).isSome from je _ _];have b1:=hs.dL (bf o,(e0,0));have b2:=b1.bV (bC s (oA o)).1 (bf o,0);have fin:∀(bc:rN),ig s o=bV (bV (s.1.1,dL (bf o,(e0,0)) s.1.2) (bC s (oA o)).1 (bf o,0)) bc (bf o,1) →(cond ((bC s (oA o)).2.1 != 0) (some (((([],[]),[]),((13:Int),())),())) (cond ((bC s (oB o)).2.1 != 0) (some (((([],[]),[]),((13:Int),())),())) ((FX G 125 Bv ((s.1,((bf o,(e0,(0:Int))),())),())).bind fun(y5:((ak×Unit)×Unit)) =>(FX G 126 Bw ((y5.1.1,((bC s (oA o)).1,((bf o,(0:Int)),()))),())).bind fun(y6:((ak×Unit)×Unit)) =>(FX G 126 Bw ((y6.1.1,(bc,((bf o,(1:Int)),()))),())).bind fun(y7:((ak×Unit)×Unit)) =>(FX G 99 KI ((y7.1.1,()),())).bind fun(y8:((Int×Unit)×Unit)) =>cond (y8.1.1 != (0:Int)) (some (((([],[]),[]),((15:Int),())),())) (some (((y7.1.1,s.2),((0:Int),())),())))):Option ((StateT×(Int×Unit))×Unit)) = some ((if(bC s (oA o)).2.1≠0 then(zS,(13,())) else if(bC s (oB o)).2.1≠0 then(zS,(13,())) else if bL (ig s o)≠0 then(zS,(15,())) else((ig s o,s.2),(0,())):StateT×(Int×Unit)),()):=by
    intro bc hbc;by_cases h3:(bC s (oA o)).2.1=0
    case neg =>
      have d:((bC s (oA o)).2.1 != 0)=true:=by simp[h3]
      rw[if_pos h3,d];rfl
    rw[if_neg (by simp[h3]),show((bC s (oA o)).2.1 != 0)=false by simp[h3]];by_cases h4:(bC s (oB o)).2.1=0
    case neg =>
      have d:((bC s (oB o)).2.1 != 0)=true:=by simp[h4]
      rw[if_pos h4,d];rfl
    rw[if_neg (by simp[h4]),show((bC s (oB o)).2.1 != 0)=false by simp[h4]];simp only[cond_false];have b3:=b2.bV bc (bf o,1);rw[←hbc]at b3;refine aa (aga hG s.1 (bf o,(e0,0)) (by omega)) ?_;refine aa (agc hG _ _ _ (b1.sm (by omega))) ?_;refine aa ((agc hG (bV (s.1.1,dL (bf o,(e0,0)) s.1.2) (bC s (oA o)).1 (bf o,0)) bc (bf o,1) (b2.sm (by omega))).trans (congrArg (fun z:ak=>some ((z,()),())) hbc.symm)) ?_;refine aa (alN hG (ig s o) (b3.sm (by omega)) (by have:=b3.e;omega)) ?_;by_cases h5:bL (ig s o)=0
    · simp_all
    · rw[if_pos h5]
      have d:(bL (ig s o) != 0)=true:=by simp[h5]
      simp only[d];rfl
  have hb:((((oB o).2.1.1==o.2.1.1)&&((oB o).2.1.2==o.2.1.2))&&((oB o).2.2==(0:Int)))=decide ((oB o).2=(bf o,0)):=lO (oB o).2 (bf o,0);simp only[hb]
  cases h6:(bq s.1 (oB o).1).isSome
  · exact fin (bC s (oB o)).1 (by simp_all [ig,if_neg])
  · by_cases h7:(oB o).2=(bf o,0)
    · have d:=decide_eq_true h7
      simp only[d];exact fin (oB o) (by simp_all [ig,if_pos])
    · have d:=decide_eq_false h7
      simp only[d];exact fin (bC s (oB o)).1 (by simp_all [ig,if_neg])
def Ec(s:StateT)(o:br):StateT×(Int×Unit) :=if(hP s.1 (bf o)).isSome=false then(zS,(13,()))
 else((aM (aH (aH s.1 (bf o,0)) (bf o,1)) zI (bf o),bT (bT s.2 ((bf o,0),dq s.1 (bf o,0))) ((bf o,1),dq s.1 (bf o,1))),(0,()))
theorem alU(hG:HG G){n:Nat}(s:StateT)(o:br)(hs:Bd n s.1)(hn:n≤4000000)(hg:s.2.length≤5000000):FX G 91 Uv ((s,o,()),())=some (Ec s o,()):=by
 have hv:=hs.v;have he:=hs.e;have Y1:=hs.sm (by omega);refine av (hG _ _ rfl) akx ?_;refine aa (YW (hG _ _ rfl) s.1 (bf o) (by omega)) ?_;rw[show(rS zE (hP s.1 (bf o))).2.1=(hP s.1 (bf o)).isSome from je _ _];unfold Ec
 cases h1:(hP s.1 (bf o)).isSome
 case false=>rfl
 rw[if_neg (by simp)];have b1:=hs.aH (bf o,0);have b2:=b1.aH (bf o,1);have l1:=gY s.2 ((bf o,0),dq s.1 (bf o,0));refine aa (agf hG s.1 (bf o,0) Y1) ?_;refine aa (YZ hG s.2 ((bf o,0),dq s.1 (bf o,0)) (by omega)) ?_;refine aa (agf hG s.1 (bf o,1) Y1) ?_;refine aa (YZ hG (bT s.2 ((bf o,0),dq s.1 (bf o,0))) ((bf o,1),dq s.1 (bf o,1)) (by omega)) ?_;refine aa (age hG s.1 (bf o,0) Y1) ?_;refine aa (age hG (aH s.1 (bf o,0)) (bf o,1) (b1.sm (by omega))) ?_;exact aa (YX (hG _ _ rfl) (aH (aH s.1 (bf o,0)) (bf o,1)) zI (bf o) (by have:=b2.v;omega) (by have:=b2.e;omega)) rfl
def LF(o:br):ab:=(bf o,IntKind.wrap .i64 (1-Int.tmod (oN o) 2))
def Hg(o:br):ab:=(bD o,IntKind.wrap .i64 (Int.tdiv (oN o) 2))
def VN(s:StateT)(o:br):ak :=(c8 (fG o,(cp [LF o,Hg o],(e0,0))) (aE s.1 (LF o) (aj (Hg o))).1,dL (bD o,(e0,0)) (aE s.1 (LF o) (aj (Hg o))).2)
def kM(s:StateT)(o:br):StateT×(Int×Unit) :=if(hP s.1 (bf o)).isSome=false then(zS,(13,()))
 else if(bq s.1 (fG o)).isSome=true then(zS,(12,()))
 else if(hP s.1 (bD o)).isSome=true then(zS,(12,()))
 else if 24≤s.1.1.length then(zS,(3,()))
 else if 40≤s.1.2.length then(zS,(3,()))
 else((VN s o,s.2),(0,()))
theorem alV(hG:HG G){n:Nat}(s:StateT)(o:br)(hs:Bd n s.1)(hn:n≤4000000):FX G 92 Uw ((s,o,()),())=some (kM s o,()):=by
 have hv:=hs.v;have he:=hs.e;have Y1:=hs.sm (by omega);refine av (hG _ _ rfl) aky ?_;refine aa (YW (hG _ _ rfl) s.1 (bf o) (by omega)) ?_;rw[show(rS zE (hP s.1 (bf o))).2.1=(hP s.1 (bf o)).isSome from je _ _];unfold kM
 cases h1:(hP s.1 (bf o)).isSome
 case false=>rfl
 rw[if_neg (by simp)];refine aa (FG (hG _ _ rfl) s.1 (fG o) (by omega)) ?_;rw[show(rS zV (bq s.1 (fG o))).2.1=(bq s.1 (fG o)).isSome from je _ _];refine aa (YW (hG _ _ rfl) s.1 (bD o) (by omega)) ?_;rw[show(rS zE (hP s.1 (bD o))).2.1=(hP s.1 (bD o)).isSome from je _ _]
 cases h2:(bq s.1 (fG o)).isSome
 case true=>rfl
 rw[if_neg (by simp)]
 cases h3:(hP s.1 (bD o)).isSome
 case true=>rfl
 rw[if_neg (by simp)];by_cases h4:24≤s.1.1.length
 ·have d:decide (((s.1.1.length:Nat):Int)≥24)=true:=decide_eq_true (by omega);rw[if_pos h4];simp only[d];rfl
 have d4:decide (((s.1.1.length:Nat):Int)≥24)=false:=decide_eq_false (by omega);rw[if_neg h4];by_cases h5:40≤s.1.2.length
 ·have d:decide (((s.1.2.length:Nat):Int)≥40)=true:=decide_eq_true (by omega);rw[if_pos h5];simp only[d4,d];rfl
 have d5:decide (((s.1.2.length:Nat):Int)≥40)=false:=decide_eq_false (by omega);rw[if_neg h5];simp only[d4,d5];have d6:((2:Int)==0)=false:=rfl;simp only[d6];have b1:=hs.aE (LF o) (aj (Hg o));have b2:=b1.dL (bD o,(e0,0));refine aa (acg (hG _ _ rfl) (Hg o)) ?_;refine aa (agd hG s.1 (LF o) (aj (Hg o)) Y1) ?_;refine aa (aga hG (aE s.1 (LF o) (aj (Hg o))) (bD o,(e0,0)) (by have:=b1.e;omega)) ?_;refine aa (Lv hG [LF o,Hg o] (by simp)) ?_;exact aa (af9 hG ((aE s.1 (LF o) (aj (Hg o))).1,dL (bD o,(e0,0)) (aE s.1 (LF o) (aj (Hg o))).2) (fG o,(cp [LF o,Hg o],(e0,0))) (acE b1.v (by omega))) rfl
def oR(a b:ab)(i:Int):ab:=if(b.1,i)=aj b then a else zD
def JG(g:List ax)(a b:ab):List ax:=bT (bT g ((b.1,0),oR a b 0)) ((b.1,1),oR a b 1)
def JH(s:StateT)(o:br)(a b:ab):ak:=aM (aE (aM s.1 (bf o) zI) (aj b) a) zI b.1
theorem alW(hG:HG G)(g:List ax)(a b:ab)(d:ak)(hg:g.length≤5000000) :
  LX G 93 Bu Tryz.f93 nq (aK Tryz.prog 93 0) ((g,((0:Int),())),(((([]:List ai),(([]:List ag),(([]:List ax),()))),((a,()),((b,()),((aj b,()),((d,()),()))))),()))=some (((d,JG g a b),((0:Int),())),()):=by
 have l2:∀g2:List ax,LX G 93 Bu Tryz.f93 nq (aK Tryz.prog 93 0) ((g2,((2:Int),())),(((([]:List ai),(([]:List ag),(([]:List ax),()))),((a,()),((b,()),((aj b,()),((d,()),()))))),()))=some (((d,g2),((0:Int),())),()):=fun g2 =>ar UY (af rfl rfl);have step:∀(i:Int) (g1:List ax) (r:(StateT×(Int×Unit))×Unit),i<2→g1.length≤5000001→LX G 93 Bu Tryz.f93 nq (aK Tryz.prog 93 0) ((bT g1 ((b.1,i),oR a b i),(IntKind.wrap .i64 (i+1),())),(((([]:List ai),(([]:List ag),(([]:List ax),()))),((a,()),((b,()),((aj b,()),((d,()),()))))),()))=some r → LX G 93 Bu Tryz.f93 nq (aK Tryz.prog 93 0) ((g1,(i,())),(((([]:List ai),(([]:List ag),(([]:List ax),()))),((a,()),((b,()),((aj b,()),((d,()),()))))),()))=some r:=fun i g1 r hi hg1 h=>by
  refine ar UY ?_;refine ae (decide_eq_true hi) ?_;unfold oR at h;by_cases he:((b.1,i):ab)=aj b
  ·rw[if_pos he]at h;refine ae ((lO (b.1,i) (aj b)).trans (decide_eq_true he)) ?_;refine aa (YZ hG g1 ((b.1,i),a) (by omega)) ?_;exact h
  ·rw[if_neg he]at h;refine af ((lO (b.1,i) (aj b)).trans (decide_eq_false he)) ?_;refine aa (YZ hG g1 ((b.1,i),zD) (by omega)) ?_;exact h
 have a1:=gY g ((b.1,0),oR a b 0);refine step 0 g _ (by omega) (by omega) ?_;refine step 1 _ _ (by omega) (by omega) ?_;exact l2 _
def jg(s:StateT)(o:br)(r0 r1:ab):StateT×(Int×Unit) :=if r0.1=r1.1 then(zS,(14,()))
 else if r0.1=bD o then((JH s o r1 r0,JG s.2 r1 r0),(0,()))
 else if r1.1=bD o then((JH s o r0 r1,JG s.2 r0 r1),(0,()))
 else(zS,(14,()))
def j6(s:StateT)(o:br):StateT×(Int×Unit):=match bq s.1 (bf o) with
 |none=>(zS,(13,()))
 |some v=>match v.2.1 with
  |[r0,r1]=>jg s o r0 r1
  |_=>(zS,(14,()))
theorem alX(hG:HG G){n:Nat}(s:StateT)(o:br)(hs:Bd n s.1)(hn:n≤4000000)(hg:s.2.length≤5000000):FX G 93 Bu ((s,o,()),())=some (j6 s o,()):=by
  have hv:=hs.v;have he:=hs.e;have Y1:=hs.sm (by omega);refine av (hG _ _ rfl) akz ?_;refine aa (FG (hG _ _ rfl) s.1 (bf o) (by omega)) ?_;unfold j6
  cases hf:bq s.1 (bf o) with
  |none=>rfl
  |some v =>
    refine af (show(!true)=false from rfl) ?_;have two:∀(a b:ab) (r:Option ((StateT×(Int×Unit))×Unit)),r=some (((JH s o a b,JG s.2 a b),((0:Int),())),()) →((FX G 131 Fz ((b,()),())).bind fun(y8:((ab×Unit)×Unit)) =>(FX G 89 qZ ((s.1,(bf o,(zI,()))),())).bind fun(y9:((ak×Unit)×Unit)) =>(FX G 130 KK ((y9.1.1,(y8.1.1,(a,()))),())).bind fun(nL:((ak×Unit)×Unit)) =>(FX G 89 qZ ((nL.1.1,(zI,(b.1,()))),())).bind fun(lL:((ak×Unit)×Unit)) =>LX G 93 Bu Tryz.f93 nq (aK Tryz.prog 93 0) ((s.2,((0:Int),())),(((([]:List ai),(([]:List ag),(([]:List ax),()))),((a,()),((b,()),((y8.1.1,()),((lL.1.1,()),()))))),())))=r:=fun a b r hr=>by subst hr;have b1:=hs.aM (bf o) zI;have b2:=b1.aE (aj b) a;refine aa (acg (hG _ _ rfl) b) ?_;refine aa (YX (hG _ _ rfl) s.1 (bf o) zI (by omega) (by omega)) ?_;refine aa (agd hG (aM s.1 (bf o) zI) (aj b) a (b1.sm (by omega))) ?_;refine aa (YX (hG _ _ rfl) (aE (aM s.1 (bf o) zI) (aj b) a) zI b.1 (by have:=b2.v;omega) (by have:=b2.e;omega)) ?_;exact alW hG s.2 a b (JH s o a b) hg
    obtain⟨vi,ring,vr⟩:=v;by_cases hl:ring.length=2
    case neg =>
      refine ae (show((((ring.length:Nat):Int)) != 2)=true by simp;omega) ?_
      match ring,hl with
      |[],_=>rfl
      |[_],_=>rfl
      |[_,_],h=>simp_all
      |_::_::_::_,_=>rfl
    match ring,hl with
    |[r0,r1],_ =>
      refine af (show((((2:Nat):Int)) != 2)=false from rfl) ?_;refine aa (show aU [r0,r1] 0=some r0 from rfl) ?_;refine aa (show aU [r0,r1] 1=some r1 from rfl) ?_;show _=some (jg s o r0 r1,());unfold jg;by_cases h1:r0.1=r1.1
      · rw[if_pos h1]
        exact ae ((lN r0.1 r1.1).trans (decide_eq_true h1)) rfl
      rw[if_neg h1];refine af ((lN r0.1 r1.1).trans (decide_eq_false h1)) ?_;refine aa (show aU [r0,r1] 0=some r0 from rfl) ?_;refine aa (show aU [r0,r1] 1=some r1 from rfl) ?_;by_cases h2:r0.1=bD o
      · rw[if_pos h2]
        refine ae ((lN r0.1 (bD o)).trans (decide_eq_true h2)) ?_;refine aa (show aU [r0,r1] 1=some r1 from rfl) ?_;refine aa (show aU [r0,r1] 0=some r0 from rfl) ?_;refine af (by simp_all) ?_;exact two r1 r0 _ rfl
      rw[if_neg h2];refine af ((lN r0.1 (bD o)).trans (decide_eq_false h2)) ?_;by_cases h3:r1.1=bD o
      · rw[if_pos h3]
        refine af (by simp_all) ?_;exact two r0 r1 _ rfl
      · rw[if_neg h3]
        exact ae (by grind) rfl
def oy(s:StateT)(o:br):StateT×(Int×Unit) :=if(bq s.1 (bf o)).isSome=true then(zS,(12,())) else if 24≤s.1.1.length then(zS,(3,())) else(((c8 (bf o,([],(e0,0))) s.1.1,s.1.2),s.2),(0,()))
def vF(s:StateT)(o:br):StateT×(Int×Unit):=match bq s.1 (bf o) with
 |none=>(zS,(13,()))
 |some v=>if 0<v.2.1.length then(zS,(14,())) else((aM s.1 (bf o) zI,s.2),(0,()))
def kh(s:StateT)(o:br):StateT×(Int×Unit) :=if cG o≠0 then(zS,(cG o,()))
 else if o.1=1 then oy s o else if o.1=2 then vF s o else if o.1=3 then ox s o else if o.1=4 then Ec s o else if o.1=5 then kM s o else if o.1=6 then j6 s o else wB s o
theorem alY(hG:HG G){n:Nat}(s:StateT)(o:br)(hs:Bd n s.1)(hn:n≤4000000)(hg:s.2.length≤5000000)(ht:tu o):FX G 66 Ur ((s,o,()),())=some (kh s o,()):=by
 have hv:=hs.v;have he:=hs.e;refine av (hG _ _ rfl) aj6 ?_;refine aa (ago hG o ht) ?_;unfold kh;by_cases h0:cG o=0
 case neg =>
  rw[if_pos h0];exact ae (show(cG o != 0)=true by simp[h0]) rfl
 rw[if_neg (by simp[h0])];refine af (show(cG o != 0)=false by simp[h0]) ?_;refine aa (FG (hG _ _ rfl) s.1 (bf o) (by omega)) ?_;by_cases h1:o.1=1
 ·rw[if_pos h1];refine ae (show(o.1==(1:Int))=true by simp[h1]) ?_;rw[show(rS zV (bq s.1 (bf o))).2.1=(bq s.1 (bf o)).isSome from je _ _];unfold oy
  cases hf:(bq s.1 (bf o)).isSome
  ·rw[if_neg (by simp)];refine af rfl ?_;by_cases h4:24≤s.1.1.length
   ·rw[if_pos h4];exact ae (decide_eq_true (show((s.1.1.length:Nat):Int)≥24 by omega)) rfl
   ·rw[if_neg h4];refine af (decide_eq_false (show ¬((s.1.1.length:Nat):Int)≥24 by omega)) ?_;exact aa (af9 hG s.1 (bf o,([],(e0,0))) (by omega)) rfl
  rfl
 rw[if_neg h1];refine af (show(o.1==(1:Int))=false by simp[h1]) ?_;by_cases h2:o.1=2
 ·rw[if_pos h2];refine ae (show(o.1==(2:Int))=true by simp[h2]) ?_;unfold vF
  cases hf:bq s.1 (bf o) with
  |none=>rfl
  |some v =>
   refine af (show(!true)=false from rfl) ?_;by_cases h4:0<v.2.1.length
   ·show _=some ((if 0<v.2.1.length then(zS,(14,())) else((aM s.1 (bf o) zI,s.2),(0,())):StateT×(Int×Unit)),());rw[if_pos h4];exact ae (decide_eq_true (show((v.2.1.length:Nat):Int)>0 by omega)) rfl
   ·show _=some ((if 0<v.2.1.length then(zS,(14,())) else((aM s.1 (bf o) zI,s.2),(0,())):StateT×(Int×Unit)),());rw[if_neg h4];refine af (decide_eq_false (show ¬((v.2.1.length:Nat):Int)>0 by omega)) ?_;exact aa (YX (hG _ _ rfl) s.1 (bf o) zI (by omega) (by omega)) rfl
 rw[if_neg h2];refine af (show(o.1==(2:Int))=false by simp[h2]) ?_;by_cases h3:o.1=3
 ·rw[if_pos h3];refine ae (show(o.1==(3:Int))=true by simp[h3]) ?_;exact aa (alT hG s o hs hn (by omega)) rfl
 rw[if_neg h3];refine af (show(o.1==(3:Int))=false by simp[h3]) ?_;by_cases h4:o.1=4
 ·rw[if_pos h4];refine ae (show(o.1==(4:Int))=true by simp[h4]) ?_;exact aa (alU hG s o hs hn hg) rfl
 rw[if_neg h4];refine af (show(o.1==(4:Int))=false by simp[h4]) ?_;by_cases h5:o.1=5
 ·rw[if_pos h5];refine ae (show(o.1==(5:Int))=true by simp[h5]) ?_;exact aa (alV hG s o hs hn) rfl
 rw[if_neg h5];refine af (show(o.1==(5:Int))=false by simp[h5]) ?_;by_cases h6:o.1=6
 ·rw[if_pos h6];refine ae (show(o.1==(6:Int))=true by simp[h6]) ?_;exact aa (alX hG s o hs hn hg) rfl
 rw[if_neg h6];refine af (show(o.1==(6:Int))=false by simp[h6]) ?_;exact aa (alS hG s o (hs.sm (by omega))) rfl
structure Bs(n:Nat)(s:StateT):Prop where
 d:Bd n s.1
 g:s.2.length≤n
theorem Bs.mono{n m:Nat}{s:StateT}(h:Bs n s)(hm:n≤m):Bs m s:=⟨h.d.mono hm,by have:=h.g;omega⟩
theorem Bs.zero(n:Nat):Bs n zS:=⟨⟨adx _,adx _,fun w hw=>by simp[zS]at hw⟩,adx _⟩
theorem Bs.one{n:Nat}{s:StateT}(h:Bs n s)(o:br):Bs (n+3) (kh s o).1:=by
 have h1:=h.d;have h2:=h.g;unfold kh
 split
 ·exact Bs.zero _
 split
 ·unfold oy;split
  ·exact Bs.zero _
  split
  ·exact Bs.zero _
  ·exact⟨(h1.c8 _ (by simp)).mono (by omega),by grind⟩
 split
 ·unfold vF
  cases bq s.1 (bf o) with
  |none=>exact Bs.zero _
  |some v =>
   simp only
   split
   ·exact Bs.zero _
   ·exact⟨(h1.aM _ _).mono (by omega),by grind⟩
 split
 ·unfold ox
  split;· exact Bs.zero _
  split;· exact Bs.zero _
  split;· exact Bs.zero _
  split;· exact Bs.zero _
  split;· exact Bs.zero _
  exact⟨by unfold ig;exact((h1.dL _).bV _ _).bV _ _,by grind⟩
 split
 ·unfold Ec
  split;· exact Bs.zero _
  refine⟨(((h1.aH _).aH _).aM _ _).mono (by omega),?_⟩;have a1:=gY s.2 ((bf o,0),dq s.1 (bf o,0));have a2:=gY (bT s.2 ((bf o,0),dq s.1 (bf o,0))) ((bf o,1),dq s.1 (bf o,1))
  grind
 split
 ·unfold kM
  split;· exact Bs.zero _
  split;· exact Bs.zero _
  split;· exact Bs.zero _
  split;· exact Bs.zero _
  split;· exact Bs.zero _
  refine⟨?_,by grind⟩;have b2:=((h1.aE (LF o) (aj (Hg o))).dL (bD o,(e0,0)));exact(b2.c8 (fG o,(cp [LF o,Hg o],(e0,0))) (by simp[jE])).mono (by omega)
 split
 ·unfold j6;have key:∀a b:ab,Bs (n+3) (JH s o a b,JG s.2 a b):=fun a b=>by
   refine⟨(((h1.aM _ _).aE _ _).aM _ _).mono (by omega),?_⟩
   grind [gY,oR,bT,JG]
  grind [Bs.zero,jg]
 ·unfold wB
  split
  ·refine⟨⟨by simp;have:=h1.v;omega,by simp;have:=h1.e;omega,fun w hw=>?_⟩,by grind⟩;obtain⟨u,hu,rfl⟩:=acn.1 hw;have hr:=h1.r u hu
   grind [iQ]
  ·exact Bs.zero _
def Ed:List br→StateT→StateT×(Int×Unit)
 |[],s=>(s,(0,()))
 |o::r,s=>if(kh s o).2.1≠0 then(zS,(kh s o).2) else Ed r (kh s o).1
def cZ(s:StateT)(l:List br):StateT×(Int×Unit):=if dM l≠0 then(zS,(dM l,())) else Ed l s
theorem Bs.go{l:List br}:∀{n:Nat} {s:StateT},Bs n s→Bs (n+3*l.length) (Ed l s).1:=by
 induction l with
 |nil=>intro n s h;exact h.mono (by simp)
 |cons o r ih =>
  intro n s h;unfold Ed
  split
  ·exact Bs.zero _
  ·exact(ih (h.one o)).mono (by simp;omega)
theorem alZ(hG:HG G){n:Nat}(s:StateT)(l:List br)(hs:Bs n s)(hn:n+3*l.length≤3000000)(ht:∀o∈l,tu o):FX G 41 KC ((s,l,()),())=some (cZ s l,()):=by
 refine av (hG _ _ rfl) akm ?_;refine aa (alR hG l ht) ?_;unfold cZ;by_cases h0:dM l=0
 case neg =>
  rw[if_pos h0];exact ae (show(dM l != 0)=true by simp[h0]) rfl
 rw[if_neg (by simp[h0])];refine af (show(dM l != 0)=false by simp[h0]) ?_;have key:=bu l (fun i (s:StateT)=>LX G 41 KC Tryz.f41 DJ (aK Tryz.prog 41 0) ((i,()),(((s,()),((l,()),((([]:List ai),(([]:List ag),(([]:List ax),()))),()))),()))) (fun(r:List br) (s:StateT)=>(Ed r s,())) (fun m s=>∃k,Bs k s∧k+3*m≤3000000) (fun s _=>by exact ar UQ (af (cE _) rfl)) (fun i o r s hi hx ya hk ih=>by
   obtain⟨k,hb,hk⟩:=hk;refine ar UQ ?_;refine ae (aT hi) ?_;refine aa (aB hx) ?_;have hbd:=hb.d;have hbg:=hb.g;refine aa (alY hG s o hbd (by omega) (by omega) (ht o (acI hx))) ?_;rw[Ed];by_cases h1:(kh s o).2.1=0
   ·rw[if_neg (by simp[h1])];refine af (show((kh s o).2.1 != 0)=false by simp[h1]) ?_;rw[wI,aD hi (show l.length≤1073741824 by omega)];exact ih (kh s o).1 ⟨k+3,hb.one o,by omega⟩
   ·rw[if_pos h1];exact ae (show((kh s o).2.1 != 0)=true by simp[h1]) rfl)
  s ⟨n,hs,hn⟩
 exact key
def hY(s:StateT)(l:List br):StateT:=if(cZ s l).2.1≠0 then s else(cZ s l).1
theorem al0(hG:HG G){n:Nat}(s:StateT)(l:List br)(hs:Bs n s)(hn:n+3*l.length≤3000000)(ht:∀o∈l,tu o):FX G 26 Nt ((s,l,()),())=some ((hY s l,()),()):=by
 refine av (hG _ _ rfl) ako ?_;refine aa (alZ hG s l hs hn ht) ?_;unfold hY;by_cases h1:(cZ s l).2.1=0
 ·rw[if_neg (by simp[h1])];exact af (show((cZ s l).2.1 != 0)=false by simp[h1]) rfl
 ·rw[if_pos h1];exact ae (show((cZ s l).2.1 != 0)=true by simp[h1]) rfl
theorem Bs.try{n:Nat}{s:StateT}{l:List br}(h:Bs n s):Bs (n+3*l.length) (hY s l):=by
 unfold hY
 split
 ·exact h.mono (by omega)
 ·unfold cZ
  split
  ·exact Bs.zero _
  ·exact h.go
def nE:Nat→List (List br)→StateT→StateT
 |0,_,s=>s
 |_+1,[],s=>s
 |n+1,l::r,s=>nE n r (hY s (l.take 8))
def Ee(l:List (List br)):StateT:=nE 30 l zS
theorem Bs.reach:∀(m:Nat) (l:List (List br)) {n:Nat} {s:StateT},Bs n s→Bs (n+24*m) (nE m l s)
 |0,_,n,s,h=>by grind [nE]
 |m+1,[],n,s,h=>h.mono (by omega)
 |m+1,l::r,n,s,h=>by
  rw[nE];have h1:Bs (n+3*(l.take 8).length) (hY s (l.take 8)):=h.try;have hl:(l.take 8).length≤8:=by simp;omega
  exact(Bs.reach m r (h1.mono (show n+3*(l.take 8).length≤n+24 by omega))).mono (by omega)
theorem Bs.PE(l:List (List br)):Bs 720 (Ee l):=(Bs.reach 30 l (Bs.zero 0)).mono (by omega)
end Go.Vs
