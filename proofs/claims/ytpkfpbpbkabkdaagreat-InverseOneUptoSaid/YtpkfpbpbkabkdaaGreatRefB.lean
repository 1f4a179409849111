/- What the document's reference -/
import Derived.Test.YtpkfpbpbkabkdaaGreatRefA
set_option linter.unusedVariables false
set_option linter.unusedSimpArgs false
namespace Go.Vs
open Go.Proofs
variable {G:(f:FuncId)→(g:aS)→Option (g.A→Option g.B)}
def Au(x:ID):List ah→Int→Int
 |[],_ => -1
 |v::r,i=>if v.1=x then i else Au x r (i+1)
theorem Lb(x:ID):∀(l:List ah) (i:Int),0≤i→Au x l i = -1∨(i≤Au x l i∧Au x l i<i+l.length)
 |[],i,_=>.inl rfl
 |v::r,i,h=>by
  unfold Au
  split
  ·right;simp;omega
  ·rcases Lb x r (i+1) (by omega) with h|h
   ·exact .inl h
   ·right;simp;omega
theorem acY(hG:G 217 DR=none)(d:aj)(x:ID)(hs:Sm d):FX G 217 DR ((d,x,()),())=some ((Au x d.1 0,()),()):=by
 have hv:=hs.v;refine az hG agI ?_;have loop:∀(n i:Nat),i+n=d.1.length→LX G 217 DR Tryz.f217 Cf (aO Tryz.prog 217 0) (((i:Int),()),(((d,()),((x,()),())),()))=some ((Au x (d.1.drop i) i,()),()):=by
  intro n
  induction n with
  |zero =>
   intro i hi;refine ao RI ?_;have h1:¬((i:Int)<(d.1.length:Int)):=by omega
   have h2:d.1.drop i=[]:=aeV (by omega);rw[h2];simp only[h1,decide_false];rfl
  |succ n ih =>
   intro i hi;refine ao RI ?_;have aF:i<d.1.length:=by omega
   have h2:d.1.drop i=d.1[i]::d.1.drop (i+1):=adK aF;have hx:d.1[i]? = some d.1[i]:=aaV aF;rw[h2,Au];simp only[aY aF,aA hx,Option.bind_some,gN,aD aF (show d.1.length≤1073741824 by omega)];by_cases he:d.1[i].1=x
   ·have d1:=decide_eq_true he;rw[if_pos he];simp only[d1];rfl
   ·have d1:=decide_eq_false he;rw[if_neg he];simp only[d1];exact ih (i+1) (by omega)
 exact loop d.1.length 0 (by omega)
def Gz(d:aj)(e:ai)(out:List Int):List Int :=
 let a:=Au ((bP d (e.1,0)).getD zI) d.1 0
 let b:=Au ((bP d (e.1,1)).getD zI) d.1 0
 if 0≤a∧0≤b then(out.set a.toNat (min (out.getD a.toNat 0) (out.getD b.toNat 0))).set b.toNat (min (out.getD a.toNat 0) (out.getD b.toNat 0)) else out
def jK(d:aj):List ai→List Int→List Int
 |[],out=>out
 |e::r,out=>jK d r (Gz d e out)
def IZ(d:aj):Nat→List Int→List Int
 |0,out=>out
 |n+1,out=>IZ d n (jK d d.2 out)
def DV(n:Nat):List Int:=(List.range n).map fun i=>((i:Nat):Int)
def labels(d:aj):List Int:=IZ d d.1.length (DV d.1.length)
theorem I0(d:aj)(e:ai)(out:List Int):(Gz d e out).length=out.length:=by unfold Gz;simp only;split<;>simp
theorem wb(d:aj):∀(l:List ai) (out:List Int),(jK d l out).length=out.length
 |[],out=>rfl
 |e::r,out=>by rw[jK,wb d r,I0]
theorem zi(d:aj):∀(n:Nat) (out:List Int),(IZ d n out).length=out.length
 |0,out=>rfl
 |n+1,out=>by rw[IZ,zi d n,wb]
theorem DW(d:aj):(labels d).length=d.1.length:=by unfold labels;rw[zi];simp[DV]
theorem YJ(hG:HG G)(d:aj)(hs:Sm d)(n:Int)(R:List Int→List Int) (hR:∀out:List Int,out.length=d.1.length→LX G 193 sY Tryz.f193 xn (aO Tryz.prog 193 1) ((IntKind.wrap .i64 (n+1),()),(((d,()),()),(out,())))=some ((R out,()),())) :
  ∀out:List Int,out.length=d.1.length→LX G 193 sY Tryz.f193 ry (aO Tryz.prog 193 2) ((n,((0:Int),())),(((d,()),()),(out,())))=some ((R (jK d d.2 out),()),()):=by
 have hv:=hs.v;have he:=hs.e;have loop:∀(m i:Nat) (out:List Int),i+m=d.2.length→out.length=d.1.length→LX G 193 sY Tryz.f193 ry (aO Tryz.prog 193 2) ((n,((i:Int),())),(((d,()),()),(out,())))=some ((R (jK d (d.2.drop i) out),()),()):=by
  intro m
  induction m with
  |zero =>
   intro i out hi ho;have h1:¬((i:Int)<(d.2.length:Int)):=by omega
   have h2:d.2.drop i=[]:=aeV (by omega);rw[h2,jK];refine ao RM ?_;simp only[h1,decide_false];exact hR out ho
  |succ m ih =>
   intro i out hi ho;have aF:i<d.2.length:=by omega
   have h2:d.2.drop i=d.2[i]::d.2.drop (i+1):=adK aF;have hx:d.2[i]? = some d.2[i]:=aaV aF;rw[h2,jK];generalize d.2[i]=e at *;refine ao RM ?_;simp only[aY aF,aA hx,Option.bind_some,aD aF (show d.2.length≤1073741824 by omega)];refine aa (Gx hG d (e.1,0) (by omega) (fun w hw=>by have:=hs.r w hw;omega)) ?_;refine aa (Gx hG d (e.1,1) (by omega) (fun w hw=>by have:=hs.r w hw;omega)) ?_;rw[show(fR zI (bP d (e.1,0))).1=(bP d (e.1,0)).getD zI from di _ _,show(fR zI (bP d (e.1,1))).1=(bP d (e.1,1)).getD zI from di _ _];refine aa (acY (hG _ _ rfl) d ((bP d (e.1,0)).getD zI) hs) ?_;refine aa (acY (hG _ _ rfl) d ((bP d (e.1,1)).getD zI) hs) ?_;have hL:Gz d e out=(if 0≤Au ((bP d (e.1,0)).getD zI) d.1 0∧0≤Au ((bP d (e.1,1)).getD zI) d.1 0 then(out.set (Au ((bP d (e.1,0)).getD zI) d.1 0).toNat (min (out.getD (Au ((bP d (e.1,0)).getD zI) d.1 0).toNat 0) (out.getD (Au ((bP d (e.1,1)).getD zI) d.1 0).toNat 0))).set (Au ((bP d (e.1,1)).getD zI) d.1 0).toNat (min (out.getD (Au ((bP d (e.1,0)).getD zI) d.1 0).toNat 0) (out.getD (Au ((bP d (e.1,1)).getD zI) d.1 0).toNat 0)) else out):=rfl;have ha:=Lb ((bP d (e.1,0)).getD zI) d.1 0 (by omega);have hb:=Lb ((bP d (e.1,1)).getD zI) d.1 0 (by omega);generalize Au ((bP d (e.1,0)).getD zI) d.1 0=a at *;generalize Au ((bP d (e.1,1)).getD zI) d.1 0=b at *;by_cases h3:0≤a
   case neg =>
    have d3:decide (a≥0)=false:=decide_eq_false h3;rw[hL,if_neg (by omega)];simp only[d3];exact ih (i+1) out (by omega) ho
   have d3:decide (a≥0)=true:=decide_eq_true h3;by_cases h4:0≤b
   case neg =>
    have d4:decide (b≥0)=false:=decide_eq_false h4;rw[hL,if_neg (by omega)];simp only[d3,d4];exact ih (i+1) out (by omega) ho
   have d4:decide (b≥0)=true:=decide_eq_true h4;rw[if_pos ⟨h3,h4⟩]at hL;have hal:a.toNat<out.length:=by omega
   have hbl:b.toNat<out.length:=by omega
   have xa:out[a.toNat]? = some out[a.toNat]:=aaV hal;have xb:out[b.toNat]? = some out[b.toNat]:=aaV hbl;have ga:out.getD a.toNat 0=out[a.toNat]:=by simp[List.getD,xa]
   have gb:out.getD b.toNat 0=out[b.toNat]:=by simp[List.getD,xb]
   rw[ga,gb]at hL;generalize out[a.toNat]=p at *;generalize out[b.toNat]=q at *;have d5:decide ((0:Int)≤a)=true:=decide_eq_true h3;have d6:decide ((0:Int)≤b)=true:=decide_eq_true h4;have d7:decide (a<((out.length:Nat):Int))=true:=decide_eq_true (by omega);have d8:decide (b<((out.length:Nat):Int))=true:=decide_eq_true (by omega);have hbs:b.toNat<(out.set a.toNat (min p q)).length:=by simpa using hbl
   have d9:decide (b<(((out.set a.toNat (min p q)).length:Nat):Int))=true:=decide_eq_true (by simp;omega);have xs:(out.set a.toNat (min p q))[b.toNat]? = some (out.set a.toNat (min p q))[b.toNat]:=aaV hbs;simp only[d3,d4,d5,d6,d7,d8,Bool.and_self,xa,xb,Option.bind_some,d9,xs];rw[hL];exact ih (i+1) ((out.set a.toNat (min p q)).set b.toNat (min p q)) (by omega) (by simp[ho])
 intro out ho;exact loop d.2.length 0 out (by omega) ho
theorem ah0(hG:HG G)(d:aj)(hs:Sm d):FX G 193 sY ((d,()),())=some ((labels d,()),()):=by
 have hv:=hs.v;refine az (hG _ _ rfl) agJ ?_;have l1:∀(n i:Nat) (out:List Int),i+n=d.1.length→out.length=d.1.length→LX G 193 sY Tryz.f193 xn (aO Tryz.prog 193 1) (((i:Int),()),(((d,()),()),(out,())))=some ((IZ d n out,()),()):=by
  intro n
  induction n with
  |zero =>
   intro i out hi ho;refine ao RL ?_;have h1:¬((i:Int)<(d.1.length:Int)):=by omega
   simp only[h1,decide_false];rfl
  |succ n ih =>
   intro i out hi ho;refine ao RL ?_;have aF:i<d.1.length:=by omega
   simp only[aY aF];exact YJ hG d hs (i:Int) (IZ d n) (fun out ho=>by rw[aD aF (show d.1.length≤1073741824 by omega)];exact ih (i+1) out (by omega) ho) out ho
 have l0:∀(n i:Nat) (out:List Int),i+n=d.1.length→out=DV i→LX G 193 sY Tryz.f193 Cg (aO Tryz.prog 193 0) (((i:Int),()),(((d,()),()),(out,())))=some ((labels d,()),()):=by
  intro n
  induction n with
  |zero =>
   intro i out hi ho;refine ao RJ ?_;have h1:¬((i:Int)<(d.1.length:Int)):=by omega
   have tQ:i=d.1.length:=by omega
   subst tQ;simp only[h1,decide_false];have:=l1 d.1.length 0 out (by omega) (by rw[ho];simp[DV]);rw[ho]at this ⊢;exact this
  |succ n ih =>
   intro i out hi ho;refine ao RJ ?_;have aF:i<d.1.length:=by omega
   have h6:aN out.length [(i:Int)].length=true:=fits (by rw[ho];simp[DV];omega);simp only[aY aF,h6,aD aF (show d.1.length≤1073741824 by omega)];exact ih (i+1) (out++[(i:Int)]) (by omega) (by rw[ho];simp[DV,List.range_succ])
 exact l0 d.1.length 0 [] (by omega) (by simp[DV])
def p7:List Int→Int→Int→Int
 |[],_,n=>n
 |x::r,i,n=>p7 r (i+1) (if x=i then IntKind.wrap .i64 (n+1) else n)
def fe(d:aj):Int:=p7 (labels d) 0 0
theorem ah1(hG:HG G)(d:aj)(hs:Sm d):FX G 165 Ia ((d,()),())=some ((fe d,()),()):=by
 have hv:=hs.v;have hl:=DW d;refine az (hG _ _ rfl) ags ?_;refine aa (ah0 hG d hs) ?_;unfold fe;generalize labels d=l at *;have loop:∀(m i:Nat) (n:Int),i+m=l.length→LX G 165 Ia Tryz.f165 xk (aO Tryz.prog 165 0) ((n,((i:Int),())),((),(l,())))=some ((p7 (l.drop i) i n,()),()):=by
  intro m
  induction m with
  |zero =>
   intro i n hi;refine ao Rx ?_;have h1:¬((i:Int)<(l.length:Int)):=by omega
   have h2:l.drop i=[]:=aeV (by omega);rw[h2];simp only[h1,decide_false];rfl
  |succ m ih =>
   intro i n hi;refine ao Rx ?_;have aF:i<l.length:=by omega
   have h2:l.drop i=l[i]::l.drop (i+1):=adK aF;have hx:l[i]? = some l[i]:=aaV aF;rw[h2,p7];simp only[aY aF,fj,Bool.and_self,Int.toNat_natCast,hx,Option.bind_some,aD aF (show l.length≤1073741824 by omega)];by_cases he:l[i]=(i:Int)
   ·have d1:(l[i]==(i:Int))=true:=by simp[he]
    rw[if_pos he];simp only[d1];exact ih (i+1) _ (by omega)
   ·have d1:(l[i]==(i:Int))=false:=by simp[he]
    rw[if_neg he];simp only[d1];exact ih (i+1) _ (by omega)
 exact loop l.length 0 0 (by omega)
def rE:List ah→Int→Int
 |[],n=>n
 |v::r,n=>rE r (if v.2.1.length=0 then IntKind.wrap .i64 (n+1) else n)
def CF(d:aj):Int:=rE d.1 ((((c6 d).length:Nat)):Int)
theorem ah2(hG:HG G)(d:aj)(hs:Sm d)(he:d.2.length≤5000000):FX G 136 F7 ((d,()),())=some ((((d.1.length:Nat):Int),(((d.2.length:Nat):Int),(CF d,(fe d,())))),()):=by
 have hv:=hs.v;refine az (hG _ _ rfl) ahd ?_;refine aa (ahY hG d hs he) ?_;unfold CF;show LX G 136 F7 Tryz.f136 um (aO Tryz.prog 136 0) ((lI (c6 d),((0:Int),())),(((d,()),()),()))=_;unfold lI;generalize (((c6 d).length:Nat):Int)=f0;have key:=bU d.1 (fun i (n:Int)=>LX G 136 F7 Tryz.f136 um (aO Tryz.prog 136 0) ((n,(i,())),(((d,()),()),()))) (fun(r:List ah) (n:Int)=>((((d.1.length:Nat):Int),(((d.2.length:Nat):Int),(rE r n,(fe d,())))),())) (fun _ _=>True) (fun n _=>by refine ao R7 ?_;simp only[dn];exact aa (ah1 hG d hs) rfl) (fun i y r n hi hx zO _ ih=>by
   refine ao R7 ?_;simp only[aY hi,aA hx,Option.bind_some,aD hi (show d.1.length≤1073741824 by omega)];by_cases he:y.2.1.length=0
   ·have d1:((((y.2.1.length:Nat)):Int)==0)=true:=by simp[he]
    simp only[d1,rE,if_pos he];exact ih _ trivial
   ·have d1:((((y.2.1.length:Nat)):Int)==0)=false:=by simp;intro e;rw[e]at he;simp at he
    simp only[d1,rE,if_neg he];exact ih _ trivial)
  f0 trivial
 exact key
def fX(d:aj):Int:=IntKind.wrap .i64 (Int.tdiv (IntKind.wrap .i64 (IntKind.wrap .i64 (IntKind.wrap .i64 (IntKind.wrap .i64 (2*fe d)-((d.1.length:Nat):Int))+((d.2.length:Nat):Int))-CF d)) 2)
theorem YK(hG:HG G)(d:aj)(hs:Sm d)(he:d.2.length≤5000000):FX G 107 F5 ((d,()),())=some ((fX d,()),()):=by refine az (hG _ _ rfl) agR ?_;exact aa (ah2 hG d hs he) rfl
theorem VB{s:ByteArray}{i:Nat}{c:UInt8}(h:s.data.toList[i]? = some c):(if(0:Int)≤(i:Int) then s[Int.toNat (i:Int)]? else none)=some c:=by
 have hi:i<s.size:=by have:=(aaW.1 h).1;simpa using this
 rw[if_pos (by omega),Int.toNat_natCast,getElem?_pos s i hi];have h2:=(aaW.1 h).2;rw[←h2];rfl
def kH(c:UInt8):Bool:=decide (32≤c.toNat)&&decide (c.toNat≤126)
def mP(s:ByteArray):Bool:=s.data.toList.all kH&&decide (s.size≤16)
theorem YL(hG:G 91 xh=none)(s:ByteArray)(hs:s.size≤100000000):FX G 91 xh ((s,()),())=some ((mP s,()),()):=by
 refine az hG ago ?_;have hl:s.data.toList.length=s.size:=by simp
 have key:=bU s.data.toList (fun i (_:Unit)=>LX G 91 xh Tryz.f91 B9 (aO Tryz.prog 91 0) ((s,(i,())),((),()))) (fun(r:List UInt8) (_:Unit)=>((r.all kH&&decide (s.size≤16),()),())) (fun _ _=>True) (fun _ _=>by
   refine ao Ru ?_;rw[hl];have h2:decide (((s.size:Nat):Int)≤16)=decide (s.size≤16):=by rw[Bool.eq_iff_iff];simp;omega
   simp only[dn,h2,List.all_nil,Bool.true_and];rfl)
  (fun i c r _ hi hx zO _ ih=>by
   refine ao Ru ?_;rw[hl]at hi;have hb:=VB hx;simp only[aY hi,hb,Option.bind_some,aD hi (show s.size≤1073741824 by omega)];by_cases h1:c.toNat<32
   ·have d1:decide (((c.toNat:Nat):Int)<32)=true:=decide_eq_true (by omega);have d2:kH c=false:=by unfold kH;simp;omega
    simp only[d1,List.all_cons,d2,Bool.false_and];rfl
   ·have d1:decide (((c.toNat:Nat):Int)<32)=false:=decide_eq_false (by omega);by_cases h2:126<c.toNat
    ·have d2:decide (((c.toNat:Nat):Int)>126)=true:=decide_eq_true (by omega);have d3:kH c=false:=by unfold kH;simp;omega
     simp only[d1,d2,List.all_cons,d3,Bool.false_and];rfl
    ·have d2:decide (((c.toNat:Nat):Int)>126)=false:=decide_eq_false (by omega);have d3:kH c=true:=by unfold kH;simp;omega
     simp only[d1,d2,List.all_cons,d3,Bool.true_and];exact ih () trivial)
  () trivial
 exact key
def kI(n:Int):Bool:=decide (-1099511627776≤n∧n≤1099511627776)
theorem YM(hG:G 90 zB=none)(n:Int):FX G 90 zB ((n,()),())=some ((kI n,()),()):=by refine az hG agp ?_;show(cond (decide (n≥-1099511627776)) (some ((decide (n≤1099511627776),()),())) (some ((false,()),())):Option ((Bool×Unit)×Unit))=some ((kI n,()),());unfold kI;by_cases h1 : -1099511627776≤n<;>simp[h1]
def rF(c:ni):Bool:=cf c.1&&(IW c.2 || decide (c.2=zD))
theorem acZ(hG:HG G)(c:ni):FX G 89 Oe ((c,()),())=some ((rF c,()),()):=by
 refine az (hG _ _ rfl) agW ?_;refine aa (DU (hG _ _ rfl) c.1) ?_;refine aa (ahP hG c.2) ?_;have hb:(((c.2.1.1==(0:Int))&&(c.2.1.2==(0:Int)))&&(c.2.2==(0:Int)))=decide (c.2=zD):=jF c.2 zD;unfold rF;simp only[hb]
 cases h1:cf c.1<;>cases h2:IW c.2<;>rfl
def J7:aR:=(0,(zI,(zI,(zI,(zC,(zC,(false,(e0,0))))))))
def jL(o:aR):aR :=if o.1=3 then(0,(zI,(o.2.2.1,(o.2.2.2.1,(zC,(zC,(o.2.2.2.2.2.2.1,o.2.2.2.2.2.2.2)))))))
 else if o.1=5 then(0,(zI,(zI,(zI,(o.2.2.2.2.1,(o.2.2.2.2.2.1,(o.2.2.2.2.2.2.1,(o.2.2.2.2.2.2.2.1,0))))))))
 else if o.1=6 then(0,(zI,(o.2.2.1,(zI,(o.2.2.2.2.1,(o.2.2.2.2.2.1,(o.2.2.2.2.2.2.1,o.2.2.2.2.2.2.2)))))))
 else if o.1=7 then(0,(zI,(o.2.2.1,(o.2.2.2.1,(o.2.2.2.2.1,(o.2.2.2.2.2.1,(false,(e0,o.2.2.2.2.2.2.2.2))))))))
 else if o.1=8 then(0,(zI,(o.2.2.1,(o.2.2.2.1,(o.2.2.2.2.1,(o.2.2.2.2.2.1,(false,(o.2.2.2.2.2.2.2.1,0))))))))
 else(0,(zI,(o.2.2.1,(o.2.2.2.1,(o.2.2.2.2.1,(o.2.2.2.2.2.1,(o.2.2.2.2.2.2.1,o.2.2.2.2.2.2.2)))))))
theorem ah3(hG:G 88 Od=none)(o:aR):FX G 88 Od ((o,()),())=some ((jL o,()),()):=by
 refine az hG agV ?_;unfold jL;by_cases h3:o.1=3
 ·have d:(o.1==(3:Int))=true:=by simp[h3]
  rw[if_pos h3];simp only[d];rfl
 have d3:(o.1==(3:Int))=false:=by simp[h3]
 rw[if_neg h3];by_cases h5:o.1=5
 ·have d:(o.1==(5:Int))=true:=by simp[h5]
  rw[if_pos h5];simp only[d3,d];rfl
 have d5:(o.1==(5:Int))=false:=by simp[h5]
 rw[if_neg h5];by_cases h6:o.1=6
 ·have d:(o.1==(6:Int))=true:=by simp[h6]
  rw[if_pos h6];simp only[d3,d5,d];rfl
 have d6:(o.1==(6:Int))=false:=by simp[h6]
 rw[if_neg h6];by_cases h7:o.1=7
 ·have d:(o.1==(7:Int))=true:=by simp[h7]
  rw[if_pos h7];simp only[d3,d5,d6,d];rfl
 have d7:(o.1==(7:Int))=false:=by simp[h7]
 rw[if_neg h7];by_cases h8:o.1=8
 ·have d:(o.1==(8:Int))=true:=by simp[h8]
  rw[if_pos h8];simp only[d3,d5,d6,d7,d];rfl
 have d8:(o.1==(8:Int))=false:=by simp[h8]
 rw[if_neg h8];simp only[d3,d5,d6,d7,d8];rfl
def qa(x y:aR):Bool :=(x.1==y.1)&&(((x.2.1.1==y.2.1.1)&&(x.2.1.2==y.2.1.2))&&(((x.2.2.1.1==y.2.2.1.1)&&(x.2.2.1.2==y.2.2.1.2))&&(((x.2.2.2.1.1==y.2.2.2.1.1)&&(x.2.2.2.1.2==y.2.2.2.1.2)) && ((((x.2.2.2.2.1.1.1==y.2.2.2.2.1.1.1)&&(x.2.2.2.2.1.1.2==y.2.2.2.2.1.1.2))&&(((x.2.2.2.2.1.2.1.1==y.2.2.2.2.1.2.1.1)&&(x.2.2.2.2.1.2.1.2==y.2.2.2.2.1.2.1.2))&&(x.2.2.2.2.1.2.2==y.2.2.2.2.1.2.2))) && ((((x.2.2.2.2.2.1.1.1==y.2.2.2.2.2.1.1.1)&&(x.2.2.2.2.2.1.1.2==y.2.2.2.2.2.1.1.2))&&(((x.2.2.2.2.2.1.2.1.1==y.2.2.2.2.2.1.2.1.1)&&(x.2.2.2.2.2.1.2.1.2==y.2.2.2.2.2.1.2.1.2))&&(x.2.2.2.2.2.1.2.2==y.2.2.2.2.2.1.2.2))) && ((x.2.2.2.2.2.2.1==y.2.2.2.2.2.2.1)&&((x.2.2.2.2.2.2.2.1==y.2.2.2.2.2.2.2.1)&&(x.2.2.2.2.2.2.2.2==y.2.2.2.2.2.2.2.2))))))))
theorem im(x y:aR):qa x y=true↔x=y:=by obtain⟨x1,⟨x2,x3⟩,⟨x4,x5⟩,⟨x6,x7⟩,⟨⟨x8,x9⟩,⟨x10,x11⟩,x12⟩,⟨⟨x13,x14⟩,⟨x15,x16⟩,x17⟩,x18,x19,x20⟩:=x;obtain⟨y1,⟨y2,y3⟩,⟨y4,y5⟩,⟨y6,y7⟩,⟨⟨y8,y9⟩,⟨mN,kW⟩,o6⟩,⟨⟨ll,Gb⟩,⟨uM,Ur⟩,Xc⟩,ZT,Xd,IJ⟩:=y;unfold qa;simp only[La];simp[and_assoc]
theorem aV{α:Type}{c b:Bool}{x y r:α}(h:c=b)(k:cond (not b) x y=r):cond (not c) x y=r:=by subst h;exact k
def bB(o:aR):Int :=if o.1<1 then 1 else if 8<o.1 then 1 else if cf o.2.1=false then 1 else if qa (jL o) J7=false then 1
 else if o.1=3 then(if rF o.2.2.2.2.1=true∧rF o.2.2.2.2.2.1=true then 0 else 1)
 else if o.1=5 then(if cf o.2.2.1=true∧cf o.2.2.2.1=true∧0≤o.2.2.2.2.2.2.2.2∧o.2.2.2.2.2.2.2.2≤3 then 0 else 1)
 else if o.1=6 then(if cf o.2.2.2.1=true then 0 else 1)
 else if o.1=8 then(if kI o.2.2.2.2.2.2.2.2=true then 0 else 1)
 else if o.1=7 then(if mP o.2.2.2.2.2.2.2.1=true then 0 else 4)
 else 0
def I1(n:Int):Option ((Int×Unit)×Unit):=some ((n,()),())
theorem ac0(hG:HG G)(o:aR)(ht:o.2.2.2.2.2.2.2.1.size≤100000000):FX G 46 Oa ((o,()),())=some ((bB o,()),()):=by
 refine az (hG _ _ rfl) agy ?_;refine aa (DU (hG _ _ rfl) o.2.1) ?_;unfold bB;by_cases h1:o.1<1
 ·rw[if_pos h1];have d:=decide_eq_true h1;simp only[d];rfl
 rw[if_neg h1];have d1:=decide_eq_false h1;by_cases h2:8<o.1
 ·rw[if_pos h2];have d:decide (o.1>8)=true:=decide_eq_true h2;simp only[d1,d];rfl
 rw[if_neg h2];have d2:decide (o.1>8)=false:=decide_eq_false h2
 cases hm:cf o.2.1
 ·rw[if_pos rfl];simp only[d1,d2];rfl
 rw[if_neg (by simp)];simp only[d1,d2];refine aa (ah3 (hG _ _ rfl) o) ?_;refine aV (b:=qa (jL o) J7) rfl ?_
 cases he:qa (jL o) J7
 ·rw[if_pos rfl];rfl
 rw[if_neg (by simp)];by_cases h3:o.1=3
 ·rw[if_pos h3];have d:(o.1==(3:Int))=true:=by simp[h3]
  simp only[d];refine aa (acZ hG o.2.2.2.2.1) ?_;refine aa (acZ hG o.2.2.2.2.2.1) ?_
  cases hc:rF o.2.2.2.2.1<;>cases o4:rF o.2.2.2.2.2.1<;>rfl
 rw[if_neg h3];have d3:(o.1==(3:Int))=false:=by simp[h3]
 by_cases h5:o.1=5
 ·rw[if_pos h5];have d:(o.1==(5:Int))=true:=by simp[h5]
  simp only[d3,d];refine aa (DU (hG _ _ rfl) o.2.2.1) ?_;refine aa (DU (hG _ _ rfl) o.2.2.2.1) ?_
  cases hc:cf o.2.2.1
  ·rw[if_neg (by simp)];rfl
  cases o4:cf o.2.2.2.1
  ·rw[if_neg (by simp)];rfl
  by_cases h6:o.2.2.2.2.2.2.2.2<0
  ·have d6:=decide_eq_true h6;rw[if_neg (by omega)];simp only[d6];rfl
  have d6:=decide_eq_false h6;by_cases h7:o.2.2.2.2.2.2.2.2>3
  ·have d7:=decide_eq_true h7;rw[if_neg (by omega)];simp only[d6,d7];rfl
  have d7:=decide_eq_false h7;rw[if_pos ⟨rfl,rfl,by omega,by omega⟩];simp only[d6,d7];rfl
 rw[if_neg h5];have d5:(o.1==(5:Int))=false:=by simp[h5]
 by_cases h6:o.1=6
 ·rw[if_pos h6];have d:(o.1==(6:Int))=true:=by simp[h6]
  simp only[d3,d5,d];refine aa (DU (hG _ _ rfl) o.2.2.2.1) ?_
  cases hc:cf o.2.2.2.1<;>rfl
 rw[if_neg h6];have d6:(o.1==(6:Int))=false:=by simp[h6]
 by_cases h8:o.1=8
 ·rw[if_pos h8];have d:(o.1==(8:Int))=true:=by simp[h8]
  simp only[d3,d5,d6,d];refine aa (YM (hG _ _ rfl) o.2.2.2.2.2.2.2.2) ?_
  cases hc:kI o.2.2.2.2.2.2.2.2<;>rfl
 rw[if_neg h8];have d8:(o.1==(8:Int))=false:=by simp[h8]
 by_cases h7:o.1=7
 ·rw[if_pos h7];have d:(o.1==(7:Int))=true:=by simp[h7]
  simp only[d3,d5,d6,d8,d];refine aa (YL (hG _ _ rfl) o.2.2.2.2.2.2.2.1 (by omega)) ?_
  cases hc:mP o.2.2.2.2.2.2.2.1<;>rfl
 rw[if_neg h7];have d7:(o.1==(7:Int))=false:=by simp[h7]
 simp only[d3,d5,d6,d8,d7];rfl
def uB(o:aR):Prop:=o.2.2.2.2.2.2.2.1.size≤100000000
def kJ:List aR→Int
 |[]=>0
 |o::r=>if bB o≠0 then bB o else kJ r
def eF(l:List aR):Int:=if 1≤l.length∧l.length≤6 then kJ l else 3
theorem ah4(hG:HG G)(l:List aR)(ht:∀o∈l,uB o):FX G 69 Ic ((l,()),())=some ((eF l,()),()):=by
 refine az (hG _ _ rfl) agw ?_;unfold eF;by_cases h1:l.length<1
 ·have d:decide (((l.length:Nat):Int)<1)=true:=decide_eq_true (by omega);rw[if_neg (by omega)];simp only[d];rfl
 have d1:decide (((l.length:Nat):Int)<1)=false:=decide_eq_false (by omega);by_cases h2:6<l.length
 ·have d:decide (((l.length:Nat):Int)>6)=true:=decide_eq_true (by omega);rw[if_neg (by omega)];simp only[d1,d];rfl
 have d2:decide (((l.length:Nat):Int)>6)=false:=decide_eq_false (by omega);rw[if_pos (by omega)];simp only[d1,d2];have key:=bU l (fun i (_:Unit)=>LX G 69 Ic Tryz.f69 Cc (aO Tryz.prog 69 0) ((i,()),(((l,()),()),()))) (fun(r:List aR) (_:Unit)=>((kJ r,()),())) (fun _ _=>True) (fun _ _=>by refine ao RA ?_;simp only[dn];rfl) (fun i o r _ hi hx zO _ ih=>by
   refine ao RA ?_;simp only[aY hi,aA hx,Option.bind_some,aD hi (show l.length≤1073741824 by omega)];refine aa (ac0 hG o (ht o (ac7 hx))) ?_;rw[kJ];by_cases h:bB o=0
   ·have d:(bB o != 0)=false:=by simp[h]
    rw[if_neg (by simp[h])];simp only[d];exact ih () trivial
   ·have d:(bB o != 0)=true:=by simp[h]
    rw[if_pos h];simp only[d];rfl)
  () trivial
 exact key
theorem af{α:Type}{c:Bool}{x y r:α}(h:c=true)(k:x=r):cond c x y=r:=by subst h;exact k
theorem ag{α:Type}{c:Bool}{x y r:α}(h:c=false)(k:y=r):cond c x y=r:=by subst h;exact k
theorem c9{a b:Bool}(h:a=true)(k:b=true):(a&&b)=true:=by rw[h,k];rfl
def zS:StateT:=(([],[]),[])
abbrev aH(o:aR):ID:=o.2.1
abbrev dR(o:aR):ID:=o.2.2.1
abbrev an(o:aR):ID:=o.2.2.2.1
abbrev oA(o:aR):ni:=o.2.2.2.2.1
abbrev oB(o:aR):ni:=o.2.2.2.2.2.1
abbrev fF(o:aR):Bool:=o.2.2.2.2.2.2.1
abbrev k9(o:aR):ByteArray:=o.2.2.2.2.2.2.2.1
abbrev oN(o:aR):Int:=o.2.2.2.2.2.2.2.2
def jh(o:aR)(w:ah):ah:=if fF o=false∧w.1=aH o then(if o.1=7 then(w.1,(w.2.1,(k9 o,w.2.2.2))) else(w.1,(w.2.1,(w.2.2.1,oN o)))) else w
def jZ(o:aR)(w:ai):ai:=if fF o=true∧w.1=aH o then(if o.1=7 then(w.1,(k9 o,w.2.2)) else(w.1,(w.2.1,oN o))) else w
def I2(o:aR)(l:List ah):Bool := !(fF o)&&l.any fun w=>decide (w.1=aH o)
def GA(o:aR)(l:List ai):Bool:=fF o&&l.any fun w=>decide (w.1=aH o)
def xI(s:StateT)(o:aR):StateT×(Int×Unit) :=if I2 o s.1.1 || GA o s.1.2 then(((s.1.1.map (jh o),s.1.2.map (jZ o)),s.2),(0,())) else(zS,(13,()))
theorem YN(s:StateT)(o:aR)(vs:List ah)(hs:Sm s.1):∀(n i:Nat) (fd:Bool) (out fin:List ai),i+n=s.1.2.length→out=(s.1.2.take i).map (jZ o)++s.1.2.drop i→fin=s.1.2.map (jZ o) → LX G 86 BI Tryz.f86 ru (aO Tryz.prog 86 1) ((fd,((i:Int),())),(((s,()),((o,()),((([]:List ah),(([]:List ai),(([]:List aB),()))),((vs,(out,())),())))),())) = some ((if(fd || GA o (s.1.2.drop i)) then((((vs,fin),s.2),((0:Int),())):StateT×(Int×Unit)) else(zS,(13,()))),()):=by
 have he:=hs.e;intro n
 induction n with
 |zero =>
  intro i fd out fin hi ho hf;refine ao RG ?_;have Xm:out.length=s.1.2.length:=by rw[ho];simp;omega
  have h1:¬((i:Int)<(out.length:Int)):=by omega
  have h2:out=fin:=by rw[ho,hf,List.take_of_length_le (by omega),List.drop_eq_nil_of_le (by omega),List.append_nil]
  have h3:GA o (s.1.2.drop i)=false:=by rw[List.drop_eq_nil_of_le (by omega)];simp[GA]
  subst h2;rw[h3];simp only[h1,decide_false]
  cases fd<;>rfl
 |succ n ih =>
  intro i fd out fin hi ho hf;refine ao RG ?_;have Xm:out.length=s.1.2.length:=by rw[ho];simp;omega
  have aF:i<s.1.2.length:=by omega
  have hx:s.1.2[i]? = some s.1.2[i]:=aaV aF;have hg:out[i]? = some s.1.2[i]:=by rw[ho];exact Gy _ _ _ _ hx
  have h2:s.1.2.drop i=s.1.2[i]::s.1.2.drop (i+1):=adK aF;have xJ:=aY (show i<out.length by omega);have hw:=aD aF (show s.1.2.length≤1073741824 by omega);rw[h2];generalize s.1.2[i]=y at *;have hE:GA o (y::s.1.2.drop (i+1))=((fF o&&decide (y.1=aH o)) || GA o (s.1.2.drop (i+1))):=by unfold GA;cases fF o<;>simp
  rw[hE];refine af xJ ?_
  cases SF:fF o
  ·have e1:jZ o y=y:=by unfold jZ;rw[if_neg (by simp[SF])]
   rw[Bool.false_and,Bool.false_or];refine ag SF ?_;rw[wI,hw];exact ih (i+1) fd out fin (by omega) (by rw[ho];exact rC _ _ _ _ hx e1) hf
  ·rw[Bool.true_and];refine af SF ?_;refine af (c9 (fj i) xJ) ?_;refine aa hg ?_;by_cases hq:y.1=aH o
   ·refine af ((gN y.1 (aH o)).trans (decide_eq_true hq)) ?_;rw[decide_eq_true hq,Bool.true_or,Bool.or_true,wI,hw];by_cases h7:o.1=7
    ·have e1:jZ o y=(y.1,(k9 o,y.2.2)):=by unfold jZ;rw[if_pos ⟨SF,hq⟩,if_pos h7]
     refine af (show(o.1==(7:Int))=true by simp[h7]) ?_;refine af (c9 (fj i) xJ) ?_;refine aa hg ?_;have:=ih (i+1) true (out.set i (y.1,(k9 o,y.2.2))) fin (by omega) (by rw[ho,←v7 _ _ _ _ hx,e1]) hf;rw[Bool.true_or]at this;exact this
    ·have e1:jZ o y=(y.1,(y.2.1,oN o)):=by unfold jZ;rw[if_pos ⟨SF,hq⟩,if_neg h7]
     refine ag (show(o.1==(7:Int))=false by simp[h7]) ?_;refine af (c9 (fj i) xJ) ?_;refine aa hg ?_;have:=ih (i+1) true (out.set i (y.1,(y.2.1,oN o))) fin (by omega) (by rw[ho,←v7 _ _ _ _ hx,e1]) hf;rw[Bool.true_or]at this;exact this
   ·have e1:jZ o y=y:=by unfold jZ;rw[if_neg (fun h=>hq h.2)]
    refine ag ((gN y.1 (aH o)).trans (decide_eq_false hq)) ?_;rw[decide_eq_false hq,Bool.false_or,wI,hw];exact ih (i+1) fd out fin (by omega) (by rw[ho];exact rC _ _ _ _ hx e1) hf
theorem YO(s:StateT)(o:aR)(hs:Sm s.1):∀(n i:Nat) (fd:Bool) (out fin:List ah),i+n=s.1.1.length→out=(s.1.1.take i).map (jh o)++s.1.1.drop i→fin=s.1.1.map (jh o) → LX G 86 BI Tryz.f86 rr (aO Tryz.prog 86 0) ((fd,((i:Int),())),(((s,()),((o,()),((([]:List ah),(([]:List ai),(([]:List aB),()))),((out,(s.1.2,())),())))),())) = some ((if((fd || I2 o (s.1.1.drop i)) || GA o s.1.2) then((((fin,s.1.2.map (jZ o)),s.2),((0:Int),())):StateT×(Int×Unit)) else(zS,(13,()))),()):=by
 have hv:=hs.v;intro n
 induction n with
 |zero =>
  intro i fd out fin hi ho hf;refine ao RF ?_;have Xm:out.length=s.1.1.length:=by rw[ho];simp;omega
  have h1:¬((i:Int)<(out.length:Int)):=by omega
  have h2:out=fin:=by rw[ho,hf,List.take_of_length_le (by omega),List.drop_eq_nil_of_le (by omega),List.append_nil]
  have h3:I2 o (s.1.1.drop i)=false:=by rw[List.drop_eq_nil_of_le (by omega)];simp[I2]
  subst h2;rw[h3,Bool.or_false];simp only[h1,decide_false];exact YN s o out hs s.1.2.length 0 fd s.1.2 (s.1.2.map (jZ o)) (by omega) (by simp) rfl
 |succ n ih =>
  intro i fd out fin hi ho hf;refine ao RF ?_;have Xm:out.length=s.1.1.length:=by rw[ho];simp;omega
  have aF:i<s.1.1.length:=by omega
  have hx:s.1.1[i]? = some s.1.1[i]:=aaV aF;have hg:out[i]? = some s.1.1[i]:=by rw[ho];exact Gy _ _ _ _ hx
  have h2:s.1.1.drop i=s.1.1[i]::s.1.1.drop (i+1):=adK aF;have xJ:=aY (show i<out.length by omega);have hw:=aD aF (show s.1.1.length≤1073741824 by omega);rw[h2];generalize s.1.1[i]=y at *;have hE:I2 o (y::s.1.1.drop (i+1))=((!(fF o)&&decide (y.1=aH o)) || I2 o (s.1.1.drop (i+1))):=by unfold I2;cases fF o<;>simp
  rw[hE];refine af xJ ?_
  cases SF:fF o
  ·rw[Bool.not_false,Bool.true_and];refine af (show(!(fF o))=true by rw[SF];rfl) ?_;refine af (c9 (fj i) xJ) ?_;refine aa hg ?_;by_cases hq:y.1=aH o
   ·refine af ((gN y.1 (aH o)).trans (decide_eq_true hq)) ?_;rw[decide_eq_true hq,Bool.true_or,Bool.or_true,Bool.true_or,wI,hw];by_cases h7:o.1=7
    ·have e1:jh o y=(y.1,(y.2.1,(k9 o,y.2.2.2))):=by unfold jh;rw[if_pos ⟨SF,hq⟩,if_pos h7]
     refine af (show(o.1==(7:Int))=true by simp[h7]) ?_;refine af (c9 (fj i) xJ) ?_;refine aa hg ?_;have:=ih (i+1) true (out.set i (y.1,(y.2.1,(k9 o,y.2.2.2)))) fin (by omega) (by rw[ho,←v7 _ _ _ _ hx,e1]) hf;rw[Bool.true_or,Bool.true_or]at this;exact this
    ·have e1:jh o y=(y.1,(y.2.1,(y.2.2.1,oN o))):=by unfold jh;rw[if_pos ⟨SF,hq⟩,if_neg h7]
     refine ag (show(o.1==(7:Int))=false by simp[h7]) ?_;refine af (c9 (fj i) xJ) ?_;refine aa hg ?_;have:=ih (i+1) true (out.set i (y.1,(y.2.1,(y.2.2.1,oN o)))) fin (by omega) (by rw[ho,←v7 _ _ _ _ hx,e1]) hf;rw[Bool.true_or,Bool.true_or]at this;exact this
   ·have e1:jh o y=y:=by unfold jh;rw[if_neg (fun h=>hq h.2)]
    refine ag ((gN y.1 (aH o)).trans (decide_eq_false hq)) ?_;rw[decide_eq_false hq,Bool.false_or,wI,hw];exact ih (i+1) fd out fin (by omega) (by rw[ho];exact rC _ _ _ _ hx e1) hf
  ·have e1:jh o y=y:=by unfold jh;rw[if_neg (by simp[SF])]
   rw[Bool.not_true,Bool.false_and,Bool.false_or];refine ag (show(!(fF o))=false by rw[SF];rfl) ?_;rw[wI,hw];exact ih (i+1) fd out fin (by omega) (by rw[ho];exact rC _ _ _ _ hx e1) hf
theorem ah5(hG:HG G)(s:StateT)(o:aR)(hs:Sm s.1):FX G 86 BI ((s,o,()),())=some (xI s o,()):=by have hv:=hs.v;have he:=hs.e;refine az (hG _ _ rfl) agF ?_;refine aa (acM (hG _ _ rfl) s.1 (by omega) (by omega) (fun w hw=>by have:=hs.r w hw;omega)) ?_;have:=YO (G:=G) s o hs s.1.1.length 0 false s.1.1 (s.1.1.map (jh o)) (by omega) (by simp) rfl;rw[Bool.false_or]at this;exact this
structure Bd(n:Nat)(d:aj):Prop where
 v:d.1.length≤n
 e:d.2.length≤n
 r:∀w∈d.1,w.2.1.length≤n
theorem Bd.sm{n:Nat}{d:aj}(h:Bd n d)(hn:n≤50000000):Sm d:=⟨by have:=h.v;omega,by have:=h.e;omega,fun w hw=>by have:=h.r w hw;omega⟩
theorem Bd.mono{n m:Nat}{d:aj}(h:Bd n d)(hm:n≤m):Bd m d:=⟨by have:=h.v;omega,by have:=h.e;omega,fun w hw=>by have:=h.r w hw;omega⟩
theorem gE(v:ah):∀l:List ah,(eO v l).length=l.length+1
 |[]=>rfl
 |w::r=>by unfold eO;split<;>simp[gE v r]
theorem kK(v:ai):∀l:List ai,(dC v l).length=l.length+1
 |[]=>rfl
 |w::r=>by unfold dC;split<;>simp[kK v r]
theorem mz{v w:ah}:∀{l:List ah},w∈eO v l↔w=v∨w∈l
 |[]=>by simp[eO]
 |u::r=>by
  unfold eO
  split
  ·simp
  ·simp only[List.mem_cons,mz (l:=r)];exact⟨fun h=>by rcases h with h|h|h<;>simp[h],fun h=>by rcases h with h|h|h<;>simp[h]⟩
theorem oO{v w:ai}:∀{l:List ai},w∈dC v l↔w=v∨w∈l
 |[]=>by simp[dC]
 |u::r=>by
  unfold dC
  split
  ·simp
  ·simp only[List.mem_cons,oO (l:=r)];exact⟨fun h=>by rcases h with h|h|h<;>simp[h],fun h=>by rcases h with h|h|h<;>simp[h]⟩
theorem zj(row:List ae)(a d:ae):(mw row a d).length≤row.length+1:=by
 unfold mw
 split
 ·rw[gy];omega
 ·rw[gy];simp;omega
theorem rG(row:List ae)(d:ae):(cy row d).length≤row.length:=by unfold cy;rw[gy];exact adL _ _
theorem GB(row:List ae)(a d:ae):(jJ row a d).length=row.length:=by unfold jJ;rw[gy];split<;>simp
theorem Bd.aW{n:Nat}{d:aj}(h:Bd n d)(x:ID):(aW d x).length≤n:=by
 unfold Vs.aW
 cases hf:aQ d x with
 |none=>simp[zV]
 |some v=>exact h.r v (ado hf)
theorem Bd.cp{n:Nat}{d:aj}(h:Bd n d){x:ID}{l:List ae}(hl:l.length≤n):Bd n (cp d x l):=by
 refine⟨by simp[Vs.cp];exact h.v,h.e,fun w hw=>?_⟩;obtain⟨u,hu,rfl⟩:=adD.1 hw;unfold sH
 split
 ·exact hl
 ·exact h.r u hu
theorem Bd.bV{n:Nat}{d:aj}(h:Bd n d)(c:ni)(x:ae):Bd (n+1) (bV d c x) :=(h.mono (by omega)).cp (by have:=zj (Vs.aW d c.1) c.2 x;have:=h.aW c.1;omega)
theorem Bd.aK{n:Nat}{d:aj}(h:Bd n d)(a x:ae):Bd n (aK d a x) :=h.cp (by rw[GB];exact h.aW _)
theorem Bd.aJ{n:Nat}{d:aj}(h:Bd n d)(x:ae):Bd n (aJ d x) :=h.cp (by have:=rG (Vs.aW d ((bP d x).getD zI)) x;have:=h.aW ((bP d x).getD zI);omega)
theorem Bd.bj{n:Nat}{d:aj}(h:Bd n d)(v e:ID):Bd n (bj d v e) :=⟨adC (adL _ _) h.v,adC (adL _ _) h.e,fun w hw=>h.r w (aeL.1 hw).1⟩
theorem Bd.eO{n:Nat}{d:aj}(h:Bd n d)(v:ah)(hv:v.2.1.length≤n+1):Bd (n+1) (eO v d.1,d.2) :=⟨by rw[gE];have:=h.v;omega,by have:=h.e;simp only;omega,fun w hw=>by
  rcases mz.1 hw with rfl|hw
  ·exact hv
  ·have:=h.r w hw;omega⟩
theorem Bd.dC{n:Nat}{d:aj}(h:Bd n d)(v:ai):Bd (n+1) (d.1,dC v d.2) :=⟨by have:=h.v;simp only;omega,by rw[kK];have:=h.e;omega,fun w hw=>by have:=h.r w hw;omega⟩
theorem zk(g:aB):∀l:List aB,(lq g l).length≤l.length+1
 |[]=>by simp[lq]
 |e::r=>by
  unfold lq
  split
  ·have:=adL (fun q:aB=>decide (q.1≠g.1)) (e::r);simp[nQ];simp at this;omega
  ·have:=zk g r
   split<;>simp<;>omega
theorem fg(l:List aB)(g:aB):(bQ l g).length≤l.length+1:=by
 unfold bQ;split
 ·omega
 ·exact zk g l
def gF(s:StateT)(o:aR):aj :=bV (bV (s.1.1,dC (aH o,(e0,0)) s.1.2) (bq s (oA o)).1 (aH o,0)) (if(aQ s.1 (oB o).1).isSome=true∧(oB o).2=(aH o,0) then oB o else(bq s (oB o)).1) (aH o,1)
def oP(s:StateT)(o:aR):StateT×(Int×Unit) :=if(bZ s.1 (aH o)).isSome=true then(zS,(12,()))
 else if 40≤s.1.2.length then(zS,(3,()))
 else if(bq s (oA o)).2.1≠0 then(zS,(13,()))
 else if(bq s (oB o)).2.1≠0 then(zS,(13,()))
 else if fX (gF s o)≠0 then(zS,(15,()))
 else((gF s o,s.2),(0,()))
theorem ah6(hG:HG G){n:Nat}(s:StateT)(o:aR)(hs:Bd n s.1)(hn:n≤4000000)(hg:s.2.length≤50000000):FX G 82 Rb ((s,o,()),())=some (oP s o,()):=by
  have hv:=hs.v;have he:=hs.e;have VC:=hs.sm (by omega);refine az (hG _ _ rfl) agB ?_;refine aa (Gv (hG _ _ rfl) s.1 (aH o) (by omega)) ?_;rw[show(fR zE (bZ s.1 (aH o))).2.1=(bZ s.1 (aH o)).isSome from gO _ _];unfold oP
  cases h1:(bZ s.1 (aH o)).isSome
  case true=>rw[if_pos rfl];rfl
  rw[if_neg (by simp)];by_cases h2:40≤s.1.2.length
  · have d:decide (((s.1.2.length:Nat):Int)≥40)=true:=decide_eq_true (by omega)
    rw[if_pos h2];simp only[d];rfl
  have d2:decide (((s.1.2.length:Nat):Int)≥40)=false:=decide_eq_false (by omega);rw[if_neg h2];simp only[d2];refine aa (acW hG s (oA o) VC hg) ?_;refine aa (acW hG s (oB o) VC hg) ?_;refine aa (v5 (hG _ _ rfl) s.1 (oB o).1 (by omega)) ?_;rw[show(fR zV (aQ s.1 (oB o).1)).2.1=(aQ s.1 (oB o).1).isSome from gO _ _];have b1:=hs.dC (aH o,(e0,0));have b2:=b1.bV (bq s (oA o)).1 (aH o,0);have fin:∀(bc:ni),gF s o=bV (bV (s.1.1,dC (aH o,(e0,0)) s.1.2) (bq s (oA o)).1 (aH o,0)) bc (aH o,1) →(cond ((bq s (oA o)).2.1 != 0) (some (((([],[]),[]),((13:Int),())),())) (cond ((bq s (oB o)).2.1 != 0) (some (((([],[]),[]),((13:Int),())),())) ((FX G 115 zG ((s.1,((aH o,(e0,(0:Int))),())),())).bind fun(y5:((aj×Unit)×Unit)) =>(FX G 116 zH ((y5.1.1,((bq s (oA o)).1,((aH o,(0:Int)),()))),())).bind fun(y6:((aj×Unit)×Unit)) =>(FX G 116 zH ((y6.1.1,(bc,((aH o,(1:Int)),()))),())).bind fun(y7:((aj×Unit)×Unit)) =>(FX G 107 F5 ((y7.1.1,()),())).bind fun(y8:((Int×Unit)×Unit)) =>cond (y8.1.1 != (0:Int)) (some (((([],[]),[]),((15:Int),())),())) (some (((y7.1.1,s.2),((0:Int),())),())))):Option ((StateT×(Int×Unit))×Unit)) = some ((if(bq s (oA o)).2.1≠0 then(zS,(13,())) else if(bq s (oB o)).2.1≠0 then(zS,(13,())) else if fX (gF s o)≠0 then(zS,(15,())) else((gF s o,s.2),(0,())):StateT×(Int×Unit)),()):=by
    intro bc hbc;by_cases h3:(bq s (oA o)).2.1=0
    case neg =>
      have d:((bq s (oA o)).2.1 != 0)=true:=by simp[h3]
      rw[if_pos h3,d];rfl
    rw[if_neg (by simp[h3]),show((bq s (oA o)).2.1 != 0)=false by simp[h3]];by_cases h4:(bq s (oB o)).2.1=0
    case neg =>
      have d:((bq s (oB o)).2.1 != 0)=true:=by simp[h4]
      rw[if_pos h4,d];rfl
    rw[if_neg (by simp[h4]),show((bq s (oB o)).2.1 != 0)=false by simp[h4]];simp only[cond_false];have b3:=b2.bV bc (aH o,1);rw[←hbc]at b3;refine aa (acO hG s.1 (aH o,(e0,0)) (by omega)) ?_;refine aa (acQ hG _ _ _ (b1.sm (by omega))) ?_;refine aa ((acQ hG (bV (s.1.1,dC (aH o,(e0,0)) s.1.2) (bq s (oA o)).1 (aH o,0)) bc (aH o,1) (b2.sm (by omega))).trans (congrArg (fun z:aj=>some ((z,()),())) hbc.symm)) ?_;refine aa (YK hG (gF s o) (b3.sm (by omega)) (by have:=b3.e;omega)) ?_;by_cases h5:fX (gF s o)=0
    · rw[if_neg (by simp[h5])]
      have d:(fX (gF s o) != 0)=false:=by simp[h5]
      simp only[d];rfl
    · rw[if_pos h5]
      have d:(fX (gF s o) != 0)=true:=by simp[h5]
      simp only[d];rfl
  have hb:((((oB o).2.1.1==o.2.1.1)&&((oB o).2.1.2==o.2.1.2))&&((oB o).2.2==(0:Int)))=decide ((oB o).2=(aH o,0)):=jF (oB o).2 (aH o,0);simp only[hb]
  cases h6:(aQ s.1 (oB o).1).isSome
  · exact fin (bq s (oB o)).1 (by unfold gF;rw[if_neg (by simp[h6])])
  · by_cases h7:(oB o).2=(aH o,0)
    · have d:=decide_eq_true h7
      simp only[d];exact fin (oB o) (by unfold gF;rw[if_pos ⟨h6,h7⟩])
    · have d:=decide_eq_false h7
      simp only[d];exact fin (bq s (oB o)).1 (by unfold gF;rw[if_neg (by simp[h7])])
def DX(s:StateT)(o:aR):StateT×(Int×Unit) :=if(bZ s.1 (aH o)).isSome=false then(zS,(13,()))
 else((bj (aJ (aJ s.1 (aH o,0)) (aH o,1)) zI (aH o),bQ (bQ s.2 ((aH o,0),du s.1 (aH o,0))) ((aH o,1),du s.1 (aH o,1))),(0,()))
theorem ah7(hG:HG G){n:Nat}(s:StateT)(o:aR)(hs:Bd n s.1)(hn:n≤4000000)(hg:s.2.length≤5000000):FX G 83 Rc ((s,o,()),())=some (DX s o,()):=by
 have hv:=hs.v;have he:=hs.e;have VC:=hs.sm (by omega);refine az (hG _ _ rfl) agC ?_;refine aa (Gv (hG _ _ rfl) s.1 (aH o) (by omega)) ?_;rw[show(fR zE (bZ s.1 (aH o))).2.1=(bZ s.1 (aH o)).isSome from gO _ _];unfold DX
 cases h1:(bZ s.1 (aH o)).isSome
 case false=>rw[if_pos rfl];rfl
 rw[if_neg (by simp)];have b1:=hs.aJ (aH o,0);have b2:=b1.aJ (aH o,1);have l1:=fg s.2 ((aH o,0),du s.1 (aH o,0));refine aa (acT hG s.1 (aH o,0) VC) ?_;refine aa (VA hG s.2 ((aH o,0),du s.1 (aH o,0)) (by omega)) ?_;refine aa (acT hG s.1 (aH o,1) VC) ?_;refine aa (VA hG (bQ s.2 ((aH o,0),du s.1 (aH o,0))) ((aH o,1),du s.1 (aH o,1)) (by omega)) ?_;refine aa (acS hG s.1 (aH o,0) VC) ?_;refine aa (acS hG (aJ s.1 (aH o,0)) (aH o,1) (b1.sm (by omega))) ?_;exact aa (Vz (hG _ _ rfl) (aJ (aJ s.1 (aH o,0)) (aH o,1)) zI (aH o) (by have:=b2.v;omega) (by have:=b2.e;omega)) rfl
def J8(o:aR):ae:=(aH o,IntKind.wrap .i64 (1-Int.tmod (oN o) 2))
def G6(o:aR):ae:=(an o,IntKind.wrap .i64 (Int.tdiv (oN o) 2))
def SH(s:StateT)(o:aR):aj :=(eO (dR o,(cx [J8 o,G6 o],(e0,0))) (aK s.1 (J8 o) (au (G6 o))).1,dC (an o,(e0,0)) (aK s.1 (J8 o) (au (G6 o))).2)
def mA(s:StateT)(o:aR):StateT×(Int×Unit) :=if(bZ s.1 (aH o)).isSome=false then(zS,(13,()))
 else if(aQ s.1 (dR o)).isSome=true then(zS,(12,()))
 else if(bZ s.1 (an o)).isSome=true then(zS,(12,()))
 else if 24≤s.1.1.length then(zS,(3,()))
 else if 40≤s.1.2.length then(zS,(3,()))
 else((SH s o,s.2),(0,()))
theorem ah8(hG:HG G){n:Nat}(s:StateT)(o:aR)(hs:Bd n s.1)(hn:n≤4000000):FX G 84 Rd ((s,o,()),())=some (mA s o,()):=by
 have hv:=hs.v;have he:=hs.e;have VC:=hs.sm (by omega);refine az (hG _ _ rfl) agD ?_;refine aa (Gv (hG _ _ rfl) s.1 (aH o) (by omega)) ?_;rw[show(fR zE (bZ s.1 (aH o))).2.1=(bZ s.1 (aH o)).isSome from gO _ _];unfold mA
 cases h1:(bZ s.1 (aH o)).isSome
 case false=>rw[if_pos rfl];rfl
 rw[if_neg (by simp)];refine aa (v5 (hG _ _ rfl) s.1 (dR o) (by omega)) ?_;rw[show(fR zV (aQ s.1 (dR o))).2.1=(aQ s.1 (dR o)).isSome from gO _ _];refine aa (Gv (hG _ _ rfl) s.1 (an o) (by omega)) ?_;rw[show(fR zE (bZ s.1 (an o))).2.1=(bZ s.1 (an o)).isSome from gO _ _]
 cases h2:(aQ s.1 (dR o)).isSome
 case true=>rw[if_pos rfl];rfl
 rw[if_neg (by simp)]
 cases h3:(bZ s.1 (an o)).isSome
 case true=>rw[if_pos rfl];rfl
 rw[if_neg (by simp)];by_cases h4:24≤s.1.1.length
 ·have d:decide (((s.1.1.length:Nat):Int)≥24)=true:=decide_eq_true (by omega);rw[if_pos h4];simp only[d];rfl
 have d4:decide (((s.1.1.length:Nat):Int)≥24)=false:=decide_eq_false (by omega);rw[if_neg h4];by_cases h5:40≤s.1.2.length
 ·have d:decide (((s.1.2.length:Nat):Int)≥40)=true:=decide_eq_true (by omega);rw[if_pos h5];simp only[d4,d];rfl
 have d5:decide (((s.1.2.length:Nat):Int)≥40)=false:=decide_eq_false (by omega);rw[if_neg h5];simp only[d4,d5];have d6:((2:Int)==0)=false:=rfl;simp only[d6];have b1:=hs.aK (J8 o) (au (G6 o));have b2:=b1.dC (an o,(e0,0));refine aa (YE (hG _ _ rfl) (G6 o)) ?_;refine aa (acR hG s.1 (J8 o) (au (G6 o)) VC) ?_;refine aa (acO hG (aK s.1 (J8 o) (au (G6 o))) (an o,(e0,0)) (by have:=b1.e;omega)) ?_;refine aa (Gs hG [J8 o,G6 o] (by simp)) ?_;exact aa (acN hG ((aK s.1 (J8 o) (au (G6 o))).1,dC (an o,(e0,0)) (aK s.1 (J8 o) (au (G6 o))).2) (dR o,(cx [J8 o,G6 o],(e0,0))) (adC b1.v (by omega))) rfl
def qD(a b:ae)(i:Int):ae:=if(b.1,i)=au b then a else zD
def I3(g:List aB)(a b:ae):List aB:=bQ (bQ g ((b.1,0),qD a b 0)) ((b.1,1),qD a b 1)
def Lc(s:StateT)(o:aR)(a b:ae):aj:=bj (aK (bj s.1 (aH o) zI) (au b) a) zI b.1
theorem ah9(hG:HG G)(g:List aB)(a b:ae)(d:aj)(hg:g.length≤5000000) :
  LX G 85 zF Tryz.f85 ml (aO Tryz.prog 85 0) ((g,((0:Int),())),(((([]:List ah),(([]:List ai),(([]:List aB),()))),((a,()),((b,()),((au b,()),((d,()),()))))),()))=some (((d,I3 g a b),((0:Int),())),()):=by
 have l2:∀g2:List aB,LX G 85 zF Tryz.f85 ml (aO Tryz.prog 85 0) ((g2,((2:Int),())),(((([]:List ah),(([]:List ai),(([]:List aB),()))),((a,()),((b,()),((au b,()),((d,()),()))))),()))=some (((d,g2),((0:Int),())),()):=fun g2 =>ao RE (ag rfl rfl);have step:∀(i:Int) (g1:List aB) (r:(StateT×(Int×Unit))×Unit),i<2→g1.length≤5000001→LX G 85 zF Tryz.f85 ml (aO Tryz.prog 85 0) ((bQ g1 ((b.1,i),qD a b i),(IntKind.wrap .i64 (i+1),())),(((([]:List ah),(([]:List ai),(([]:List aB),()))),((a,()),((b,()),((au b,()),((d,()),()))))),()))=some r → LX G 85 zF Tryz.f85 ml (aO Tryz.prog 85 0) ((g1,(i,())),(((([]:List ah),(([]:List ai),(([]:List aB),()))),((a,()),((b,()),((au b,()),((d,()),()))))),()))=some r:=fun i g1 r hi hg1 h=>by
  refine ao RE ?_;refine af (decide_eq_true hi) ?_;unfold qD at h;by_cases he:((b.1,i):ae)=au b
  ·rw[if_pos he]at h;refine af ((jF (b.1,i) (au b)).trans (decide_eq_true he)) ?_;refine aa (VA hG g1 ((b.1,i),a) (by omega)) ?_;exact h
  ·rw[if_neg he]at h;refine ag ((jF (b.1,i) (au b)).trans (decide_eq_false he)) ?_;refine aa (VA hG g1 ((b.1,i),zD) (by omega)) ?_;exact h
 have a1:=fg g ((b.1,0),qD a b 0);refine step 0 g _ (by omega) (by omega) ?_;refine step 1 _ _ (by omega) (by omega) ?_;exact l2 _
def jA(s:StateT)(o:aR)(r0 r1:ae):StateT×(Int×Unit) :=if r0.1=r1.1 then(zS,(14,()))
 else if r0.1=an o then((Lc s o r1 r0,I3 s.2 r1 r0),(0,()))
 else if r1.1=an o then((Lc s o r0 r1,I3 s.2 r0 r1),(0,()))
 else(zS,(14,()))
def ki(s:StateT)(o:aR):StateT×(Int×Unit):=match aQ s.1 (aH o) with
 |none=>(zS,(13,()))
 |some v=>match v.2.1 with
  |[r0,r1]=>jA s o r0 r1
  |_=>(zS,(14,()))
theorem aia(hG:HG G){n:Nat}(s:StateT)(o:aR)(hs:Bd n s.1)(hn:n≤4000000)(hg:s.2.length≤5000000):FX G 85 zF ((s,o,()),())=some (ki s o,()):=by
  have hv:=hs.v;have he:=hs.e;have VC:=hs.sm (by omega);refine az (hG _ _ rfl) agE ?_;refine aa (v5 (hG _ _ rfl) s.1 (aH o) (by omega)) ?_;unfold ki
  cases hf:aQ s.1 (aH o) with
  |none=>rfl
  |some v =>
    refine ag (show(!true)=false from rfl) ?_;have two:∀(a b:ae) (r:Option ((StateT×(Int×Unit))×Unit)),r=some (((Lc s o a b,I3 s.2 a b),((0:Int),())),()) →((FX G 121 DO ((b,()),())).bind fun(y8:((ae×Unit)×Unit)) =>(FX G 81 pT ((s.1,(aH o,(zI,()))),())).bind fun(y9:((aj×Unit)×Unit)) =>(FX G 120 Ih ((y9.1.1,(y8.1.1,(a,()))),())).bind fun(mN:((aj×Unit)×Unit)) =>(FX G 81 pT ((mN.1.1,(zI,(b.1,()))),())).bind fun(kW:((aj×Unit)×Unit)) =>LX G 85 zF Tryz.f85 ml (aO Tryz.prog 85 0) ((s.2,((0:Int),())),(((([]:List ah),(([]:List ai),(([]:List aB),()))),((a,()),((b,()),((y8.1.1,()),((kW.1.1,()),()))))),())))=r:=fun a b r hr=>by subst hr;have b1:=hs.bj (aH o) zI;have b2:=b1.aK (au b) a;refine aa (YE (hG _ _ rfl) b) ?_;refine aa (Vz (hG _ _ rfl) s.1 (aH o) zI (by omega) (by omega)) ?_;refine aa (acR hG (bj s.1 (aH o) zI) (au b) a (b1.sm (by omega))) ?_;refine aa (Vz (hG _ _ rfl) (aK (bj s.1 (aH o) zI) (au b) a) zI b.1 (by have:=b2.v;omega) (by have:=b2.e;omega)) ?_;exact ah9 hG s.2 a b (Lc s o a b) hg
    obtain⟨vi,ring,vr⟩:=v;by_cases hl:ring.length=2
    case neg =>
      refine af (show((((ring.length:Nat):Int)) != 2)=true by simp;omega) ?_
      match ring,hl with
      |[],_=>rfl
      |[_],_=>rfl
      |[_,_],h=>exact absurd rfl h
      |_::_::_::_,_=>rfl
    match ring,hl with
    |[r0,r1],_ =>
      refine ag (show((((2:Nat):Int)) != 2)=false from rfl) ?_;refine aa (show aT [r0,r1] 0=some r0 from rfl) ?_;refine aa (show aT [r0,r1] 1=some r1 from rfl) ?_;show _=some (jA s o r0 r1,());unfold jA;by_cases h1:r0.1=r1.1
      · rw[if_pos h1]
        exact af ((gN r0.1 r1.1).trans (decide_eq_true h1)) rfl
      rw[if_neg h1];refine ag ((gN r0.1 r1.1).trans (decide_eq_false h1)) ?_;refine aa (show aT [r0,r1] 0=some r0 from rfl) ?_;refine aa (show aT [r0,r1] 1=some r1 from rfl) ?_;by_cases h2:r0.1=an o
      · rw[if_pos h2]
        refine af ((gN r0.1 (an o)).trans (decide_eq_true h2)) ?_;refine aa (show aT [r0,r1] 1=some r1 from rfl) ?_;refine aa (show aT [r0,r1] 0=some r0 from rfl) ?_;refine ag (by rw[show((r0.1.1==(an o).1)&&(r0.1.2==(an o).2))=true from(gN r0.1 (an o)).trans (decide_eq_true h2)];rfl) ?_;exact two r1 r0 _ rfl
      rw[if_neg h2];refine ag ((gN r0.1 (an o)).trans (decide_eq_false h2)) ?_;by_cases h3:r1.1=an o
      · rw[if_pos h3]
        refine ag (by rw[show((r1.1.1==(an o).1)&&(r1.1.2==(an o).2))=true from(gN r1.1 (an o)).trans (decide_eq_true h3)];rfl) ?_;exact two r0 r1 _ rfl
      · rw[if_neg h3]
        exact af (by rw[show((r1.1.1==(an o).1)&&(r1.1.2==(an o).2))=false from(gN r1.1 (an o)).trans (decide_eq_false h3)];rfl) rfl
def qw(s:StateT)(o:aR):StateT×(Int×Unit) :=if(aQ s.1 (aH o)).isSome=true then(zS,(12,())) else if 24≤s.1.1.length then(zS,(3,())) else(((eO (aH o,([],(e0,0))) s.1.1,s.1.2),s.2),(0,()))
def zm(s:StateT)(o:aR):StateT×(Int×Unit):=match aQ s.1 (aH o) with
 |none=>(zS,(13,()))
 |some v=>if 0<v.2.1.length then(zS,(14,())) else((bj s.1 (aH o) zI,s.2),(0,()))
def c8(s:StateT)(o:aR):StateT×(Int×Unit) :=if bB o≠0 then(zS,(bB o,()))
 else if o.1=1 then qw s o else if o.1=2 then zm s o else if o.1=3 then oP s o else if o.1=4 then DX s o else if o.1=5 then mA s o else if o.1=6 then ki s o else xI s o
theorem VD(hG:HG G){n:Nat}(s:StateT)(o:aR)(hs:Bd n s.1)(hn:n≤4000000)(hg:s.2.length≤5000000)(ht:uB o):FX G 45 H7 ((s,o,()),())=some (c8 s o,()):=by
 have hv:=hs.v;have he:=hs.e;refine az (hG _ _ rfl) agc ?_;refine aa (ac0 hG o ht) ?_;unfold c8;by_cases h0:bB o=0
 case neg =>
  rw[if_pos h0];exact af (show(bB o != 0)=true by simp[h0]) rfl
 rw[if_neg (by simp[h0])];refine ag (show(bB o != 0)=false by simp[h0]) ?_;refine aa (v5 (hG _ _ rfl) s.1 (aH o) (by omega)) ?_;by_cases h1:o.1=1
 ·rw[if_pos h1];refine af (show(o.1==(1:Int))=true by simp[h1]) ?_;rw[show(fR zV (aQ s.1 (aH o))).2.1=(aQ s.1 (aH o)).isSome from gO _ _];unfold qw
  cases hf:(aQ s.1 (aH o)).isSome
  ·rw[if_neg (by simp)];refine ag rfl ?_;by_cases h4:24≤s.1.1.length
   ·rw[if_pos h4];exact af (decide_eq_true (show((s.1.1.length:Nat):Int)≥24 by omega)) rfl
   ·rw[if_neg h4];refine ag (decide_eq_false (show ¬((s.1.1.length:Nat):Int)≥24 by omega)) ?_;exact aa (acN hG s.1 (aH o,([],(e0,0))) (by omega)) rfl
  ·rw[if_pos rfl];rfl
 rw[if_neg h1];refine ag (show(o.1==(1:Int))=false by simp[h1]) ?_;by_cases h2:o.1=2
 ·rw[if_pos h2];refine af (show(o.1==(2:Int))=true by simp[h2]) ?_;unfold zm
  cases hf:aQ s.1 (aH o) with
  |none=>rfl
  |some v =>
   refine ag (show(!true)=false from rfl) ?_;by_cases h4:0<v.2.1.length
   ·show _=some ((if 0<v.2.1.length then(zS,(14,())) else((bj s.1 (aH o) zI,s.2),(0,())):StateT×(Int×Unit)),());rw[if_pos h4];exact af (decide_eq_true (show((v.2.1.length:Nat):Int)>0 by omega)) rfl
   ·show _=some ((if 0<v.2.1.length then(zS,(14,())) else((bj s.1 (aH o) zI,s.2),(0,())):StateT×(Int×Unit)),());rw[if_neg h4];refine ag (decide_eq_false (show ¬((v.2.1.length:Nat):Int)>0 by omega)) ?_;exact aa (Vz (hG _ _ rfl) s.1 (aH o) zI (by omega) (by omega)) rfl
 rw[if_neg h2];refine ag (show(o.1==(2:Int))=false by simp[h2]) ?_;by_cases h3:o.1=3
 ·rw[if_pos h3];refine af (show(o.1==(3:Int))=true by simp[h3]) ?_;exact aa (ah6 hG s o hs hn (by omega)) rfl
 rw[if_neg h3];refine ag (show(o.1==(3:Int))=false by simp[h3]) ?_;by_cases h4:o.1=4
 ·rw[if_pos h4];refine af (show(o.1==(4:Int))=true by simp[h4]) ?_;exact aa (ah7 hG s o hs hn hg) rfl
 rw[if_neg h4];refine ag (show(o.1==(4:Int))=false by simp[h4]) ?_;by_cases h5:o.1=5
 ·rw[if_pos h5];refine af (show(o.1==(5:Int))=true by simp[h5]) ?_;exact aa (ah8 hG s o hs hn) rfl
 rw[if_neg h5];refine ag (show(o.1==(5:Int))=false by simp[h5]) ?_;by_cases h6:o.1=6
 ·rw[if_pos h6];refine af (show(o.1==(6:Int))=true by simp[h6]) ?_;exact aa (aia hG s o hs hn hg) rfl
 rw[if_neg h6];refine ag (show(o.1==(6:Int))=false by simp[h6]) ?_;exact aa (ah5 hG s o (hs.sm (by omega))) rfl
structure Bs(n:Nat)(s:StateT):Prop where
 d:Bd n s.1
 g:s.2.length≤n
theorem Bs.mono{n m:Nat}{s:StateT}(h:Bs n s)(hm:n≤m):Bs m s:=⟨h.d.mono hm,by have:=h.g;omega⟩
theorem Bs.zero(n:Nat):Bs n zS:=⟨⟨aeH _,aeH _,fun w hw=>by simp[zS]at hw⟩,aeH _⟩
theorem Bs.one{n:Nat}{s:StateT}(h:Bs n s)(o:aR):Bs (n+3) (c8 s o).1:=by
 have h1:=h.d;have h2:=h.g;unfold c8
 split
 ·exact Bs.zero _
 split
 ·unfold qw;split
  ·exact Bs.zero _
  split
  ·exact Bs.zero _
  ·exact⟨(h1.eO _ (by simp)).mono (by omega),by simp only;omega⟩
 split
 ·unfold zm
  cases aQ s.1 (aH o) with
  |none=>exact Bs.zero _
  |some v =>
   simp only
   split
   ·exact Bs.zero _
   ·exact⟨(h1.bj _ _).mono (by omega),by simp only;omega⟩
 split
 ·unfold oP
  split;· exact Bs.zero _
  split;· exact Bs.zero _
  split;· exact Bs.zero _
  split;· exact Bs.zero _
  split;· exact Bs.zero _
  exact⟨by unfold gF;exact((h1.dC _).bV _ _).bV _ _,by simp only;omega⟩
 split
 ·unfold DX
  split;· exact Bs.zero _
  refine⟨(((h1.aJ _).aJ _).bj _ _).mono (by omega),?_⟩;have a1:=fg s.2 ((aH o,0),du s.1 (aH o,0));have a2:=fg (bQ s.2 ((aH o,0),du s.1 (aH o,0))) ((aH o,1),du s.1 (aH o,1));simp only;omega
 split
 ·unfold mA
  split;· exact Bs.zero _
  split;· exact Bs.zero _
  split;· exact Bs.zero _
  split;· exact Bs.zero _
  split;· exact Bs.zero _
  refine⟨?_,by simp only;omega⟩;have b2:=((h1.aK (J8 o) (au (G6 o))).dC (an o,(e0,0)));exact(b2.eO (dR o,(cx [J8 o,G6 o],(e0,0))) (by simp[gy])).mono (by omega)
 split
 ·unfold ki;have key:∀a b:ae,Bs (n+3) (Lc s o a b,I3 s.2 a b):=fun a b=>by refine⟨(((h1.bj _ _).aK _ _).bj _ _).mono (by omega),?_⟩;have a1:=fg s.2 ((b.1,0),qD a b 0);have a2:=fg (bQ s.2 ((b.1,0),qD a b 0)) ((b.1,1),qD a b 1);simp only[I3];omega
  split
  ·exact Bs.zero _
  ·split
   ·unfold jA
    split;· exact Bs.zero _
    split;· exact key _ _
    split;· exact key _ _
    exact Bs.zero _
   ·exact Bs.zero _
 ·unfold xI
  split
  ·refine⟨⟨by simp;have:=h1.v;omega,by simp;have:=h1.e;omega,fun w hw=>?_⟩,by simp only;omega⟩;obtain⟨u,hu,rfl⟩:=adD.1 hw;have hr:=h1.r u hu;have e:(jh o u).2.1=u.2.1:=by unfold jh;split<;>(try split)<;>rfl
   rw[e];omega
  ·exact Bs.zero _
def qb:List aR→StateT→StateT×(Int×Unit)
 |[],s=>(s,(0,()))
 |o::r,s=>if(c8 s o).2.1≠0 then(zS,(c8 s o).2) else qb r (c8 s o).1
def c7(s:StateT)(l:List aR):StateT×(Int×Unit):=if eF l≠0 then(zS,(eF l,())) else qb l s
theorem Bs.go{l:List aR}:∀{n:Nat} {s:StateT},Bs n s→Bs (n+3*l.length) (qb l s).1:=by
 induction l with
 |nil=>intro n s h;exact h.mono (by simp)
 |cons o r ih =>
  intro n s h;unfold qb
  split
  ·exact Bs.zero _
  ·exact(ih (h.one o)).mono (by simp;omega)
theorem aib(hG:HG G){n:Nat}(s:StateT)(l:List aR)(hs:Bs n s)(hn:n+3*l.length≤3000000)(ht:∀o∈l,uB o):FX G 49 Ib ((s,l,()),())=some (c7 s l,()):=by
 refine az (hG _ _ rfl) agt ?_;refine aa (ah4 hG l ht) ?_;unfold c7;by_cases h0:eF l=0
 case neg =>
  rw[if_pos h0];exact af (show(eF l != 0)=true by simp[h0]) rfl
 rw[if_neg (by simp[h0])];refine ag (show(eF l != 0)=false by simp[h0]) ?_;have key:=bU l (fun i (s:StateT)=>LX G 49 Ib Tryz.f49 Ca (aO Tryz.prog 49 0) ((i,()),(((s,()),((l,()),((([]:List ah),(([]:List ai),(([]:List aB),()))),()))),()))) (fun(r:List aR) (s:StateT)=>(qb r s,())) (fun m s=>∃k,Bs k s∧k+3*m≤3000000) (fun s _=>by exact ao Ry (ag (dn _) rfl)) (fun i o r s hi hx zO hk ih=>by
   obtain⟨k,hb,hk⟩:=hk;refine ao Ry ?_;refine af (aY hi) ?_;refine aa (aA hx) ?_;have hbd:=hb.d;have hbg:=hb.g;refine aa (VD hG s o hbd (by omega) (by omega) (ht o (ac7 hx))) ?_;rw[qb];by_cases h1:(c8 s o).2.1=0
   ·rw[if_neg (by simp[h1])];refine ag (show((c8 s o).2.1 != 0)=false by simp[h1]) ?_;rw[wI,aD hi (show l.length≤1073741824 by omega)];exact ih (c8 s o).1 ⟨k+3,hb.one o,by omega⟩
   ·rw[if_pos h1];exact af (show((c8 s o).2.1 != 0)=true by simp[h1]) rfl)
  s ⟨n,hs,hn⟩
 exact key
def mQ(s:StateT)(l:List aR):StateT:=if(c7 s l).2.1≠0 then s else(c7 s l).1
theorem Bs.try{n:Nat}{s:StateT}{l:List aR}(h:Bs n s):Bs (n+3*l.length) (mQ s l):=by
 unfold mQ
 split
 ·exact h.mono (by omega)
 ·unfold c7
  split
  ·exact Bs.zero _
  ·exact h.go
def mB:Nat→List (List aR)→StateT→StateT
 |0,_,s=>s
 |_+1,[],s=>s
 |n+1,l::r,s=>mB n r (mQ s (l.take 8))
def CG(l:List (List aR)):StateT:=mB 30 l zS
theorem Bs.reach:∀(m:Nat) (l:List (List aR)) {n:Nat} {s:StateT},Bs n s→Bs (n+24*m) (mB m l s)
 |0,_,n,s,h=>by simpa[mB] using h
 |m+1,[],n,s,h=>h.mono (by omega)
 |m+1,l::r,n,s,h=>by
  rw[mB];have h1:Bs (n+3*(l.take 8).length) (mQ s (l.take 8)):=h.try;have hl:(l.take 8).length≤8:=by simp;omega
  exact(Bs.reach m r (h1.mono (show n+3*(l.take 8).length≤n+24 by omega))).mono (by omega)
theorem Bs.MP(l:List (List aR)):Bs 720 (CG l):=(Bs.reach 30 l (Bs.zero 0)).mono (by omega)
end Go.Vs
