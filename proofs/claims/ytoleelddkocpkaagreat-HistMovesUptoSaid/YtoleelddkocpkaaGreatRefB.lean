/- What the document's reference -/
import Derived.Test.YtoleelddkocpkaaGreatRefA
set_option linter.unusedVariables false
set_option linter.unusedSimpArgs false
namespace Go.Vs
open Go.Proofs
variable {G:(f:FuncId)→(g:aN)→Option (g.A→Option g.B)}
def BW(x:ID):List ai→Int→Int
 |[],_ => -1
 |v::r,i=>if v.1=x then i else BW x r (i+1)
theorem Np(x:ID):∀(l:List ai) (i:Int),0≤i→BW x l i = -1∨(i≤BW x l i∧BW x l i<i+l.length)
 |[],i,_=>.inl rfl
 |v::r,i,h=>by
  unfold BW
  split
  ·right;simp;omega
  ·rcases Np x r (i+1) (by omega) with h|h
   ·exact .inl h
   ·right;simp;omega
theorem af6(hG:G 227 Fk=none)(d:ak)(x:ID)(hs:Sm d):FX G 227 Fk ((d,x,()),())=some ((BW x d.1 0,()),()):=by
 have hv:=hs.v;refine av hG aku ?_;have loop:∀(n i:Nat),i+n=d.1.length→LX G 227 Fk Tryz.f227 DH (aK Tryz.prog 227 0) (((i:Int),()),(((d,()),((x,()),())),()))=some ((BW x (d.1.drop i) i,()),()):=by
  intro n
  induction n with
  |zero =>
   intro i hi;refine ar UG ?_;have h1:¬((i:Int)<(d.1.length:Int)):=by omega
   have h2:d.1.drop i=[]:=adt (by omega);rw[h2];simp only[h1,decide_false];rfl
  |succ n ih =>
   intro i hi;refine ar UG ?_;have aO:i<d.1.length:=by omega
   have h2:d.1.drop i=d.1[i]::d.1.drop (i+1):=adi aO;have hx:d.1[i]? = some d.1[i]:=abn aO;rw[h2,BW];simp only[aT aO,aA hx,Option.bind_some,lH,aD aO (show d.1.length≤1073741824 by omega)];by_cases he:d.1[i].1=x
   ·have d1:=decide_eq_true he;rw[if_pos he];simp only[d1];rfl
   ·have d1:=decide_eq_false he;rw[if_neg he];simp only[d1];exact ih (i+1) (by omega)
 exact loop d.1.length 0 (by omega)
def IL(d:ak)(e:ag)(out:List Int):List Int :=
 let a:=BW ((cd d (e.1,0)).getD zI) d.1 0
 let b:=BW ((cd d (e.1,1)).getD zI) d.1 0
 if 0≤a∧0≤b then(out.set a.toNat (min (out.getD a.toNat 0) (out.getD b.toNat 0))).set b.toNat (min (out.getD a.toNat 0) (out.getD b.toNat 0)) else out
def kl(d:ak):List ag→List Int→List Int
 |[],out=>out
 |e::r,out=>kl d r (IL d e out)
def Ld(d:ak):Nat→List Int→List Int
 |0,out=>out
 |n+1,out=>Ld d n (kl d d.2 out)
def Ft(n:Nat):List Int:=(List.range n).map fun i=>((i:Nat):Int)
def labels(d:ak):List Int:=Ld d d.1.length (Ft d.1.length)
theorem Le(d:ak)(e:ag)(out:List Int):(IL d e out).length=out.length:=by
 grind [IL]
theorem xW(d:ak):∀(l:List ag) (out:List Int),(kl d l out).length=out.length
 |[],out=>rfl
 |e::r,out=>by rw[kl,xW d r,Le]
theorem AX(d:ak):∀(n:Nat) (out:List Int),(Ld d n out).length=out.length
 |0,out=>rfl
 |n+1,out=>by rw[Ld,AX d n,xW]
theorem Fu(d:ak):(labels d).length=d.1.length:=by grind [labels,AX,Ft]
theorem ab4(hG:HG G)(d:ak)(hs:Sm d)(n:Int)(R:List Int→List Int) (hR:∀out:List Int,out.length=d.1.length→LX G 211 uQ Tryz.f211 zn (aK Tryz.prog 211 1) ((IntKind.wrap .i64 (n+1),()),(((d,()),()),(out,())))=some ((R out,()),())) :
  ∀out:List Int,out.length=d.1.length→LX G 211 uQ Tryz.f211 sX (aK Tryz.prog 211 2) ((n,((0:Int),())),(((d,()),()),(out,())))=some ((R (kl d d.2 out),()),()):=by
 have hv:=hs.v;have he:=hs.e;have loop:∀(m i:Nat) (out:List Int),i+m=d.2.length→out.length=d.1.length→LX G 211 uQ Tryz.f211 sX (aK Tryz.prog 211 2) ((n,((i:Int),())),(((d,()),()),(out,())))=some ((R (kl d (d.2.drop i) out),()),()):=by
  intro m
  induction m with
  |zero =>
   intro i out hi ho;have h1:¬((i:Int)<(d.2.length:Int)):=by omega
   have h2:d.2.drop i=[]:=adt (by omega);rw[h2,kl];refine ar UJ ?_;simp only[h1,decide_false];exact hR out ho
  |succ m ih =>
   intro i out hi ho;have aO:i<d.2.length:=by omega
   have h2:d.2.drop i=d.2[i]::d.2.drop (i+1):=adi aO;have hx:d.2[i]? = some d.2[i]:=abn aO;rw[h2,kl];generalize d.2[i]=e at *;refine ar UJ ?_;simp only[aT aO,aA hx,Option.bind_some,aD aO (show d.2.length≤1073741824 by omega)];refine aa (Lb hG d (e.1,0) (by omega) (fun w hw=>by have:=hs.r w hw;omega)) ?_;refine aa (Lb hG d (e.1,1) (by omega) (fun w hw=>by have:=hs.r w hw;omega)) ?_;rw[show(rG zI (cd d (e.1,0))).1=(cd d (e.1,0)).getD zI from kY _ _,show(rG zI (cd d (e.1,1))).1=(cd d (e.1,1)).getD zI from kY _ _];refine aa (af6 (hG _ _ rfl) d ((cd d (e.1,0)).getD zI) hs) ?_;refine aa (af6 (hG _ _ rfl) d ((cd d (e.1,1)).getD zI) hs) ?_;have hL:IL d e out=(if 0≤BW ((cd d (e.1,0)).getD zI) d.1 0∧0≤BW ((cd d (e.1,1)).getD zI) d.1 0 then(out.set (BW ((cd d (e.1,0)).getD zI) d.1 0).toNat (min (out.getD (BW ((cd d (e.1,0)).getD zI) d.1 0).toNat 0) (out.getD (BW ((cd d (e.1,1)).getD zI) d.1 0).toNat 0))).set (BW ((cd d (e.1,1)).getD zI) d.1 0).toNat (min (out.getD (BW ((cd d (e.1,0)).getD zI) d.1 0).toNat 0) (out.getD (BW ((cd d (e.1,1)).getD zI) d.1 0).toNat 0)) else out):=rfl;have ha:=Np ((cd d (e.1,0)).getD zI) d.1 0 (by omega);have hb:=Np ((cd d (e.1,1)).getD zI) d.1 0 (by omega);generalize BW ((cd d (e.1,0)).getD zI) d.1 0=a at *;generalize BW ((cd d (e.1,1)).getD zI) d.1 0=b at *;by_cases h3:0≤a
   case neg =>
    have d3:decide (a≥0)=false:=decide_eq_false h3;rw[hL,if_neg (by omega)];simp only[d3];exact ih (i+1) out (by omega) ho
   have d3:decide (a≥0)=true:=decide_eq_true h3;by_cases h4:0≤b
   case neg =>
    have d4:decide (b≥0)=false:=decide_eq_false h4;rw[hL,if_neg (by omega)];simp only[d3,d4];exact ih (i+1) out (by omega) ho
   have d4:decide (b≥0)=true:=decide_eq_true h4;rw[if_pos ⟨h3,h4⟩]at hL;have hal:a.toNat<out.length:=by omega
   have hbl:b.toNat<out.length:=by omega
   have xa:out[a.toNat]? = some out[a.toNat]:=abn hal;have xb:out[b.toNat]? = some out[b.toNat]:=abn hbl;have ga:out.getD a.toNat 0=out[a.toNat]:=by grind
   have gb:out.getD b.toNat 0=out[b.toNat]:=by grind
   rw[ga,gb]at hL;generalize out[a.toNat]=p at *;generalize out[b.toNat]=q at *;have d5:decide ((0:Int)≤a)=true:=decide_eq_true h3;have d6:decide ((0:Int)≤b)=true:=decide_eq_true h4;have d7:decide (a<((out.length:Nat):Int))=true:=decide_eq_true (by omega);have d8:decide (b<((out.length:Nat):Int))=true:=decide_eq_true (by omega);have hbs:b.toNat<(out.set a.toNat (min p q)).length:=by simp_all
   have d9:decide (b<(((out.set a.toNat (min p q)).length:Nat):Int))=true:=decide_eq_true (by simp;omega);have xs:(out.set a.toNat (min p q))[b.toNat]? = some (out.set a.toNat (min p q))[b.toNat]:=abn hbs;simp only[d3,d4,d5,d6,d7,d8,Bool.and_self,xa,xb,Option.bind_some,d9,xs];rw[hL];exact ih (i+1) ((out.set a.toNat (min p q)).set b.toNat (min p q)) (by omega) (by simp[ho])
 intro out ho;exact loop d.2.length 0 out (by omega) ho
theorem alB(hG:HG G)(d:ak)(hs:Sm d):FX G 211 uQ ((d,()),())=some ((labels d,()),()):=by
 have hv:=hs.v;refine av (hG _ _ rfl) akv ?_;have l1:∀(n i:Nat) (out:List Int),i+n=d.1.length→out.length=d.1.length→LX G 211 uQ Tryz.f211 zn (aK Tryz.prog 211 1) (((i:Int),()),(((d,()),()),(out,())))=some ((Ld d n out,()),()):=by
  intro n
  induction n with
  |zero =>
   intro i out hi ho;refine ar UI ?_;have h1:¬((i:Int)<(d.1.length:Int)):=by omega
   simp only[h1,decide_false];rfl
  |succ n ih =>
   intro i out hi ho;refine ar UI ?_;have aO:i<d.1.length:=by omega
   simp only[aT aO];exact ab4 hG d hs (i:Int) (Ld d n) (fun out ho=>by rw[aD aO (show d.1.length≤1073741824 by omega)];exact ih (i+1) out (by omega) ho) out ho
 have l0:∀(n i:Nat) (out:List Int),i+n=d.1.length→out=Ft i→LX G 211 uQ Tryz.f211 DI (aK Tryz.prog 211 0) (((i:Int),()),(((d,()),()),(out,())))=some ((labels d,()),()):=by
  intro n
  induction n with
  |zero =>
   intro i out hi ho;refine ar UH ?_;have h1:¬((i:Int)<(d.1.length:Int)):=by omega
   have yu:i=d.1.length:=by omega
   subst yu;simp only[h1,decide_false];have:=l1 d.1.length 0 out (by omega) (by grind [Ft]);rw[ho]at this ⊢;exact this
  |succ n ih =>
   intro i out hi ho;refine ar UH ?_;have aO:i<d.1.length:=by omega
   have h6:aL out.length [(i:Int)].length=true:=fits (by rw[ho];simp[Ft];omega);simp only[aT aO,h6,aD aO (show d.1.length≤1073741824 by omega)];exact ih (i+1) (out++[(i:Int)]) (by omega) (by rw[ho];simp[Ft,List.range_succ])
 exact l0 d.1.length 0 [] (by omega) (by simp[Ft])
def qW:List Int→Int→Int→Int
 |[],_,n=>n
 |x::r,i,n=>qW r (i+1) (if x=i then IntKind.wrap .i64 (n+1) else n)
def fw(d:ak):Int:=qW (labels d) 0 0
theorem alC(hG:HG G)(d:ak)(hs:Sm d):FX G 186 Ki ((d,()),())=some ((fw d,()),()):=by
 have hv:=hs.v;have hl:=Fu d;refine av (hG _ _ rfl) akc ?_;refine aa (alB hG d hs) ?_;unfold fw;generalize labels d=l at *;have loop:∀(m i:Nat) (n:Int),i+m=l.length→LX G 186 Ki Tryz.f186 zj (aK Tryz.prog 186 0) ((n,((i:Int),())),((),(l,())))=some ((qW (l.drop i) i n,()),()):=by
  intro m
  induction m with
  |zero =>
   intro i n hi;refine ar Uu ?_;have h1:¬((i:Int)<(l.length:Int)):=by omega
   have h2:l.drop i=[]:=adt (by omega);rw[h2];simp only[h1,decide_false];rfl
  |succ m ih =>
   intro i n hi;refine ar Uu ?_;have aO:i<l.length:=by omega
   have h2:l.drop i=l[i]::l.drop (i+1):=adi aO;have hx:l[i]? = some l[i]:=abn aO;rw[h2,qW];simp only[aT aO,fG,Bool.and_self,Int.toNat_natCast,hx,Option.bind_some,aD aO (show l.length≤1073741824 by omega)];by_cases he:l[i]=(i:Int)
   ·have d1:(l[i]==(i:Int))=true:=by simp[he]
    rw[if_pos he];simp only[d1];exact ih (i+1) _ (by omega)
   ·have d1:(l[i]==(i:Int))=false:=by simp[he]
    rw[if_neg he];simp only[d1];exact ih (i+1) _ (by omega)
 exact loop l.length 0 0 (by omega)
def wc:List ai→Int→Int
 |[],n=>n
 |v::r,n=>wc r (if v.2.1.length=0 then IntKind.wrap .i64 (n+1) else n)
def D3(d:ak):Int:=wc d.1 ((((bV d).length:Nat)):Int)
theorem alD(hG:HG G)(d:ak)(hs:Sm d)(he:d.2.length≤5000000):FX G 149 Io ((d,()),())=some ((((d.1.length:Nat):Int),(((d.2.length:Nat):Int),(D3 d,(fw d,())))),()):=by
 have hv:=hs.v;refine av (hG _ _ rfl) akT ?_;refine aa (alz hG d hs he) ?_;unfold D3;show LX G 149 Io Tryz.f149 vX (aK Tryz.prog 149 0) ((lI (bV d),((0:Int),())),(((d,()),()),()))=_;unfold lI;generalize (((bV d).length:Nat):Int)=f0;have key:=br d.1 (fun i (n:Int)=>LX G 149 Io Tryz.f149 vX (aK Tryz.prog 149 0) ((n,(i,())),(((d,()),()),()))) (fun(r:List ai) (n:Int)=>((((d.1.length:Nat):Int),(((d.2.length:Nat):Int),(wc r n,(fw d,())))),())) (fun _ _=>True) (fun n _=>by refine ar UT ?_;simp only[cy];exact aa (alC hG d hs) rfl) (fun i y r n hi hx xT _ ih=>by
   refine ar UT ?_;simp only[aT hi,aA hx,Option.bind_some,aD hi (show d.1.length≤1073741824 by omega)];by_cases he:y.2.1.length=0
   ·have d1:((((y.2.1.length:Nat)):Int)==0)=true:=by simp[he]
    simp only[d1,wc,if_pos he];simp_all
   ·have d1:((((y.2.1.length:Nat)):Int)==0)=false:=by simp_all
    simp only[d1,wc,if_neg he];simp_all)
  f0 trivial
 exact key
def bP(d:ak):Int:=IntKind.wrap .i64 (Int.tdiv (IntKind.wrap .i64 (IntKind.wrap .i64 (IntKind.wrap .i64 (IntKind.wrap .i64 (2*fw d)-((d.1.length:Nat):Int))+((d.2.length:Nat):Int))-D3 d)) 2)
theorem alE(hG:HG G)(d:ak)(hs:Sm d)(he:d.2.length≤5000000):FX G 99 Kp ((d,()),())=some ((bP d,()),()):=by refine av (hG _ _ rfl) akC ?_;exact aa (alD hG d hs he) rfl
theorem YC{s:ByteArray}{i:Nat}{c:UInt8}(h:s.data.toList[i]? = some c):(if(0:Int)≤(i:Int) then s[Int.toNat (i:Int)]? else none)=some c:=by
 have hi:i<s.size:=by have:=(abu.1 h).1;simp_all
 rw[if_pos (by omega),Int.toNat_natCast,getElem?_pos s i hi];have h2:=(abu.1 h).2;rw[←h2];rfl
def lK(c:UInt8):Bool:=decide (32≤c.toNat)&&decide (c.toNat≤126)
def kI(s:ByteArray):Bool:=s.data.toList.all lK&&decide (s.size≤16)
theorem alF(hG:G 122 Ig=none)(s:ByteArray)(hs:s.size≤100000000):FX G 122 Ig ((s,()),())=some ((kI s,()),()):=by
 refine av hG aj8 ?_;have hl:s.data.toList.length=s.size:=by simp
 have key:=br s.data.toList (fun i (_:Unit)=>LX G 122 Ig Tryz.f122 DB (aK Tryz.prog 122 0) ((s,(i,())),((),()))) (fun(r:List UInt8) (_:Unit)=>((r.all lK&&decide (s.size≤16),()),())) (fun _ _=>True) (fun _ _=>by
   refine ar Us ?_;rw[hl];have h2:decide (((s.size:Nat):Int)≤16)=decide (s.size≤16):=by
    grind
   simp only[cy,h2,List.all_nil,Bool.true_and];rfl)
  (fun i c r _ hi hx xT _ ih=>by
   refine ar Us ?_;rw[hl]at hi;have hb:=YC hx;simp only[aT hi,hb,Option.bind_some,aD hi (show s.size≤1073741824 by omega)];by_cases h1:c.toNat<32
   ·have d1:decide (((c.toNat:Nat):Int)<32)=true:=decide_eq_true (by omega);have d2:lK c=false:=by grind [lK]
    simp only[d1,List.all_cons,d2,Bool.false_and];rfl
   ·have d1:decide (((c.toNat:Nat):Int)<32)=false:=decide_eq_false (by omega);by_cases h2:126<c.toNat
    ·have d2:decide (((c.toNat:Nat):Int)>126)=true:=decide_eq_true (by omega);have d3:lK c=false:=by grind [lK]
     simp only[d1,d2,List.all_cons,d3,Bool.false_and];rfl
    ·have d2:decide (((c.toNat:Nat):Int)>126)=false:=decide_eq_false (by omega);have d3:lK c=true:=by grind [lK]
     simp only[d1,d2,List.all_cons,d3,Bool.true_and];exact ih () trivial)
  () trivial
 exact key
def jX(n:Int):Bool:=decide (-1099511627776≤n∧n≤1099511627776)
theorem alG(hG:G 121 Rc=none)(n:Int):FX G 121 Rc ((n,()),())=some ((jX n,()),()):=by
 refine av hG aj9 ?_;show(cond (decide (n≥-1099511627776)) (some ((decide (n≤1099511627776),()),())) (some ((false,()),())):Option ((Bool×Unit)×Unit))=some ((jX n,()),())
 grind [jX]
def Br(c:rC):Bool:=ck c.1&&(nq c.2 || decide (c.2=zD))
theorem af7(hG:HG G)(c:rC):FX G 120 Rh ((c,()),())=some ((Br c,()),()):=by
 refine av (hG _ _ rfl) akF ?_;refine aa (Rz (hG _ _ rfl) c.1) ?_;refine aa (alo hG c.2) ?_;have hb:(((c.2.1.1==(0:Int))&&(c.2.1.2==(0:Int)))&&(c.2.2==(0:Int)))=decide (c.2=zD):=lJ c.2 zD;unfold Br;simp only[hb]
 cases h1:ck c.1<;>cases h2:nq c.2<;>rfl
def zOp:bq:=(0,(zI,(zI,(zI,(zC,(zC,(false,(e0,0))))))))
def xX(o:bq):bq :=if o.1=3 then(0,(zI,(o.2.2.1,(o.2.2.2.1,(zC,(zC,(o.2.2.2.2.2.2.1,o.2.2.2.2.2.2.2)))))))
 else if o.1=5 then(0,(zI,(zI,(zI,(o.2.2.2.2.1,(o.2.2.2.2.2.1,(o.2.2.2.2.2.2.1,(o.2.2.2.2.2.2.2.1,0))))))))
 else if o.1=6 then(0,(zI,(o.2.2.1,(zI,(o.2.2.2.2.1,(o.2.2.2.2.2.1,(o.2.2.2.2.2.2.1,o.2.2.2.2.2.2.2)))))))
 else if o.1=7 then(0,(zI,(o.2.2.1,(o.2.2.2.1,(o.2.2.2.2.1,(o.2.2.2.2.2.1,(false,(e0,o.2.2.2.2.2.2.2.2))))))))
 else if o.1=8 then(0,(zI,(o.2.2.1,(o.2.2.2.1,(o.2.2.2.2.1,(o.2.2.2.2.2.1,(false,(o.2.2.2.2.2.2.2.1,0))))))))
 else(0,(zI,(o.2.2.1,(o.2.2.2.1,(o.2.2.2.2.1,(o.2.2.2.2.2.1,(o.2.2.2.2.2.2.1,o.2.2.2.2.2.2.2)))))))
theorem alH(hG:G 119 Rg=none)(o:bq):FX G 119 Rg ((o,()),())=some ((xX o,()),()):=by
 refine av hG akE ?_;unfold xX;by_cases h3:o.1=3
 ·have d:(o.1==(3:Int))=true:=by simp[h3]
  rw[if_pos h3];simp only[d];rfl
 have d3:(o.1==(3:Int))=false:=by simp[h3]
 rw[if_neg h3];by_cases h5:o.1=5
 ·have d:(o.1==(5:Int))=true:=by simp[h5]
  rw[if_pos h5];simp only[d3,d];rfl
 have d5:(o.1==(5:Int))=false:=by simp[h5]
 rw[if_neg h5];by_cases h6:o.1=6
 ·have d:(o.1==(6:Int))=true:=by simp[h6]
  rw[if_pos h6];simp only[d3,d5,d];rfl
 have d6:(o.1==(6:Int))=false:=by simp[h6]
 rw[if_neg h6];by_cases h7:o.1=7
 ·have d:(o.1==(7:Int))=true:=by simp[h7]
  rw[if_pos h7];simp only[d3,d5,d6,d];rfl
 have d7:(o.1==(7:Int))=false:=by simp[h7]
 rw[if_neg h7];by_cases h8:o.1=8
 ·have d:(o.1==(8:Int))=true:=by simp[h8]
  rw[if_pos h8];simp only[d3,d5,d6,d7,d];rfl
 have d8:(o.1==(8:Int))=false:=by simp[h8]
 rw[if_neg h8];simp only[d3,d5,d6,d7,d8];rfl
def Bu(x y:bq):Bool :=(x.1==y.1)&&(((x.2.1.1==y.2.1.1)&&(x.2.1.2==y.2.1.2))&&(((x.2.2.1.1==y.2.2.1.1)&&(x.2.2.1.2==y.2.2.1.2))&&(((x.2.2.2.1.1==y.2.2.2.1.1)&&(x.2.2.2.1.2==y.2.2.2.1.2)) && ((((x.2.2.2.2.1.1.1==y.2.2.2.2.1.1.1)&&(x.2.2.2.2.1.1.2==y.2.2.2.2.1.1.2))&&(((x.2.2.2.2.1.2.1.1==y.2.2.2.2.1.2.1.1)&&(x.2.2.2.2.1.2.1.2==y.2.2.2.2.1.2.1.2))&&(x.2.2.2.2.1.2.2==y.2.2.2.2.1.2.2))) && ((((x.2.2.2.2.2.1.1.1==y.2.2.2.2.2.1.1.1)&&(x.2.2.2.2.2.1.1.2==y.2.2.2.2.2.1.1.2))&&(((x.2.2.2.2.2.1.2.1.1==y.2.2.2.2.2.1.2.1.1)&&(x.2.2.2.2.2.1.2.1.2==y.2.2.2.2.2.1.2.1.2))&&(x.2.2.2.2.2.1.2.2==y.2.2.2.2.2.1.2.2))) && ((x.2.2.2.2.2.2.1==y.2.2.2.2.2.2.1)&&((x.2.2.2.2.2.2.2.1==y.2.2.2.2.2.2.2.1)&&(x.2.2.2.2.2.2.2.2==y.2.2.2.2.2.2.2.2))))))))
theorem Lf(x y:bq):Bu x y=true↔x=y:=by obtain⟨x1,⟨x2,x3⟩,⟨x4,x5⟩,⟨x6,x7⟩,⟨⟨x8,x9⟩,⟨x10,x11⟩,x12⟩,⟨⟨x13,x14⟩,⟨x15,x16⟩,x17⟩,x18,x19,x20⟩:=x;obtain⟨y1,⟨y2,y3⟩,⟨y4,y5⟩,⟨y6,y7⟩,⟨⟨y8,y9⟩,⟨nK,lF⟩,qi⟩,⟨⟨lR,GR⟩,⟨vY,SH⟩,Xz⟩,y18,UO,GS⟩:=y;simp_all [Bu,abY,and_assoc]
theorem bw{α:Type}{c b:Bool}{x y r:α}(h:c=b)(k:cond (not b) x y=r):cond (not c) x y=r:=by simp_all
def cC(o:bq):Int :=if o.1<1 then 1 else if 8<o.1 then 1 else if ck o.2.1=false then 1 else if Bu (xX o) zOp=false then 1
 else if o.1=3 then(if Br o.2.2.2.2.1=true∧Br o.2.2.2.2.2.1=true then 0 else 1)
 else if o.1=5 then(if ck o.2.2.1=true∧ck o.2.2.2.1=true∧0≤o.2.2.2.2.2.2.2.2∧o.2.2.2.2.2.2.2.2≤3 then 0 else 1)
 else if o.1=6 then(if ck o.2.2.2.1=true then 0 else 1)
 else if o.1=8 then(if jX o.2.2.2.2.2.2.2.2=true then 0 else 1)
 else if o.1=7 then(if kI o.2.2.2.2.2.2.2.1=true then 0 else 4)
 else 0
def I1(n:Int):Option ((Int×Unit)×Unit):=some ((n,()),())
theorem af8(hG:HG G)(o:bq)(ht:o.2.2.2.2.2.2.2.1.size≤100000000):FX G 86 Rd ((o,()),())=some ((cC o,()),()):=by
 refine av (hG _ _ rfl) akk ?_;refine aa (Rz (hG _ _ rfl) o.2.1) ?_;unfold cC;by_cases h1:o.1<1
 ·rw[if_pos h1];have d:=decide_eq_true h1;simp only[d];rfl
 rw[if_neg h1];have d1:=decide_eq_false h1;by_cases h2:8<o.1
 ·rw[if_pos h2];have d:decide (o.1>8)=true:=decide_eq_true h2;simp only[d1,d];rfl
 rw[if_neg h2];have d2:decide (o.1>8)=false:=decide_eq_false h2
 cases hm:ck o.2.1
 ·rw[if_pos rfl];simp only[d1,d2];rfl
 rw[if_neg (by simp)];simp only[d1,d2];refine aa (alH (hG _ _ rfl) o) ?_;refine bw (b:=Bu (xX o) zOp) rfl ?_
 cases he:Bu (xX o) zOp
 ·rfl
 rw[if_neg (by simp)];by_cases h3:o.1=3
 ·rw[if_pos h3];have d:(o.1==(3:Int))=true:=by simp[h3]
  simp only[d];refine aa (af7 hG o.2.2.2.2.1) ?_;refine aa (af7 hG o.2.2.2.2.2.1) ?_
  cases hc:Br o.2.2.2.2.1<;>cases pf:Br o.2.2.2.2.2.1<;>rfl
 rw[if_neg h3];have d3:(o.1==(3:Int))=false:=by simp[h3]
 by_cases h5:o.1=5
 ·rw[if_pos h5];have d:(o.1==(5:Int))=true:=by simp[h5]
  simp only[d3,d];refine aa (Rz (hG _ _ rfl) o.2.2.1) ?_;refine aa (Rz (hG _ _ rfl) o.2.2.2.1) ?_
  cases hc:ck o.2.2.1
  ·rfl
  cases pf:ck o.2.2.2.1
  ·rfl
  by_cases h6:o.2.2.2.2.2.2.2.2<0
  ·have d6:=decide_eq_true h6;rw[if_neg (by omega)];simp only[d6];rfl
  have d6:=decide_eq_false h6;by_cases h7:o.2.2.2.2.2.2.2.2>3
  ·have d7:=decide_eq_true h7;rw[if_neg (by omega)];simp only[d6,d7];rfl
  have d7:=decide_eq_false h7;rw[if_pos ⟨rfl,rfl,by omega,by omega⟩];simp only[d6,d7];rfl
 rw[if_neg h5];have d5:(o.1==(5:Int))=false:=by simp[h5]
 by_cases h6:o.1=6
 ·rw[if_pos h6];have d:(o.1==(6:Int))=true:=by simp[h6]
  simp only[d3,d5,d];refine aa (Rz (hG _ _ rfl) o.2.2.2.1) ?_
  cases hc:ck o.2.2.2.1<;>rfl
 rw[if_neg h6];have d6:(o.1==(6:Int))=false:=by simp[h6]
 by_cases h8:o.1=8
 ·rw[if_pos h8];have d:(o.1==(8:Int))=true:=by simp[h8]
  simp only[d3,d5,d6,d];refine aa (alG (hG _ _ rfl) o.2.2.2.2.2.2.2.2) ?_
  cases hc:jX o.2.2.2.2.2.2.2.2<;>rfl
 rw[if_neg h8];have d8:(o.1==(8:Int))=false:=by simp[h8]
 by_cases h7:o.1=7
 ·rw[if_pos h7];have d:(o.1==(7:Int))=true:=by simp[h7]
  simp only[d3,d5,d6,d8,d];refine aa (alF (hG _ _ rfl) o.2.2.2.2.2.2.2.1 (by omega)) ?_
  cases hc:kI o.2.2.2.2.2.2.2.1<;>rfl
 rw[if_neg h7];have d7:(o.1==(7:Int))=false:=by simp[h7]
 simp only[d3,d5,d6,d8,d7];rfl
def we(o:bq):Prop:=o.2.2.2.2.2.2.2.1.size≤100000000
def lL:List bq→Int
 |[]=>0
 |o::r=>if cC o≠0 then cC o else lL r
def c8(l:List bq):Int:=if 1≤l.length∧l.length≤6 then lL l else 3
theorem alI(hG:HG G)(l:List bq)(ht:∀o∈l,we o):FX G 65 Kl ((l,()),())=some ((c8 l,()),()):=by
 refine av (hG _ _ rfl) akh ?_;unfold c8;by_cases h1:l.length<1
 ·have d:decide (((l.length:Nat):Int)<1)=true:=decide_eq_true (by omega);rw[if_neg (by omega)];simp only[d];rfl
 have d1:decide (((l.length:Nat):Int)<1)=false:=decide_eq_false (by omega);by_cases h2:6<l.length
 ·have d:decide (((l.length:Nat):Int)>6)=true:=decide_eq_true (by omega);rw[if_neg (by omega)];simp only[d1,d];rfl
 have d2:decide (((l.length:Nat):Int)>6)=false:=decide_eq_false (by omega);rw[if_pos (by omega)];simp only[d1,d2];have key:=br l (fun i (_:Unit)=>LX G 65 Kl Tryz.f65 DE (aK Tryz.prog 65 0) ((i,()),(((l,()),()),()))) (fun(r:List bq) (_:Unit)=>((lL r,()),())) (fun _ _=>True) (fun _ _=>by refine ar Ux ?_;simp only[cy];rfl) (fun i o r _ hi hx xT _ ih=>by
   refine ar Ux ?_;simp only[aT hi,aA hx,Option.bind_some,aD hi (show l.length≤1073741824 by omega)];refine aa (af8 hG o (ht o (acw hx))) ?_;rw[lL];by_cases h:cC o=0
   ·have d:(cC o != 0)=false:=by simp[h]
    rw[if_neg (by simp[h])];simp only[d];exact ih () trivial
   ·have d:(cC o != 0)=true:=by simp[h]
    rw[if_pos h];simp only[d];rfl)
  () trivial
 exact key
theorem ae{α:Type}{c:Bool}{x y r:α}(h:c=true)(k:x=r):cond c x y=r:=by simp_all
theorem af{α:Type}{c:Bool}{x y r:α}(h:c=false)(k:y=r):cond c x y=r:=by simp_all
theorem cK{a b:Bool}(h:a=true)(k:b=true):(a&&b)=true:=by rw[h,k];rfl
def zS:StateT:=(([],[]),[])
abbrev ba(o:bq):ID:=o.2.1
abbrev fC(o:bq):ID:=o.2.2.1
abbrev bC(o:bq):ID:=o.2.2.2.1
abbrev oA(o:bq):rC:=o.2.2.2.2.1
abbrev oB(o:bq):rC:=o.2.2.2.2.2.1
abbrev qX(o:bq):Bool:=o.2.2.2.2.2.2.1
abbrev pT(o:bq):ByteArray:=o.2.2.2.2.2.2.2.1
abbrev oN(o:bq):Int:=o.2.2.2.2.2.2.2.2
def iO(o:bq)(w:ai):ai:=if qX o=false∧w.1=ba o then(if o.1=7 then(w.1,(w.2.1,(pT o,w.2.2.2))) else(w.1,(w.2.1,(w.2.2.1,oN o)))) else w
def jY(o:bq)(w:ag):ag:=if qX o=true∧w.1=ba o then(if o.1=7 then(w.1,(pT o,w.2.2)) else(w.1,(w.2.1,oN o))) else w
def Lg(o:bq)(l:List ai):Bool := !(qX o)&&l.any fun w=>decide (w.1=ba o)
def IM(o:bq)(l:List ag):Bool:=qX o&&l.any fun w=>decide (w.1=ba o)
def wg(s:StateT)(o:bq):StateT×(Int×Unit) :=if Lg o s.1.1 || IM o s.1.2 then(((s.1.1.map (iO o),s.1.2.map (jY o)),s.2),(0,())) else(zS,(13,()))
theorem ab6(s:StateT)(o:bq)(vs:List ai)(hs:Sm s.1):∀(n i:Nat) (fd:Bool) (out fin:List ag),i+n=s.1.2.length→out=(s.1.2.take i).map (jY o)++s.1.2.drop i→fin=s.1.2.map (jY o) → LX G 94 Db Tryz.f94 sW (aK Tryz.prog 94 1) ((fd,((i:Int),())),(((s,()),((o,()),((([]:List ai),(([]:List ag),(([]:List ax),()))),((vs,(out,())),())))),())) = some ((if(fd || IM o (s.1.2.drop i)) then((((vs,fin),s.2),((0:Int),())):StateT×(Int×Unit)) else(zS,(13,()))),()):=by
 have he:=hs.e;intro n
 induction n with
 |zero =>
  intro i fd out fin hi ho hf;refine ar UE ?_;have hol:out.length=s.1.2.length:=by simp_all
  have h1:¬((i:Int)<(out.length:Int)):=by omega
  have h2:out=fin:=by simp_all
  have h3:IM o (s.1.2.drop i)=false:=by grind [List.drop_eq_nil_of_le,IM]
  subst h2;rw[h3];simp only[h1,decide_false]
  cases fd<;>rfl
 |succ n ih =>
  intro i fd out fin hi ho hf;refine ar UE ?_;have hol:out.length=s.1.2.length:=by grind
  have aO:i<s.1.2.length:=by omega
  have hx:s.1.2[i]? = some s.1.2[i]:=abn aO;have hg:out[i]? = some s.1.2[i]:=by grind
  have h2:s.1.2.drop i=s.1.2[i]::s.1.2.drop (i+1):=adi aO;have zy:=aT (show i<out.length by omega);have hw:=aD aO (show s.1.2.length≤1073741824 by omega);rw[h2];generalize s.1.2[i]=y at *;have hE:IM o (y::s.1.2.drop (i+1))=((qX o&&decide (y.1=ba o)) || IM o (s.1.2.drop (i+1))):=by unfold IM;grind
  rw[hE];refine ae zy ?_
  cases hof:qX o
  ·have e1:jY o y=y:=by simp_all [jY,if_neg]
   rw[Bool.false_and,Bool.false_or];refine af hof ?_;rw[wI,hw];exact ih (i+1) fd out fin (by omega) (by grind) hf
  ·rw[Bool.true_and];refine ae hof ?_;refine ae (cK (fG i) zy) ?_;refine aa hg ?_;by_cases hq:y.1=ba o
   ·refine ae ((lH y.1 (ba o)).trans (decide_eq_true hq)) ?_;rw[decide_eq_true hq,Bool.true_or,Bool.or_true,wI,hw];by_cases h7:o.1=7
    ·have e1:jY o y=(y.1,(pT o,y.2.2)):=by simp_all [jY,if_pos]
     refine ae (show(o.1==(7:Int))=true by simp[h7]) ?_;refine ae (cK (fG i) zy) ?_;refine aa hg ?_;have:=ih (i+1) true (out.set i (y.1,(pT o,y.2.2))) fin (by omega) (by grind [xU]) hf;rw[Bool.true_or]at this;exact this
    ·have e1:jY o y=(y.1,(y.2.1,oN o)):=by simp_all [jY,if_pos,if_neg]
     refine af (show(o.1==(7:Int))=false by simp[h7]) ?_;refine ae (cK (fG i) zy) ?_;refine aa hg ?_;have:=ih (i+1) true (out.set i (y.1,(y.2.1,oN o))) fin (by omega) (by grind [xU]) hf;rw[Bool.true_or]at this;exact this
   ·have e1:jY o y=y:=by simp_all [jY,if_neg]
    refine af ((lH y.1 (ba o)).trans (decide_eq_false hq)) ?_;rw[decide_eq_false hq,Bool.false_or,wI,hw];exact ih (i+1) fd out fin (by omega) (by grind) hf
theorem ab7(s:StateT)(o:bq)(hs:Sm s.1):∀(n i:Nat) (fd:Bool) (out fin:List ai),i+n=s.1.1.length→out=(s.1.1.take i).map (iO o)++s.1.1.drop i→fin=s.1.1.map (iO o) → LX G 94 Db Tryz.f94 sV (aK Tryz.prog 94 0) ((fd,((i:Int),())),(((s,()),((o,()),((([]:List ai),(([]:List ag),(([]:List ax),()))),((out,(s.1.2,())),())))),())) = some ((if((fd || Lg o (s.1.1.drop i)) || IM o s.1.2) then((((fin,s.1.2.map (jY o)),s.2),((0:Int),())):StateT×(Int×Unit)) else(zS,(13,()))),()):=by
 have hv:=hs.v;intro n
 induction n with
 |zero =>
  intro i fd out fin hi ho hf;refine ar UD ?_;have hol:out.length=s.1.1.length:=by simp_all
  have h1:¬((i:Int)<(out.length:Int)):=by omega
  have h2:out=fin:=by simp_all
  have h3:Lg o (s.1.1.drop i)=false:=by grind [List.drop_eq_nil_of_le,Lg]
  subst h2;rw[h3,Bool.or_false];simp only[h1,decide_false];exact ab6 s o out hs s.1.2.length 0 fd s.1.2 (s.1.2.map (jY o)) (by omega) (by simp) rfl
 |succ n ih =>
  intro i fd out fin hi ho hf;refine ar UD ?_;have hol:out.length=s.1.1.length:=by grind
  have aO:i<s.1.1.length:=by omega
  have hx:s.1.1[i]? = some s.1.1[i]:=abn aO;have hg:out[i]? = some s.1.1[i]:=by grind
  have h2:s.1.1.drop i=s.1.1[i]::s.1.1.drop (i+1):=adi aO;have zy:=aT (show i<out.length by omega);have hw:=aD aO (show s.1.1.length≤1073741824 by omega);rw[h2];generalize s.1.1[i]=y at *;have hE:Lg o (y::s.1.1.drop (i+1))=((!(qX o)&&decide (y.1=ba o)) || Lg o (s.1.1.drop (i+1))):=by unfold Lg;grind
  rw[hE];refine ae zy ?_
  cases hof:qX o
  ·rw[Bool.not_false,Bool.true_and];refine ae (show(!(qX o))=true by rw[hof];rfl) ?_;refine ae (cK (fG i) zy) ?_;refine aa hg ?_;by_cases hq:y.1=ba o
   ·refine ae ((lH y.1 (ba o)).trans (decide_eq_true hq)) ?_;rw[decide_eq_true hq,Bool.true_or,Bool.or_true,Bool.true_or,wI,hw];by_cases h7:o.1=7
    ·have e1:iO o y=(y.1,(y.2.1,(pT o,y.2.2.2))):=by simp_all [iO,if_pos]
     refine ae (show(o.1==(7:Int))=true by simp[h7]) ?_;refine ae (cK (fG i) zy) ?_;refine aa hg ?_;have:=ih (i+1) true (out.set i (y.1,(y.2.1,(pT o,y.2.2.2)))) fin (by omega) (by grind [xU]) hf;rw[Bool.true_or,Bool.true_or]at this;exact this
    ·have e1:iO o y=(y.1,(y.2.1,(y.2.2.1,oN o))):=by simp_all [iO,if_pos,if_neg]
     refine af (show(o.1==(7:Int))=false by simp[h7]) ?_;refine ae (cK (fG i) zy) ?_;refine aa hg ?_;have:=ih (i+1) true (out.set i (y.1,(y.2.1,(y.2.2.1,oN o)))) fin (by omega) (by grind [xU]) hf;rw[Bool.true_or,Bool.true_or]at this;exact this
   ·have e1:iO o y=y:=by simp_all [iO,if_neg]
    refine af ((lH y.1 (ba o)).trans (decide_eq_false hq)) ?_;rw[decide_eq_false hq,Bool.false_or,wI,hw];exact ih (i+1) fd out fin (by omega) (by grind) hf
  ·have e1:iO o y=y:=by simp_all [iO,if_neg]
   rw[Bool.not_true,Bool.false_and,Bool.false_or];refine af (show(!(qX o))=false by rw[hof];rfl) ?_;rw[wI,hw];exact ih (i+1) fd out fin (by omega) (by grind) hf
theorem alJ(hG:HG G)(s:StateT)(o:bq)(hs:Sm s.1):FX G 94 Db ((s,o,()),())=some (wg s o,()):=by have hv:=hs.v;have he:=hs.e;refine av (hG _ _ rfl) akr ?_;refine aa (afU (hG _ _ rfl) s.1 (by omega) (by omega) (fun w hw=>by have:=hs.r w hw;omega)) ?_;have:=ab7 (G:=G) s o hs s.1.1.length 0 false s.1.1 (s.1.1.map (iO o)) (by omega) (by simp) rfl;rw[Bool.false_or]at this;exact this
structure Bd(n:Nat)(d:ak):Prop where
 v:d.1.length≤n
 e:d.2.length≤n
 r:∀w∈d.1,w.2.1.length≤n
theorem Bd.sm{n:Nat}{d:ak}(h:Bd n d)(hn:n≤50000000):Sm d:=⟨by have:=h.v;omega,by have:=h.e;omega,fun w hw=>by have:=h.r w hw;omega⟩
theorem Bd.mono{n m:Nat}{d:ak}(h:Bd n d)(hm:n≤m):Bd m d:=⟨by have:=h.v;omega,by have:=h.e;omega,fun w hw=>by have:=h.r w hw;omega⟩
theorem fH(v:ai):∀l:List ai,(cW v l).length=l.length+1
 |[]=>rfl
 |w::r=>by unfold cW;split<;>simp[fH v r]
theorem lM(v:ag):∀l:List ag,(dH v l).length=l.length+1
 |[]=>rfl
 |w::r=>by unfold dH;split<;>simp[lM v r]
theorem jZ{v w:ai}:∀{l:List ai},w∈cW v l↔w=v∨w∈l
 |[]=>by simp[cW]
 |u::r=>by
  unfold cW
  split
  ·simp
  ·simp only[List.mem_cons,jZ (l:=r)];exact⟨fun h=>by rcases h with h|h|h<;>simp[h],fun h=>by rcases h with h|h|h<;>simp[h]⟩
theorem pU{v w:ag}:∀{l:List ag},w∈dH v l↔w=v∨w∈l
 |[]=>by simp[dH]
 |u::r=>by
  unfold dH
  split
  ·simp
  ·simp only[List.mem_cons,pU (l:=r)];exact⟨fun h=>by rcases h with h|h|h<;>simp[h],fun h=>by rcases h with h|h|h<;>simp[h]⟩
theorem AY(row:List ab)(a d:ab):(nM row a d).length≤row.length+1:=by
 grind [nM,jD]
theorem Lh(row:List ab)(d:ab):(iM row d).length≤row.length:=by
 grind [iM,jD,List.length_filter_le]
theorem IN(row:List ab)(a d:ab):(fF row a d).length=row.length:=by
 grind [fF,jD]
theorem Bd.bH{n:Nat}{d:ak}(h:Bd n d)(x:ID):(bH d x).length≤n:=by
 unfold Vs.bH
 cases hf:bp d x with
 |none=>simp[zV]
 |some v=>exact h.r v (ade hf)
theorem Bd.cj{n:Nat}{d:ak}(h:Bd n d){x:ID}{l:List ab}(hl:l.length≤n):Bd n (cj d x l):=by
 refine⟨by simp[Vs.cj];exact h.v,h.e,fun w hw=>?_⟩;obtain⟨u,hu,rfl⟩:=ace.1 hw;unfold uu
 split
 ·exact hl
 ·exact h.r u hu
theorem Bd.bU{n:Nat}{d:ak}(h:Bd n d)(c:rC)(x:ab):Bd (n+1) (bU d c x) :=(h.mono (by omega)).cj (by have:=AY (Vs.bH d c.1) c.2 x;have:=h.bH c.1;omega)
theorem Bd.aE{n:Nat}{d:ak}(h:Bd n d)(a x:ab):Bd n (aE d a x) :=h.cj (by rw[IN];exact h.bH _)
theorem Bd.aH{n:Nat}{d:ak}(h:Bd n d)(x:ab):Bd n (aH d x) :=h.cj (by have:=Lh (Vs.bH d ((cd d x).getD zI)) x;have:=h.bH ((cd d x).getD zI);omega)
theorem Bd.aM{n:Nat}{d:ak}(h:Bd n d)(v e:ID):Bd n (aM d v e) :=⟨acz (ado _ _) h.v,acz (ado _ _) h.e,fun w hw=>h.r w (ads.1 hw).1⟩
theorem Bd.cW{n:Nat}{d:ak}(h:Bd n d)(v:ai)(hv:v.2.1.length≤n+1):Bd (n+1) (cW v d.1,d.2) :=⟨by rw[fH];have:=h.v;omega,by have:=h.e;grind,fun w hw=>by
  rcases jZ.1 hw with rfl|hw
  ·exact hv
  ·have:=h.r w hw;omega⟩
theorem Bd.dH{n:Nat}{d:ak}(h:Bd n d)(v:ag):Bd (n+1) (d.1,dH v d.2) :=⟨by have:=h.v;grind,by rw[lM];have:=h.e;omega,fun w hw=>by have:=h.r w hw;omega⟩
theorem AZ(g:ax):∀l:List ax,(mj g l).length≤l.length+1
 |[]=>by simp[mj]
 |e::r=>by
  unfold mj
  split
  ·have:=ado (fun q:ax=>decide (q.1≠g.1)) (e::r);simp[oK];simp at this;omega
  ·have:=AZ g r
   split<;>simp<;>omega
theorem gX(l:List ax)(g:ax):(bS l g).length≤l.length+1:=by
 grind [bS,AZ]
def ib(s:StateT)(o:bq):ak :=bU (bU (s.1.1,dH (ba o,(e0,0)) s.1.2) (bA s (oA o)).1 (ba o,0)) (if(bp s.1 (oB o).1).isSome=true∧(oB o).2=(ba o,0) then oB o else(bA s (oB o)).1) (ba o,1)
def ou(s:StateT)(o:bq):StateT×(Int×Unit) :=if(hM s.1 (ba o)).isSome=true then(zS,(12,()))
 else if 40≤s.1.2.length then(zS,(3,()))
 else if(bA s (oA o)).2.1≠0 then(zS,(13,()))
 else if(bA s (oB o)).2.1≠0 then(zS,(13,()))
 else if bP (ib s o)≠0 then(zS,(15,()))
 else((ib s o,s.2),(0,()))
theorem alK(hG:HG G){n:Nat}(s:StateT)(o:bq)(hs:Bd n s.1)(hn:n≤4000000)(hg:s.2.length≤50000000):FX G 90 T9 ((s,o,()),())=some (ou s o,()):=by
  have hv:=hs.v;have he:=hs.e;have YD:=hs.sm (by omega);refine av (hG _ _ rfl) akn ?_;refine aa (Yy (hG _ _ rfl) s.1 (ba o) (by omega)) ?_;rw[show(rG zE (hM s.1 (ba o))).2.1=(hM s.1 (ba o)).isSome from iZ _ _];unfold ou
  cases h1:(hM s.1 (ba o)).isSome
  case true=>rfl
  rw[if_neg (by simp)];by_cases h2:40≤s.1.2.length
  · have d:decide (((s.1.2.length:Nat):Int)≥40)=true:=decide_eq_true (by omega)
    rw[if_pos h2];simp only[d];rfl
  have d2:decide (((s.1.2.length:Nat):Int)≥40)=false:=decide_eq_false (by omega);rw[if_neg h2];simp only[d2];refine aa (af4 hG s (oA o) YD hg) ?_;refine aa (af4 hG s (oB o) YD hg) ?_;refine aa (Fs (hG _ _ rfl) s.1 (oB o).1 (by omega)) ?_;rw[show(rG zV (bp s.1 (oB o).1)).2.1=(bp s.1 (oB o).1).isSome from iZ _ _];have b1:=hs.dH (ba o,(e0,0));have b2:=b1.bU (bA s (oA o)).1 (ba o,0);have fin:∀(bc:rC),ib s o=bU (bU (s.1.1,dH (ba o,(e0,0)) s.1.2) (bA s (oA o)).1 (ba o,0)) bc (ba o,1) →(cond ((bA s (oA o)).2.1 != 0) (some (((([],[]),[]),((13:Int),())),())) (cond ((bA s (oB o)).2.1 != 0) (some (((([],[]),[]),((13:Int),())),())) ((FX G 125 Bl ((s.1,((ba o,(e0,(0:Int))),())),())).bind fun(y5:((ak×Unit)×Unit)) =>(FX G 126 Bm ((y5.1.1,((bA s (oA o)).1,((ba o,(0:Int)),()))),())).bind fun(y6:((ak×Unit)×Unit)) =>(FX G 126 Bm ((y6.1.1,(bc,((ba o,(1:Int)),()))),())).bind fun(y7:((ak×Unit)×Unit)) =>(FX G 99 Kp ((y7.1.1,()),())).bind fun(y8:((Int×Unit)×Unit)) =>cond (y8.1.1 != (0:Int)) (some (((([],[]),[]),((15:Int),())),())) (some (((y7.1.1,s.2),((0:Int),())),())))):Option ((StateT×(Int×Unit))×Unit)) = some ((if(bA s (oA o)).2.1≠0 then(zS,(13,())) else if(bA s (oB o)).2.1≠0 then(zS,(13,())) else if bP (ib s o)≠0 then(zS,(15,())) else((ib s o,s.2),(0,())):StateT×(Int×Unit)),()):=by
    intro bc hbc;by_cases h3:(bA s (oA o)).2.1=0
    case neg =>
      have d:((bA s (oA o)).2.1 != 0)=true:=by simp[h3]
      rw[if_pos h3,d];rfl
    rw[if_neg (by simp[h3]),show((bA s (oA o)).2.1 != 0)=false by simp[h3]];by_cases h4:(bA s (oB o)).2.1=0
    case neg =>
      have d:((bA s (oB o)).2.1 != 0)=true:=by simp[h4]
      rw[if_pos h4,d];rfl
    rw[if_neg (by simp[h4]),show((bA s (oB o)).2.1 != 0)=false by simp[h4]];simp only[cond_false];have b3:=b2.bU bc (ba o,1);rw[←hbc]at b3;refine aa (afW hG s.1 (ba o,(e0,0)) (by omega)) ?_;refine aa (afY hG _ _ _ (b1.sm (by omega))) ?_;refine aa ((afY hG (bU (s.1.1,dH (ba o,(e0,0)) s.1.2) (bA s (oA o)).1 (ba o,0)) bc (ba o,1) (b2.sm (by omega))).trans (congrArg (fun z:ak=>some ((z,()),())) hbc.symm)) ?_;refine aa (alE hG (ib s o) (b3.sm (by omega)) (by have:=b3.e;omega)) ?_;by_cases h5:bP (ib s o)=0
    · simp_all
    · rw[if_pos h5]
      have d:(bP (ib s o) != 0)=true:=by simp[h5]
      simp only[d];rfl
  have hb:((((oB o).2.1.1==o.2.1.1)&&((oB o).2.1.2==o.2.1.2))&&((oB o).2.2==(0:Int)))=decide ((oB o).2=(ba o,0)):=lJ (oB o).2 (ba o,0);simp only[hb]
  cases h6:(bp s.1 (oB o).1).isSome
  · exact fin (bA s (oB o)).1 (by simp_all [ib,if_neg])
  · by_cases h7:(oB o).2=(ba o,0)
    · have d:=decide_eq_true h7
      simp only[d];exact fin (oB o) (by simp_all [ib,if_pos])
    · have d:=decide_eq_false h7
      simp only[d];exact fin (bA s (oB o)).1 (by simp_all [ib,if_neg])
def D4(s:StateT)(o:bq):StateT×(Int×Unit) :=if(hM s.1 (ba o)).isSome=false then(zS,(13,()))
 else((aM (aH (aH s.1 (ba o,0)) (ba o,1)) zI (ba o),bS (bS s.2 ((ba o,0),dk s.1 (ba o,0))) ((ba o,1),dk s.1 (ba o,1))),(0,()))
theorem alL(hG:HG G){n:Nat}(s:StateT)(o:bq)(hs:Bd n s.1)(hn:n≤4000000)(hg:s.2.length≤5000000):FX G 91 Ua ((s,o,()),())=some (D4 s o,()):=by
 have hv:=hs.v;have he:=hs.e;have YD:=hs.sm (by omega);refine av (hG _ _ rfl) ako ?_;refine aa (Yy (hG _ _ rfl) s.1 (ba o) (by omega)) ?_;rw[show(rG zE (hM s.1 (ba o))).2.1=(hM s.1 (ba o)).isSome from iZ _ _];unfold D4
 cases h1:(hM s.1 (ba o)).isSome
 case false=>rfl
 rw[if_neg (by simp)];have b1:=hs.aH (ba o,0);have b2:=b1.aH (ba o,1);have l1:=gX s.2 ((ba o,0),dk s.1 (ba o,0));refine aa (af1 hG s.1 (ba o,0) YD) ?_;refine aa (YB hG s.2 ((ba o,0),dk s.1 (ba o,0)) (by omega)) ?_;refine aa (af1 hG s.1 (ba o,1) YD) ?_;refine aa (YB hG (bS s.2 ((ba o,0),dk s.1 (ba o,0))) ((ba o,1),dk s.1 (ba o,1)) (by omega)) ?_;refine aa (af0 hG s.1 (ba o,0) YD) ?_;refine aa (af0 hG (aH s.1 (ba o,0)) (ba o,1) (b1.sm (by omega))) ?_;exact aa (Yz (hG _ _ rfl) (aH (aH s.1 (ba o,0)) (ba o,1)) zI (ba o) (by have:=b2.v;omega) (by have:=b2.e;omega)) rfl
def Li(o:bq):ab:=(ba o,IntKind.wrap .i64 (1-Int.tmod (oN o) 2))
def G1(o:bq):ab:=(bC o,IntKind.wrap .i64 (Int.tdiv (oN o) 2))
def Vp(s:StateT)(o:bq):ak :=(cW (fC o,(cp [Li o,G1 o],(e0,0))) (aE s.1 (Li o) (aj (G1 o))).1,dH (bC o,(e0,0)) (aE s.1 (Li o) (aj (G1 o))).2)
def kJ(s:StateT)(o:bq):StateT×(Int×Unit) :=if(hM s.1 (ba o)).isSome=false then(zS,(13,()))
 else if(bp s.1 (fC o)).isSome=true then(zS,(12,()))
 else if(hM s.1 (bC o)).isSome=true then(zS,(12,()))
 else if 24≤s.1.1.length then(zS,(3,()))
 else if 40≤s.1.2.length then(zS,(3,()))
 else((Vp s o,s.2),(0,()))
theorem alM(hG:HG G){n:Nat}(s:StateT)(o:bq)(hs:Bd n s.1)(hn:n≤4000000):FX G 92 Ub ((s,o,()),())=some (kJ s o,()):=by
 have hv:=hs.v;have he:=hs.e;have YD:=hs.sm (by omega);refine av (hG _ _ rfl) akp ?_;refine aa (Yy (hG _ _ rfl) s.1 (ba o) (by omega)) ?_;rw[show(rG zE (hM s.1 (ba o))).2.1=(hM s.1 (ba o)).isSome from iZ _ _];unfold kJ
 cases h1:(hM s.1 (ba o)).isSome
 case false=>rfl
 rw[if_neg (by simp)];refine aa (Fs (hG _ _ rfl) s.1 (fC o) (by omega)) ?_;rw[show(rG zV (bp s.1 (fC o))).2.1=(bp s.1 (fC o)).isSome from iZ _ _];refine aa (Yy (hG _ _ rfl) s.1 (bC o) (by omega)) ?_;rw[show(rG zE (hM s.1 (bC o))).2.1=(hM s.1 (bC o)).isSome from iZ _ _]
 cases h2:(bp s.1 (fC o)).isSome
 case true=>rfl
 rw[if_neg (by simp)]
 cases h3:(hM s.1 (bC o)).isSome
 case true=>rfl
 rw[if_neg (by simp)];by_cases h4:24≤s.1.1.length
 ·have d:decide (((s.1.1.length:Nat):Int)≥24)=true:=decide_eq_true (by omega);rw[if_pos h4];simp only[d];rfl
 have d4:decide (((s.1.1.length:Nat):Int)≥24)=false:=decide_eq_false (by omega);rw[if_neg h4];by_cases h5:40≤s.1.2.length
 ·have d:decide (((s.1.2.length:Nat):Int)≥40)=true:=decide_eq_true (by omega);rw[if_pos h5];simp only[d4,d];rfl
 have d5:decide (((s.1.2.length:Nat):Int)≥40)=false:=decide_eq_false (by omega);rw[if_neg h5];simp only[d4,d5];have d6:((2:Int)==0)=false:=rfl;simp only[d6];have b1:=hs.aE (Li o) (aj (G1 o));have b2:=b1.dH (bC o,(e0,0));refine aa (abZ (hG _ _ rfl) (G1 o)) ?_;refine aa (afZ hG s.1 (Li o) (aj (G1 o)) YD) ?_;refine aa (afW hG (aE s.1 (Li o) (aj (G1 o))) (bC o,(e0,0)) (by have:=b1.e;omega)) ?_;refine aa (La hG [Li o,G1 o] (by simp)) ?_;exact aa (afV hG ((aE s.1 (Li o) (aj (G1 o))).1,dH (bC o,(e0,0)) (aE s.1 (Li o) (aj (G1 o))).2) (fC o,(cp [Li o,G1 o],(e0,0))) (acz b1.v (by omega))) rfl
def oL(a b:ab)(i:Int):ab:=if(b.1,i)=aj b then a else zD
def Jo(g:List ax)(a b:ab):List ax:=bS (bS g ((b.1,0),oL a b 0)) ((b.1,1),oL a b 1)
def Jp(s:StateT)(o:bq)(a b:ab):ak:=aM (aE (aM s.1 (ba o) zI) (aj b) a) zI b.1
theorem alN(hG:HG G)(g:List ax)(a b:ab)(d:ak)(hg:g.length≤5000000) :
  LX G 93 Bk Tryz.f93 nh (aK Tryz.prog 93 0) ((g,((0:Int),())),(((([]:List ai),(([]:List ag),(([]:List ax),()))),((a,()),((b,()),((aj b,()),((d,()),()))))),()))=some (((d,Jo g a b),((0:Int),())),()):=by
 have l2:∀g2:List ax,LX G 93 Bk Tryz.f93 nh (aK Tryz.prog 93 0) ((g2,((2:Int),())),(((([]:List ai),(([]:List ag),(([]:List ax),()))),((a,()),((b,()),((aj b,()),((d,()),()))))),()))=some (((d,g2),((0:Int),())),()):=fun g2 =>ar UC (af rfl rfl);have step:∀(i:Int) (g1:List ax) (r:(StateT×(Int×Unit))×Unit),i<2→g1.length≤5000001→LX G 93 Bk Tryz.f93 nh (aK Tryz.prog 93 0) ((bS g1 ((b.1,i),oL a b i),(IntKind.wrap .i64 (i+1),())),(((([]:List ai),(([]:List ag),(([]:List ax),()))),((a,()),((b,()),((aj b,()),((d,()),()))))),()))=some r → LX G 93 Bk Tryz.f93 nh (aK Tryz.prog 93 0) ((g1,(i,())),(((([]:List ai),(([]:List ag),(([]:List ax),()))),((a,()),((b,()),((aj b,()),((d,()),()))))),()))=some r:=fun i g1 r hi hg1 h=>by
  refine ar UC ?_;refine ae (decide_eq_true hi) ?_;unfold oL at h;by_cases he:((b.1,i):ab)=aj b
  ·rw[if_pos he]at h;refine ae ((lJ (b.1,i) (aj b)).trans (decide_eq_true he)) ?_;refine aa (YB hG g1 ((b.1,i),a) (by omega)) ?_;exact h
  ·rw[if_neg he]at h;refine af ((lJ (b.1,i) (aj b)).trans (decide_eq_false he)) ?_;refine aa (YB hG g1 ((b.1,i),zD) (by omega)) ?_;exact h
 have a1:=gX g ((b.1,0),oL a b 0);refine step 0 g _ (by omega) (by omega) ?_;refine step 1 _ _ (by omega) (by omega) ?_;exact l2 _
def je(s:StateT)(o:bq)(r0 r1:ab):StateT×(Int×Unit) :=if r0.1=r1.1 then(zS,(14,()))
 else if r0.1=bC o then((Jp s o r1 r0,Jo s.2 r1 r0),(0,()))
 else if r1.1=bC o then((Jp s o r0 r1,Jo s.2 r0 r1),(0,()))
 else(zS,(14,()))
def j0(s:StateT)(o:bq):StateT×(Int×Unit):=match bp s.1 (ba o) with
 |none=>(zS,(13,()))
 |some v=>match v.2.1 with
  |[r0,r1]=>je s o r0 r1
  |_=>(zS,(14,()))
theorem alO(hG:HG G){n:Nat}(s:StateT)(o:bq)(hs:Bd n s.1)(hn:n≤4000000)(hg:s.2.length≤5000000):FX G 93 Bk ((s,o,()),())=some (j0 s o,()):=by
  have hv:=hs.v;have he:=hs.e;have YD:=hs.sm (by omega);refine av (hG _ _ rfl) akq ?_;refine aa (Fs (hG _ _ rfl) s.1 (ba o) (by omega)) ?_;unfold j0
  cases hf:bp s.1 (ba o) with
  |none=>rfl
  |some v =>
    refine af (show(!true)=false from rfl) ?_;have two:∀(a b:ab) (r:Option ((StateT×(Int×Unit))×Unit)),r=some (((Jp s o a b,Jo s.2 a b),((0:Int),())),()) →((FX G 131 Fi ((b,()),())).bind fun(y8:((ab×Unit)×Unit)) =>(FX G 89 qP ((s.1,(ba o,(zI,()))),())).bind fun(y9:((ak×Unit)×Unit)) =>(FX G 130 Kr ((y9.1.1,(y8.1.1,(a,()))),())).bind fun(nK:((ak×Unit)×Unit)) =>(FX G 89 qP ((nK.1.1,(zI,(b.1,()))),())).bind fun(lF:((ak×Unit)×Unit)) =>LX G 93 Bk Tryz.f93 nh (aK Tryz.prog 93 0) ((s.2,((0:Int),())),(((([]:List ai),(([]:List ag),(([]:List ax),()))),((a,()),((b,()),((y8.1.1,()),((lF.1.1,()),()))))),())))=r:=fun a b r hr=>by subst hr;have b1:=hs.aM (ba o) zI;have b2:=b1.aE (aj b) a;refine aa (abZ (hG _ _ rfl) b) ?_;refine aa (Yz (hG _ _ rfl) s.1 (ba o) zI (by omega) (by omega)) ?_;refine aa (afZ hG (aM s.1 (ba o) zI) (aj b) a (b1.sm (by omega))) ?_;refine aa (Yz (hG _ _ rfl) (aE (aM s.1 (ba o) zI) (aj b) a) zI b.1 (by have:=b2.v;omega) (by have:=b2.e;omega)) ?_;exact alN hG s.2 a b (Jp s o a b) hg
    obtain⟨vi,ring,vr⟩:=v;by_cases hl:ring.length=2
    case neg =>
      refine ae (show((((ring.length:Nat):Int)) != 2)=true by simp;omega) ?_
      match ring,hl with
      |[],_=>rfl
      |[_],_=>rfl
      |[_,_],h=>simp_all
      |_::_::_::_,_=>rfl
    match ring,hl with
    |[r0,r1],_ =>
      refine af (show((((2:Nat):Int)) != 2)=false from rfl) ?_;refine aa (show aS [r0,r1] 0=some r0 from rfl) ?_;refine aa (show aS [r0,r1] 1=some r1 from rfl) ?_;show _=some (je s o r0 r1,());unfold je;by_cases h1:r0.1=r1.1
      · rw[if_pos h1]
        exact ae ((lH r0.1 r1.1).trans (decide_eq_true h1)) rfl
      rw[if_neg h1];refine af ((lH r0.1 r1.1).trans (decide_eq_false h1)) ?_;refine aa (show aS [r0,r1] 0=some r0 from rfl) ?_;refine aa (show aS [r0,r1] 1=some r1 from rfl) ?_;by_cases h2:r0.1=bC o
      · rw[if_pos h2]
        refine ae ((lH r0.1 (bC o)).trans (decide_eq_true h2)) ?_;refine aa (show aS [r0,r1] 1=some r1 from rfl) ?_;refine aa (show aS [r0,r1] 0=some r0 from rfl) ?_;refine af (by simp_all) ?_;exact two r1 r0 _ rfl
      rw[if_neg h2];refine af ((lH r0.1 (bC o)).trans (decide_eq_false h2)) ?_;by_cases h3:r1.1=bC o
      · rw[if_pos h3]
        refine af (by simp_all) ?_;exact two r0 r1 _ rfl
      · rw[if_neg h3]
        exact ae (by grind) rfl
def ov(s:StateT)(o:bq):StateT×(Int×Unit) :=if(bp s.1 (ba o)).isSome=true then(zS,(12,())) else if 24≤s.1.1.length then(zS,(3,())) else(((cW (ba o,([],(e0,0))) s.1.1,s.1.2),s.2),(0,()))
def vq(s:StateT)(o:bq):StateT×(Int×Unit):=match bp s.1 (ba o) with
 |none=>(zS,(13,()))
 |some v=>if 0<v.2.1.length then(zS,(14,())) else((aM s.1 (ba o) zI,s.2),(0,()))
def ke(s:StateT)(o:bq):StateT×(Int×Unit) :=if cC o≠0 then(zS,(cC o,()))
 else if o.1=1 then ov s o else if o.1=2 then vq s o else if o.1=3 then ou s o else if o.1=4 then D4 s o else if o.1=5 then kJ s o else if o.1=6 then j0 s o else wg s o
theorem alP(hG:HG G){n:Nat}(s:StateT)(o:bq)(hs:Bd n s.1)(hn:n≤4000000)(hg:s.2.length≤5000000)(ht:we o):FX G 66 T5 ((s,o,()),())=some (ke s o,()):=by
 have hv:=hs.v;have he:=hs.e;refine av (hG _ _ rfl) ajX ?_;refine aa (af8 hG o ht) ?_;unfold ke;by_cases h0:cC o=0
 case neg =>
  rw[if_pos h0];exact ae (show(cC o != 0)=true by simp[h0]) rfl
 rw[if_neg (by simp[h0])];refine af (show(cC o != 0)=false by simp[h0]) ?_;refine aa (Fs (hG _ _ rfl) s.1 (ba o) (by omega)) ?_;by_cases h1:o.1=1
 ·rw[if_pos h1];refine ae (show(o.1==(1:Int))=true by simp[h1]) ?_;rw[show(rG zV (bp s.1 (ba o))).2.1=(bp s.1 (ba o)).isSome from iZ _ _];unfold ov
  cases hf:(bp s.1 (ba o)).isSome
  ·rw[if_neg (by simp)];refine af rfl ?_;by_cases h4:24≤s.1.1.length
   ·rw[if_pos h4];exact ae (decide_eq_true (show((s.1.1.length:Nat):Int)≥24 by omega)) rfl
   ·rw[if_neg h4];refine af (decide_eq_false (show ¬((s.1.1.length:Nat):Int)≥24 by omega)) ?_;exact aa (afV hG s.1 (ba o,([],(e0,0))) (by omega)) rfl
  rfl
 rw[if_neg h1];refine af (show(o.1==(1:Int))=false by simp[h1]) ?_;by_cases h2:o.1=2
 ·rw[if_pos h2];refine ae (show(o.1==(2:Int))=true by simp[h2]) ?_;unfold vq
  cases hf:bp s.1 (ba o) with
  |none=>rfl
  |some v =>
   refine af (show(!true)=false from rfl) ?_;by_cases h4:0<v.2.1.length
   ·show _=some ((if 0<v.2.1.length then(zS,(14,())) else((aM s.1 (ba o) zI,s.2),(0,())):StateT×(Int×Unit)),());rw[if_pos h4];exact ae (decide_eq_true (show((v.2.1.length:Nat):Int)>0 by omega)) rfl
   ·show _=some ((if 0<v.2.1.length then(zS,(14,())) else((aM s.1 (ba o) zI,s.2),(0,())):StateT×(Int×Unit)),());rw[if_neg h4];refine af (decide_eq_false (show ¬((v.2.1.length:Nat):Int)>0 by omega)) ?_;exact aa (Yz (hG _ _ rfl) s.1 (ba o) zI (by omega) (by omega)) rfl
 rw[if_neg h2];refine af (show(o.1==(2:Int))=false by simp[h2]) ?_;by_cases h3:o.1=3
 ·rw[if_pos h3];refine ae (show(o.1==(3:Int))=true by simp[h3]) ?_;exact aa (alK hG s o hs hn (by omega)) rfl
 rw[if_neg h3];refine af (show(o.1==(3:Int))=false by simp[h3]) ?_;by_cases h4:o.1=4
 ·rw[if_pos h4];refine ae (show(o.1==(4:Int))=true by simp[h4]) ?_;exact aa (alL hG s o hs hn hg) rfl
 rw[if_neg h4];refine af (show(o.1==(4:Int))=false by simp[h4]) ?_;by_cases h5:o.1=5
 ·rw[if_pos h5];refine ae (show(o.1==(5:Int))=true by simp[h5]) ?_;exact aa (alM hG s o hs hn) rfl
 rw[if_neg h5];refine af (show(o.1==(5:Int))=false by simp[h5]) ?_;by_cases h6:o.1=6
 ·rw[if_pos h6];refine ae (show(o.1==(6:Int))=true by simp[h6]) ?_;exact aa (alO hG s o hs hn hg) rfl
 rw[if_neg h6];refine af (show(o.1==(6:Int))=false by simp[h6]) ?_;exact aa (alJ hG s o (hs.sm (by omega))) rfl
structure Bs(n:Nat)(s:StateT):Prop where
 d:Bd n s.1
 g:s.2.length≤n
theorem Bs.mono{n m:Nat}{s:StateT}(h:Bs n s)(hm:n≤m):Bs m s:=⟨h.d.mono hm,by have:=h.g;omega⟩
theorem Bs.zero(n:Nat):Bs n zS:=⟨⟨adl _,adl _,fun w hw=>by simp[zS]at hw⟩,adl _⟩
theorem Bs.one{n:Nat}{s:StateT}(h:Bs n s)(o:bq):Bs (n+3) (ke s o).1:=by
 have h1:=h.d;have h2:=h.g;unfold ke
 split
 ·exact Bs.zero _
 split
 ·unfold ov;split
  ·exact Bs.zero _
  split
  ·exact Bs.zero _
  ·exact⟨(h1.cW _ (by simp)).mono (by omega),by grind⟩
 split
 ·unfold vq
  cases bp s.1 (ba o) with
  |none=>exact Bs.zero _
  |some v =>
   simp only
   split
   ·exact Bs.zero _
   ·exact⟨(h1.aM _ _).mono (by omega),by grind⟩
 split
 ·unfold ou
  split;· exact Bs.zero _
  split;· exact Bs.zero _
  split;· exact Bs.zero _
  split;· exact Bs.zero _
  split;· exact Bs.zero _
  exact⟨by unfold ib;exact((h1.dH _).bU _ _).bU _ _,by grind⟩
 split
 ·unfold D4
  split;· exact Bs.zero _
  refine⟨(((h1.aH _).aH _).aM _ _).mono (by omega),?_⟩;have a1:=gX s.2 ((ba o,0),dk s.1 (ba o,0));have a2:=gX (bS s.2 ((ba o,0),dk s.1 (ba o,0))) ((ba o,1),dk s.1 (ba o,1))
  grind
 split
 ·unfold kJ
  split;· exact Bs.zero _
  split;· exact Bs.zero _
  split;· exact Bs.zero _
  split;· exact Bs.zero _
  split;· exact Bs.zero _
  refine⟨?_,by grind⟩;have b2:=((h1.aE (Li o) (aj (G1 o))).dH (bC o,(e0,0)));exact(b2.cW (fC o,(cp [Li o,G1 o],(e0,0))) (by simp[jD])).mono (by omega)
 split
 ·unfold j0;have key:∀a b:ab,Bs (n+3) (Jp s o a b,Jo s.2 a b):=fun a b=>by
   refine⟨(((h1.aM _ _).aE _ _).aM _ _).mono (by omega),?_⟩
   grind [gX,oL,bS,Jo]
  grind [Bs.zero,je]
 ·unfold wg
  split
  ·refine⟨⟨by simp;have:=h1.v;omega,by simp;have:=h1.e;omega,fun w hw=>?_⟩,by grind⟩;obtain⟨u,hu,rfl⟩:=ace.1 hw;have hr:=h1.r u hu
   grind [iO]
  ·exact Bs.zero _
def D5:List bq→StateT→StateT×(Int×Unit)
 |[],s=>(s,(0,()))
 |o::r,s=>if(ke s o).2.1≠0 then(zS,(ke s o).2) else D5 r (ke s o).1
def cV(s:StateT)(l:List bq):StateT×(Int×Unit):=if c8 l≠0 then(zS,(c8 l,())) else D5 l s
theorem Bs.go{l:List bq}:∀{n:Nat} {s:StateT},Bs n s→Bs (n+3*l.length) (D5 l s).1:=by
 induction l with
 |nil=>intro n s h;exact h.mono (by simp)
 |cons o r ih =>
  intro n s h;unfold D5
  split
  ·exact Bs.zero _
  ·exact(ih (h.one o)).mono (by simp;omega)
theorem alQ(hG:HG G){n:Nat}(s:StateT)(l:List bq)(hs:Bs n s)(hn:n+3*l.length≤3000000)(ht:∀o∈l,we o):FX G 41 Kj ((s,l,()),())=some (cV s l,()):=by
 refine av (hG _ _ rfl) akd ?_;refine aa (alI hG l ht) ?_;unfold cV;by_cases h0:c8 l=0
 case neg =>
  rw[if_pos h0];exact ae (show(c8 l != 0)=true by simp[h0]) rfl
 rw[if_neg (by simp[h0])];refine af (show(c8 l != 0)=false by simp[h0]) ?_;have key:=br l (fun i (s:StateT)=>LX G 41 Kj Tryz.f41 DC (aK Tryz.prog 41 0) ((i,()),(((s,()),((l,()),((([]:List ai),(([]:List ag),(([]:List ax),()))),()))),()))) (fun(r:List bq) (s:StateT)=>(D5 r s,())) (fun m s=>∃k,Bs k s∧k+3*m≤3000000) (fun s _=>by exact ar Uv (af (cy _) rfl)) (fun i o r s hi hx xT hk ih=>by
   obtain⟨k,hb,hk⟩:=hk;refine ar Uv ?_;refine ae (aT hi) ?_;refine aa (aA hx) ?_;have hbd:=hb.d;have hbg:=hb.g;refine aa (alP hG s o hbd (by omega) (by omega) (ht o (acw hx))) ?_;rw[D5];by_cases h1:(ke s o).2.1=0
   ·rw[if_neg (by simp[h1])];refine af (show((ke s o).2.1 != 0)=false by simp[h1]) ?_;rw[wI,aD hi (show l.length≤1073741824 by omega)];exact ih (ke s o).1 ⟨k+3,hb.one o,by omega⟩
   ·rw[if_pos h1];exact ae (show((ke s o).2.1 != 0)=true by simp[h1]) rfl)
  s ⟨n,hs,hn⟩
 exact key
def il(s:StateT)(l:List bq):StateT:=if(cV s l).2.1≠0 then s else(cV s l).1
theorem alR(hG:HG G){n:Nat}(s:StateT)(l:List bq)(hs:Bs n s)(hn:n+3*l.length≤3000000)(ht:∀o∈l,we o):FX G 26 T7 ((s,l,()),())=some ((il s l,()),()):=by
 refine av (hG _ _ rfl) akf ?_;refine aa (alQ hG s l hs hn ht) ?_;unfold il;by_cases h1:(cV s l).2.1=0
 ·rw[if_neg (by simp[h1])];exact af (show((cV s l).2.1 != 0)=false by simp[h1]) rfl
 ·rw[if_pos h1];exact ae (show((cV s l).2.1 != 0)=true by simp[h1]) rfl
theorem Bs.try{n:Nat}{s:StateT}{l:List bq}(h:Bs n s):Bs (n+3*l.length) (il s l):=by
 unfold il
 split
 ·exact h.mono (by omega)
 ·unfold cV
  split
  ·exact Bs.zero _
  ·exact h.go
def nt:Nat→List (List bq)→StateT→StateT
 |0,_,s=>s
 |_+1,[],s=>s
 |n+1,l::r,s=>nt n r (il s (l.take 8))
def D6(l:List (List bq)):StateT:=nt 30 l zS
theorem Bs.reach:∀(m:Nat) (l:List (List bq)) {n:Nat} {s:StateT},Bs n s→Bs (n+24*m) (nt m l s)
 |0,_,n,s,h=>by grind [nt]
 |m+1,[],n,s,h=>h.mono (by omega)
 |m+1,l::r,n,s,h=>by
  rw[nt];have h1:Bs (n+3*(l.take 8).length) (il s (l.take 8)):=h.try;have hl:(l.take 8).length≤8:=by simp;omega
  exact(Bs.reach m r (h1.mono (show n+3*(l.take 8).length≤n+24 by omega))).mono (by omega)
theorem Bs.Pf(l:List (List bq)):Bs 720 (D6 l):=(Bs.reach 30 l (Bs.zero 0)).mono (by omega)
end Go.Vs
