/- What the document's reference -/
import Derived.Test.YtoleelddkocpkaaGreatRefA
set_option linter.unusedVariables false
set_option linter.unusedSimpArgs false
namespace Go.Vs
open Go.Proofs
variable {G:(f:FuncId)→(g:aP)→Option (g.A→Option g.B)}
def BR(x:ID):List ai→Int→Int
 |[],_ => -1
 |v::r,i=>if v.1=x then i else BR x r (i+1)
theorem Nh(x:ID):∀(l:List ai) (i:Int),0≤i→BR x l i = -1∨(i≤BR x l i∧BR x l i<i+l.length)
 |[],i,_=>.inl rfl
 |v::r,i,h=>by
  unfold BR
  split
  ·right;simp;omega
  ·rcases Nh x r (i+1) (by omega) with h|h
   ·exact .inl h
   ·right;simp;omega
theorem afT(hG:G 227 Fq=none)(d:an)(x:ID)(hs:Sm d):FX G 227 Fq ((d,x,()),())=some ((BR x d.1 0,()),()):=by
 have hv:=hs.v;refine av hG akp ?_;have loop:∀(n i:Nat),i+n=d.1.length→LX G 227 Fq Tryz.f227 DC (aF Tryz.prog 227 0) (((i:Int),()),(((d,()),((x,()),())),()))=some ((BR x (d.1.drop i) i,()),()):=by
  intro n
  induction n with
  |zero =>
   intro i hi;refine ar Us ?_;have h1:¬((i:Int)<(d.1.length:Int)):=by omega
   have h2:d.1.drop i=[]:=adm (by omega);rw[h2];simp only[h1,decide_false];rfl
  |succ n ih =>
   intro i hi;refine ar Us ?_;have aH:i<d.1.length:=by omega
   have h2:d.1.drop i=d.1[i]::d.1.drop (i+1):=ac8 aH;have hx:d.1[i]? = some d.1[i]:=aby aH;rw[h2,BR];simp only[aN aH,aw hx,Option.bind_some,j5,aA aH (show d.1.length≤1073741824 by omega)];by_cases he:d.1[i].1=x
   ·have d1:=decide_eq_true he;rw[if_pos he];simp only[d1];rfl
   ·have d1:=decide_eq_false he;rw[if_neg he];simp only[d1];exact ih (i+1) (by omega)
 exact loop d.1.length 0 (by omega)
def IV(d:an)(e:ak)(out:List Int):List Int :=
 let a:=BR ((cg d (e.1,0)).getD zI) d.1 0
 let b:=BR ((cg d (e.1,1)).getD zI) d.1 0
 if 0≤a∧0≤b then(out.set a.toNat (min (out.getD a.toNat 0) (out.getD b.toNat 0))).set b.toNat (min (out.getD a.toNat 0) (out.getD b.toNat 0)) else out
def kb(d:an):List ak→List Int→List Int
 |[],out=>out
 |e::r,out=>kb d r (IV d e out)
def Lg(d:an):Nat→List Int→List Int
 |0,out=>out
 |n+1,out=>Lg d n (kb d d.2 out)
def Fy(n:Nat):List Int:=(List.range n).map fun i=>((i:Nat):Int)
def labels(d:an):List Int:=Lg d d.1.length (Fy d.1.length)
theorem Lh(d:an)(e:ak)(out:List Int):(IV d e out).length=out.length:=by
 grind [IV]
theorem xV(d:an):∀(l:List ak) (out:List Int),(kb d l out).length=out.length
 |[],out=>rfl
 |e::r,out=>by rw[kb,xV d r,Lh]
theorem AR(d:an):∀(n:Nat) (out:List Int),(Lg d n out).length=out.length
 |0,out=>rfl
 |n+1,out=>by rw[Lg,AR d n,xV]
theorem Fz(d:an):(labels d).length=d.1.length:=by grind [labels,AR,Fy]
theorem abR(hG:HG G)(d:an)(hs:Sm d)(n:Int)(R:List Int→List Int) (hR:∀out:List Int,out.length=d.1.length→LX G 211 uK Tryz.f211 ze (aF Tryz.prog 211 1) ((IntKind.wrap .i64 (n+1),()),(((d,()),()),(out,())))=some ((R out,()),())) :
  ∀out:List Int,out.length=d.1.length→LX G 211 uK Tryz.f211 sI (aF Tryz.prog 211 2) ((n,((0:Int),())),(((d,()),()),(out,())))=some ((R (kb d d.2 out),()),()):=by
 have hv:=hs.v;have he:=hs.e;have loop:∀(m i:Nat) (out:List Int),i+m=d.2.length→out.length=d.1.length→LX G 211 uK Tryz.f211 sI (aF Tryz.prog 211 2) ((n,((i:Int),())),(((d,()),()),(out,())))=some ((R (kb d (d.2.drop i) out),()),()):=by
  intro m
  induction m with
  |zero =>
   intro i out hi ho;have h1:¬((i:Int)<(d.2.length:Int)):=by omega
   have h2:d.2.drop i=[]:=adm (by omega);rw[h2,kb];refine ar Uv ?_;simp only[h1,decide_false];exact hR out ho
  |succ m ih =>
   intro i out hi ho;have aH:i<d.2.length:=by omega
   have h2:d.2.drop i=d.2[i]::d.2.drop (i+1):=ac8 aH;have hx:d.2[i]? = some d.2[i]:=aby aH;rw[h2,kb];generalize d.2[i]=e at *;refine ar Uv ?_;simp only[aN aH,aw hx,Option.bind_some,aA aH (show d.2.length≤1073741824 by omega)];refine aa (Lf hG d (e.1,0) (by omega) (fun w hw=>by have:=hs.r w hw;omega)) ?_;refine aa (Lf hG d (e.1,1) (by omega) (fun w hw=>by have:=hs.r w hw;omega)) ?_;rw[show(qL zI (cg d (e.1,0))).1=(cg d (e.1,0)).getD zI from kO _ _,show(qL zI (cg d (e.1,1))).1=(cg d (e.1,1)).getD zI from kO _ _];refine aa (afT (hG _ _ rfl) d ((cg d (e.1,0)).getD zI) hs) ?_;refine aa (afT (hG _ _ rfl) d ((cg d (e.1,1)).getD zI) hs) ?_;have hL:IV d e out=(if 0≤BR ((cg d (e.1,0)).getD zI) d.1 0∧0≤BR ((cg d (e.1,1)).getD zI) d.1 0 then(out.set (BR ((cg d (e.1,0)).getD zI) d.1 0).toNat (min (out.getD (BR ((cg d (e.1,0)).getD zI) d.1 0).toNat 0) (out.getD (BR ((cg d (e.1,1)).getD zI) d.1 0).toNat 0))).set (BR ((cg d (e.1,1)).getD zI) d.1 0).toNat (min (out.getD (BR ((cg d (e.1,0)).getD zI) d.1 0).toNat 0) (out.getD (BR ((cg d (e.1,1)).getD zI) d.1 0).toNat 0)) else out):=rfl;have ha:=Nh ((cg d (e.1,0)).getD zI) d.1 0 (by omega);have hb:=Nh ((cg d (e.1,1)).getD zI) d.1 0 (by omega);generalize BR ((cg d (e.1,0)).getD zI) d.1 0=a at *;generalize BR ((cg d (e.1,1)).getD zI) d.1 0=b at *;by_cases h3:0≤a
   case neg =>
    have d3:decide (a≥0)=false:=decide_eq_false h3;rw[hL,if_neg (by omega)];simp only[d3];exact ih (i+1) out (by omega) ho
   have d3:decide (a≥0)=true:=decide_eq_true h3;by_cases h4:0≤b
   case neg =>
    have d4:decide (b≥0)=false:=decide_eq_false h4;rw[hL,if_neg (by omega)];simp only[d3,d4];exact ih (i+1) out (by omega) ho
   have d4:decide (b≥0)=true:=decide_eq_true h4;rw[if_pos ⟨h3,h4⟩]at hL;have hal:a.toNat<out.length:=by omega
   have hbl:b.toNat<out.length:=by omega
   have xa:out[a.toNat]? = some out[a.toNat]:=aby hal;have xb:out[b.toNat]? = some out[b.toNat]:=aby hbl;have ga:out.getD a.toNat 0=out[a.toNat]:=by grind
   have gb:out.getD b.toNat 0=out[b.toNat]:=by grind
   rw[ga,gb]at hL;generalize out[a.toNat]=p at *;generalize out[b.toNat]=q at *;have d5:decide ((0:Int)≤a)=true:=decide_eq_true h3;have d6:decide ((0:Int)≤b)=true:=decide_eq_true h4;have d7:decide (a<((out.length:Nat):Int))=true:=decide_eq_true (by omega);have d8:decide (b<((out.length:Nat):Int))=true:=decide_eq_true (by omega);have hbs:b.toNat<(out.set a.toNat (min p q)).length:=by simp_all
   have d9:decide (b<(((out.set a.toNat (min p q)).length:Nat):Int))=true:=decide_eq_true (by simp;omega);have xs:(out.set a.toNat (min p q))[b.toNat]? = some (out.set a.toNat (min p q))[b.toNat]:=aby hbs;simp only[d3,d4,d5,d6,d7,d8,Bool.and_self,xa,xb,Option.bind_some,d9,xs];rw[hL];exact ih (i+1) ((out.set a.toNat (min p q)).set b.toNat (min p q)) (by omega) (by simp[ho])
 intro out ho;exact loop d.2.length 0 out (by omega) ho
theorem alA(hG:HG G)(d:an)(hs:Sm d):FX G 211 uK ((d,()),())=some ((labels d,()),()):=by
 have hv:=hs.v;refine av (hG _ _ rfl) akq ?_;have l1:∀(n i:Nat) (out:List Int),i+n=d.1.length→out.length=d.1.length→LX G 211 uK Tryz.f211 ze (aF Tryz.prog 211 1) (((i:Int),()),(((d,()),()),(out,())))=some ((Lg d n out,()),()):=by
  intro n
  induction n with
  |zero =>
   intro i out hi ho;refine ar Uu ?_;have h1:¬((i:Int)<(d.1.length:Int)):=by omega
   simp only[h1,decide_false];rfl
  |succ n ih =>
   intro i out hi ho;refine ar Uu ?_;have aH:i<d.1.length:=by omega
   simp only[aN aH];exact abR hG d hs (i:Int) (Lg d n) (fun out ho=>by rw[aA aH (show d.1.length≤1073741824 by omega)];exact ih (i+1) out (by omega) ho) out ho
 have l0:∀(n i:Nat) (out:List Int),i+n=d.1.length→out=Fy i→LX G 211 uK Tryz.f211 DD (aF Tryz.prog 211 0) (((i:Int),()),(((d,()),()),(out,())))=some ((labels d,()),()):=by
  intro n
  induction n with
  |zero =>
   intro i out hi ho;refine ar Ut ?_;have h1:¬((i:Int)<(d.1.length:Int)):=by omega
   have yl:i=d.1.length:=by omega
   subst yl;simp only[h1,decide_false];have:=l1 d.1.length 0 out (by omega) (by grind [Fy]);rw[ho]at this ⊢;exact this
  |succ n ih =>
   intro i out hi ho;refine ar Ut ?_;have aH:i<d.1.length:=by omega
   have h6:aK out.length [(i:Int)].length=true:=fits (by rw[ho];simp[Fy];omega);simp only[aN aH,h6,aA aH (show d.1.length≤1073741824 by omega)];exact ih (i+1) (out++[(i:Int)]) (by omega) (by rw[ho];simp[Fy,List.range_succ])
 exact l0 d.1.length 0 [] (by omega) (by simp[Fy])
def qM:List Int→Int→Int→Int
 |[],_,n=>n
 |x::r,i,n=>qM r (i+1) (if x=i then IntKind.wrap .i64 (n+1) else n)
def fe(d:an):Int:=qM (labels d) 0 0
theorem alB(hG:HG G)(d:an)(hs:Sm d):FX G 186 Kt ((d,()),())=some ((fe d,()),()):=by
 have hv:=hs.v;have hl:=Fz d;refine av (hG _ _ rfl) aj6 ?_;refine aa (alA hG d hs) ?_;unfold fe;generalize labels d=l at *;have loop:∀(m i:Nat) (n:Int),i+m=l.length→LX G 186 Kt Tryz.f186 y0 (aF Tryz.prog 186 0) ((n,((i:Int),())),((),(l,())))=some ((qM (l.drop i) i n,()),()):=by
  intro m
  induction m with
  |zero =>
   intro i n hi;refine ar Ug ?_;have h1:¬((i:Int)<(l.length:Int)):=by omega
   have h2:l.drop i=[]:=adm (by omega);rw[h2];simp only[h1,decide_false];rfl
  |succ m ih =>
   intro i n hi;refine ar Ug ?_;have aH:i<l.length:=by omega
   have h2:l.drop i=l[i]::l.drop (i+1):=ac8 aH;have hx:l[i]? = some l[i]:=aby aH;rw[h2,qM];simp only[aN aH,fq,Bool.and_self,Int.toNat_natCast,hx,Option.bind_some,aA aH (show l.length≤1073741824 by omega)];by_cases he:l[i]=(i:Int)
   ·have d1:(l[i]==(i:Int))=true:=by simp[he]
    rw[if_pos he];simp only[d1];exact ih (i+1) _ (by omega)
   ·have d1:(l[i]==(i:Int))=false:=by simp[he]
    rw[if_neg he];simp only[d1];exact ih (i+1) _ (by omega)
 exact loop l.length 0 0 (by omega)
def vZ:List ai→Int→Int
 |[],n=>n
 |v::r,n=>vZ r (if v.2.1.length=0 then IntKind.wrap .i64 (n+1) else n)
def D2(d:an):Int:=vZ d.1 ((((bV d).length:Nat)):Int)
theorem alC(hG:HG G)(d:an)(hs:Sm d)(he:d.2.length≤5000000):FX G 149 Ix ((d,()),())=some ((((d.1.length:Nat):Int),(((d.2.length:Nat):Int),(D2 d,(fe d,())))),()):=by
 have hv:=hs.v;refine av (hG _ _ rfl) akU ?_;refine aa (alz hG d hs he) ?_;unfold D2;show LX G 149 Ix Tryz.f149 vT (aF Tryz.prog 149 0) ((lI (bV d),((0:Int),())),(((d,()),()),()))=_;unfold lI;generalize (((bV d).length:Nat):Int)=f0;have key:=bf d.1 (fun i (n:Int)=>LX G 149 Ix Tryz.f149 vT (aF Tryz.prog 149 0) ((n,(i,())),(((d,()),()),()))) (fun(r:List ai) (n:Int)=>((((d.1.length:Nat):Int),(((d.2.length:Nat):Int),(vZ r n,(fe d,())))),())) (fun _ _=>True) (fun n _=>by refine ar UN ?_;simp only[bX];exact aa (alB hG d hs) rfl) (fun i y r n hi hx uN _ ih=>by
   refine ar UN ?_;simp only[aN hi,aw hx,Option.bind_some,aA hi (show d.1.length≤1073741824 by omega)];by_cases he:y.2.1.length=0
   ·have d1:((((y.2.1.length:Nat)):Int)==0)=true:=by simp[he]
    simp only[d1,vZ,if_pos he];simp_all
   ·have d1:((((y.2.1.length:Nat)):Int)==0)=false:=by simp_all
    simp only[d1,vZ,if_neg he];simp_all)
  f0 trivial
 exact key
def bH(d:an):Int:=IntKind.wrap .i64 (Int.tdiv (IntKind.wrap .i64 (IntKind.wrap .i64 (IntKind.wrap .i64 (IntKind.wrap .i64 (2*fe d)-((d.1.length:Nat):Int))+((d.2.length:Nat):Int))-D2 d)) 2)
theorem abS(hG:HG G)(d:an)(hs:Sm d)(he:d.2.length≤5000000):FX G 99 Is ((d,()),())=some ((bH d,()),()):=by refine av (hG _ _ rfl) aky ?_;exact aa (alC hG d hs he) rfl
theorem YF{s:ByteArray}{i:Nat}{c:UInt8}(h:s.data.toList[i]? = some c):(if(0:Int)≤(i:Int) then s[Int.toNat (i:Int)]? else none)=some c:=by
 have hi:i<s.size:=by have:=(abJ.1 h).1;simp_all
 rw[if_pos (by omega),Int.toNat_natCast,getElem?_pos s i hi];have h2:=(abJ.1 h).2;rw[←h2];rfl
def lu(c:UInt8):Bool:=decide (32≤c.toNat)&&decide (c.toNat≤126)
def iM(s:ByteArray):Bool:=s.data.toList.all lu&&decide (s.size≤16)
theorem abT(hG:G 122 yY=none)(s:ByteArray)(hs:s.size≤100000000):FX G 122 yY ((s,()),())=some ((iM s,()),()):=by
 refine av hG aj2 ?_;have hl:s.data.toList.length=s.size:=by simp
 have key:=bf s.data.toList (fun i (_:Unit)=>LX G 122 yY Tryz.f122 Dv (aF Tryz.prog 122 0) ((s,(i,())),((),()))) (fun(r:List UInt8) (_:Unit)=>((r.all lu&&decide (s.size≤16),()),())) (fun _ _=>True) (fun _ _=>by
   refine ar Ue ?_;rw[hl];have h2:decide (((s.size:Nat):Int)≤16)=decide (s.size≤16):=by
    grind
   simp only[bX,h2,List.all_nil,Bool.true_and];rfl)
  (fun i c r _ hi hx uN _ ih=>by
   refine ar Ue ?_;rw[hl]at hi;have hb:=YF hx;simp only[aN hi,hb,Option.bind_some,aA hi (show s.size≤1073741824 by omega)];by_cases h1:c.toNat<32
   ·have d1:decide (((c.toNat:Nat):Int)<32)=true:=decide_eq_true (by omega);have d2:lu c=false:=by grind [lu]
    simp only[d1,List.all_cons,d2,Bool.false_and];rfl
   ·have d1:decide (((c.toNat:Nat):Int)<32)=false:=decide_eq_false (by omega);by_cases h2:126<c.toNat
    ·have d2:decide (((c.toNat:Nat):Int)>126)=true:=decide_eq_true (by omega);have d3:lu c=false:=by grind [lu]
     simp only[d1,d2,List.all_cons,d3,Bool.false_and];rfl
    ·have d2:decide (((c.toNat:Nat):Int)>126)=false:=decide_eq_false (by omega);have d3:lu c=true:=by grind [lu]
     simp only[d1,d2,List.all_cons,d3,Bool.true_and];exact ih () trivial)
  () trivial
 exact key
def ic(n:Int):Bool:=decide (-1099511627776≤n∧n≤1099511627776)
theorem abU(hG:G 121 A9=none)(n:Int):FX G 121 A9 ((n,()),())=some ((ic n,()),()):=by
 refine av hG aj3 ?_;show(cond (decide (n≥-1099511627776)) (some ((decide (n≤1099511627776),()),())) (some ((false,()),())):Option ((Bool×Unit)×Unit))=some ((ic n,()),())
 grind [ic]
def Bk(c:rj):Bool:=cr c.1&&(ou c.2 || decide (c.2=zD))
theorem afU(hG:HG G)(c:rj):FX G 120 Re ((c,()),())=some ((Bk c,()),()):=by
 refine av (hG _ _ rfl) akD ?_;refine aa (Fw (hG _ _ rfl) c.1) ?_;refine aa (alp hG c.2) ?_;have hb:(((c.2.1.1==(0:Int))&&(c.2.1.2==(0:Int)))&&(c.2.2==(0:Int)))=decide (c.2=zD):=lJ c.2 zD;unfold Bk;simp only[hb]
 cases h1:cr c.1<;>cases h2:ou c.2<;>rfl
def zOp:bj:=(0,(zI,(zI,(zI,(zC,(zC,(false,(e0,0))))))))
def xW(o:bj):bj :=if o.1=3 then(0,(zI,(o.2.2.1,(o.2.2.2.1,(zC,(zC,(o.2.2.2.2.2.2.1,o.2.2.2.2.2.2.2)))))))
 else if o.1=5 then(0,(zI,(zI,(zI,(o.2.2.2.2.1,(o.2.2.2.2.2.1,(o.2.2.2.2.2.2.1,(o.2.2.2.2.2.2.2.1,0))))))))
 else if o.1=6 then(0,(zI,(o.2.2.1,(zI,(o.2.2.2.2.1,(o.2.2.2.2.2.1,(o.2.2.2.2.2.2.1,o.2.2.2.2.2.2.2)))))))
 else if o.1=7 then(0,(zI,(o.2.2.1,(o.2.2.2.1,(o.2.2.2.2.1,(o.2.2.2.2.2.1,(false,(e0,o.2.2.2.2.2.2.2.2))))))))
 else if o.1=8 then(0,(zI,(o.2.2.1,(o.2.2.2.1,(o.2.2.2.2.1,(o.2.2.2.2.2.1,(false,(o.2.2.2.2.2.2.2.1,0))))))))
 else(0,(zI,(o.2.2.1,(o.2.2.2.1,(o.2.2.2.2.1,(o.2.2.2.2.2.1,(o.2.2.2.2.2.2.1,o.2.2.2.2.2.2.2)))))))
theorem alD(hG:G 119 Rd=none)(o:bj):FX G 119 Rd ((o,()),())=some ((xW o,()),()):=by
 refine av hG akC ?_;unfold xW;by_cases h3:o.1=3
 ·have d:(o.1==(3:Int))=true:=by simp[h3]
  rw[if_pos h3];simp only[d];rfl
 have d3:(o.1==(3:Int))=false:=by simp[h3]
 rw[if_neg h3];by_cases h5:o.1=5
 ·have d:(o.1==(5:Int))=true:=by simp[h5]
  rw[if_pos h5];simp only[d3,d];rfl
 have d5:(o.1==(5:Int))=false:=by simp[h5]
 rw[if_neg h5];by_cases h6:o.1=6
 ·have d:(o.1==(6:Int))=true:=by simp[h6]
  rw[if_pos h6];simp only[d3,d5,d];rfl
 have d6:(o.1==(6:Int))=false:=by simp[h6]
 rw[if_neg h6];by_cases h7:o.1=7
 ·have d:(o.1==(7:Int))=true:=by simp[h7]
  rw[if_pos h7];simp only[d3,d5,d6,d];rfl
 have d7:(o.1==(7:Int))=false:=by simp[h7]
 rw[if_neg h7];by_cases h8:o.1=8
 ·have d:(o.1==(8:Int))=true:=by simp[h8]
  rw[if_pos h8];simp only[d3,d5,d6,d7,d];rfl
 have d8:(o.1==(8:Int))=false:=by simp[h8]
 rw[if_neg h8];simp only[d3,d5,d6,d7,d8];rfl
def Bl(x y:bj):Bool :=(x.1==y.1)&&(((x.2.1.1==y.2.1.1)&&(x.2.1.2==y.2.1.2))&&(((x.2.2.1.1==y.2.2.1.1)&&(x.2.2.1.2==y.2.2.1.2))&&(((x.2.2.2.1.1==y.2.2.2.1.1)&&(x.2.2.2.1.2==y.2.2.2.1.2)) && ((((x.2.2.2.2.1.1.1==y.2.2.2.2.1.1.1)&&(x.2.2.2.2.1.1.2==y.2.2.2.2.1.1.2))&&(((x.2.2.2.2.1.2.1.1==y.2.2.2.2.1.2.1.1)&&(x.2.2.2.2.1.2.1.2==y.2.2.2.2.1.2.1.2))&&(x.2.2.2.2.1.2.2==y.2.2.2.2.1.2.2))) && ((((x.2.2.2.2.2.1.1.1==y.2.2.2.2.2.1.1.1)&&(x.2.2.2.2.2.1.1.2==y.2.2.2.2.2.1.1.2))&&(((x.2.2.2.2.2.1.2.1.1==y.2.2.2.2.2.1.2.1.1)&&(x.2.2.2.2.2.1.2.1.2==y.2.2.2.2.2.1.2.1.2))&&(x.2.2.2.2.2.1.2.2==y.2.2.2.2.2.1.2.2))) && ((x.2.2.2.2.2.2.1==y.2.2.2.2.2.2.1)&&((x.2.2.2.2.2.2.2.1==y.2.2.2.2.2.2.2.1)&&(x.2.2.2.2.2.2.2.2==y.2.2.2.2.2.2.2.2))))))))
theorem Li(x y:bj):Bl x y=true↔x=y:=by obtain⟨x1,⟨x2,x3⟩,⟨x4,x5⟩,⟨x6,x7⟩,⟨⟨x8,x9⟩,⟨x10,x11⟩,x12⟩,⟨⟨x13,x14⟩,⟨x15,x16⟩,x17⟩,x18,x19,x20⟩:=x;obtain⟨y1,⟨y2,y3⟩,⟨y4,y5⟩,⟨y6,y7⟩,⟨⟨y8,y9⟩,⟨oE,lO⟩,oF⟩,⟨⟨lD,E0⟩,⟨wq,XD⟩,y17⟩,y18,y19,K0⟩:=y;simp_all [Bl,abM,and_assoc]
theorem aV{α:Type}{c b:Bool}{x y r:α}(h:c=b)(k:cond (not b) x y=r):cond (not c) x y=r:=by simp_all
def cE(o:bj):Int :=if o.1<1 then 1 else if 8<o.1 then 1 else if cr o.2.1=false then 1 else if Bl (xW o) zOp=false then 1
 else if o.1=3 then(if Bk o.2.2.2.2.1=true∧Bk o.2.2.2.2.2.1=true then 0 else 1)
 else if o.1=5 then(if cr o.2.2.1=true∧cr o.2.2.2.1=true∧0≤o.2.2.2.2.2.2.2.2∧o.2.2.2.2.2.2.2.2≤3 then 0 else 1)
 else if o.1=6 then(if cr o.2.2.2.1=true then 0 else 1)
 else if o.1=8 then(if ic o.2.2.2.2.2.2.2.2=true then 0 else 1)
 else if o.1=7 then(if iM o.2.2.2.2.2.2.2.1=true then 0 else 4)
 else 0
def I1(n:Int):Option ((Int×Unit)×Unit):=some ((n,()),())
theorem afV(hG:HG G)(o:bj)(ht:o.2.2.2.2.2.2.2.1.size≤100000000):FX G 86 Ra ((o,()),())=some ((cE o,()),()):=by
 refine av (hG _ _ rfl) akf ?_;refine aa (Fw (hG _ _ rfl) o.2.1) ?_;unfold cE;by_cases h1:o.1<1
 ·rw[if_pos h1];have d:=decide_eq_true h1;simp only[d];rfl
 rw[if_neg h1];have d1:=decide_eq_false h1;by_cases h2:8<o.1
 ·rw[if_pos h2];have d:decide (o.1>8)=true:=decide_eq_true h2;simp only[d1,d];rfl
 rw[if_neg h2];have d2:decide (o.1>8)=false:=decide_eq_false h2
 cases hm:cr o.2.1
 ·rw[if_pos rfl];simp only[d1,d2];rfl
 rw[if_neg (by simp)];simp only[d1,d2];refine aa (alD (hG _ _ rfl) o) ?_;refine aV (b:=Bl (xW o) zOp) rfl ?_
 cases he:Bl (xW o) zOp
 ·rfl
 rw[if_neg (by simp)];by_cases h3:o.1=3
 ·rw[if_pos h3];have d:(o.1==(3:Int))=true:=by simp[h3]
  simp only[d];refine aa (afU hG o.2.2.2.2.1) ?_;refine aa (afU hG o.2.2.2.2.2.1) ?_
  cases hc:Bk o.2.2.2.2.1<;>cases oV:Bk o.2.2.2.2.2.1<;>rfl
 rw[if_neg h3];have d3:(o.1==(3:Int))=false:=by simp[h3]
 by_cases h5:o.1=5
 ·rw[if_pos h5];have d:(o.1==(5:Int))=true:=by simp[h5]
  simp only[d3,d];refine aa (Fw (hG _ _ rfl) o.2.2.1) ?_;refine aa (Fw (hG _ _ rfl) o.2.2.2.1) ?_
  cases hc:cr o.2.2.1
  ·rfl
  cases oV:cr o.2.2.2.1
  ·rfl
  by_cases h6:o.2.2.2.2.2.2.2.2<0
  ·have d6:=decide_eq_true h6;rw[if_neg (by omega)];simp only[d6];rfl
  have d6:=decide_eq_false h6;by_cases h7:o.2.2.2.2.2.2.2.2>3
  ·have d7:=decide_eq_true h7;rw[if_neg (by omega)];simp only[d6,d7];rfl
  have d7:=decide_eq_false h7;rw[if_pos ⟨rfl,rfl,by omega,by omega⟩];simp only[d6,d7];rfl
 rw[if_neg h5];have d5:(o.1==(5:Int))=false:=by simp[h5]
 by_cases h6:o.1=6
 ·rw[if_pos h6];have d:(o.1==(6:Int))=true:=by simp[h6]
  simp only[d3,d5,d];refine aa (Fw (hG _ _ rfl) o.2.2.2.1) ?_
  cases hc:cr o.2.2.2.1<;>rfl
 rw[if_neg h6];have d6:(o.1==(6:Int))=false:=by simp[h6]
 by_cases h8:o.1=8
 ·rw[if_pos h8];have d:(o.1==(8:Int))=true:=by simp[h8]
  simp only[d3,d5,d6,d];refine aa (abU (hG _ _ rfl) o.2.2.2.2.2.2.2.2) ?_
  cases hc:ic o.2.2.2.2.2.2.2.2<;>rfl
 rw[if_neg h8];have d8:(o.1==(8:Int))=false:=by simp[h8]
 by_cases h7:o.1=7
 ·rw[if_pos h7];have d:(o.1==(7:Int))=true:=by simp[h7]
  simp only[d3,d5,d6,d8,d];refine aa (abT (hG _ _ rfl) o.2.2.2.2.2.2.2.1 (by omega)) ?_
  cases hc:iM o.2.2.2.2.2.2.2.1<;>rfl
 rw[if_neg h7];have d7:(o.1==(7:Int))=false:=by simp[h7]
 simp only[d3,d5,d6,d8,d7];rfl
def v5(o:bj):Prop:=o.2.2.2.2.2.2.2.1.size≤100000000
def lx:List bj→Int
 |[]=>0
 |o::r=>if cE o≠0 then cE o else lx r
def eW(l:List bj):Int:=if 1≤l.length∧l.length≤6 then lx l else 3
theorem alE(hG:HG G)(l:List bj)(ht:∀o∈l,v5 o):FX G 65 Ku ((l,()),())=some ((eW l,()),()):=by
 refine av (hG _ _ rfl) akc ?_;unfold eW;by_cases h1:l.length<1
 ·have d:decide (((l.length:Nat):Int)<1)=true:=decide_eq_true (by omega);rw[if_neg (by omega)];simp only[d];rfl
 have d1:decide (((l.length:Nat):Int)<1)=false:=decide_eq_false (by omega);by_cases h2:6<l.length
 ·have d:decide (((l.length:Nat):Int)>6)=true:=decide_eq_true (by omega);rw[if_neg (by omega)];simp only[d1,d];rfl
 have d2:decide (((l.length:Nat):Int)>6)=false:=decide_eq_false (by omega);rw[if_pos (by omega)];simp only[d1,d2];have key:=bf l (fun i (_:Unit)=>LX G 65 Ku Tryz.f65 Dz (aF Tryz.prog 65 0) ((i,()),(((l,()),()),()))) (fun(r:List bj) (_:Unit)=>((lx r,()),())) (fun _ _=>True) (fun _ _=>by refine ar Uj ?_;simp only[bX];rfl) (fun i o r _ hi hx uN _ ih=>by
   refine ar Uj ?_;simp only[aN hi,aw hx,Option.bind_some,aA hi (show l.length≤1073741824 by omega)];refine aa (afV hG o (ht o (acC hx))) ?_;rw[lx];by_cases h:cE o=0
   ·have d:(cE o != 0)=false:=by simp[h]
    rw[if_neg (by simp[h])];simp only[d];exact ih () trivial
   ·have d:(cE o != 0)=true:=by simp[h]
    rw[if_pos h];simp only[d];rfl)
  () trivial
 exact key
theorem af{α:Type}{c:Bool}{x y r:α}(h:c=true)(k:x=r):cond c x y=r:=by simp_all
theorem ag{α:Type}{c:Bool}{x y r:α}(h:c=false)(k:y=r):cond c x y=r:=by simp_all
theorem cd{a b:Bool}(h:a=true)(k:b=true):(a&&b)=true:=by rw[h,k];rfl
def zS:StateT:=(([],[]),[])
abbrev bh(o:bj):ID:=o.2.1
abbrev fi(o:bj):ID:=o.2.2.1
abbrev bB(o:bj):ID:=o.2.2.2.1
abbrev oA(o:bj):rj:=o.2.2.2.2.1
abbrev oB(o:bj):rj:=o.2.2.2.2.2.1
abbrev qN(o:bj):Bool:=o.2.2.2.2.2.2.1
abbrev pJ(o:bj):ByteArray:=o.2.2.2.2.2.2.2.1
abbrev oN(o:bj):Int:=o.2.2.2.2.2.2.2.2
def iO(o:bj)(w:ai):ai:=if qN o=false∧w.1=bh o then(if o.1=7 then(w.1,(w.2.1,(pJ o,w.2.2.2))) else(w.1,(w.2.1,(w.2.2.1,oN o)))) else w
def jR(o:bj)(w:ak):ak:=if qN o=true∧w.1=bh o then(if o.1=7 then(w.1,(pJ o,w.2.2)) else(w.1,(w.2.1,oN o))) else w
def Lj(o:bj)(l:List ai):Bool := !(qN o)&&l.any fun w=>decide (w.1=bh o)
def IW(o:bj)(l:List ak):Bool:=qN o&&l.any fun w=>decide (w.1=bh o)
def v7(s:StateT)(o:bj):StateT×(Int×Unit) :=if Lj o s.1.1 || IW o s.1.2 then(((s.1.1.map (iO o),s.1.2.map (jR o)),s.2),(0,())) else(zS,(13,()))
theorem abW(s:StateT)(o:bj)(vs:List ai)(hs:Sm s.1):∀(n i:Nat) (fd:Bool) (out fin:List ak),i+n=s.1.2.length→out=(s.1.2.take i).map (jR o)++s.1.2.drop i→fin=s.1.2.map (jR o) → LX G 94 C8 Tryz.f94 sH (aF Tryz.prog 94 1) ((fd,((i:Int),())),(((s,()),((o,()),((([]:List ai),(([]:List ak),(([]:List aB),()))),((vs,(out,())),())))),())) = some ((if(fd || IW o (s.1.2.drop i)) then((((vs,fin),s.2),((0:Int),())):StateT×(Int×Unit)) else(zS,(13,()))),()):=by
 have he:=hs.e;intro n
 induction n with
 |zero =>
  intro i fd out fin hi ho hf;refine ar Uq ?_;have hol:out.length=s.1.2.length:=by simp_all
  have h1:¬((i:Int)<(out.length:Int)):=by omega
  have h2:out=fin:=by simp_all
  have h3:IW o (s.1.2.drop i)=false:=by grind [List.drop_eq_nil_of_le,IW]
  subst h2;rw[h3];simp only[h1,decide_false]
  cases fd<;>rfl
 |succ n ih =>
  intro i fd out fin hi ho hf;refine ar Uq ?_;have hol:out.length=s.1.2.length:=by grind
  have aH:i<s.1.2.length:=by omega
  have hx:s.1.2[i]? = some s.1.2[i]:=aby aH;have hg:out[i]? = some s.1.2[i]:=by grind
  have h2:s.1.2.drop i=s.1.2[i]::s.1.2.drop (i+1):=ac8 aH;have zw:=aN (show i<out.length by omega);have hw:=aA aH (show s.1.2.length≤1073741824 by omega);rw[h2];generalize s.1.2[i]=y at *;have hE:IW o (y::s.1.2.drop (i+1))=((qN o&&decide (y.1=bh o)) || IW o (s.1.2.drop (i+1))):=by unfold IW;grind
  rw[hE];refine af zw ?_
  cases hof:qN o
  ·have e1:jR o y=y:=by simp_all [jR,if_neg]
   rw[Bool.false_and,Bool.false_or];refine ag hof ?_;rw[wI,hw];exact ih (i+1) fd out fin (by omega) (by grind) hf
  ·rw[Bool.true_and];refine af hof ?_;refine af (cd (fq i) zw) ?_;refine aa hg ?_;by_cases hq:y.1=bh o
   ·refine af ((j5 y.1 (bh o)).trans (decide_eq_true hq)) ?_;rw[decide_eq_true hq,Bool.true_or,Bool.or_true,wI,hw];by_cases h7:o.1=7
    ·have e1:jR o y=(y.1,(pJ o,y.2.2)):=by simp_all [jR,if_pos]
     refine af (show(o.1==(7:Int))=true by simp[h7]) ?_;refine af (cd (fq i) zw) ?_;refine aa hg ?_;have:=ih (i+1) true (out.set i (y.1,(pJ o,y.2.2))) fin (by omega) (by grind [xT]) hf;rw[Bool.true_or]at this;exact this
    ·have e1:jR o y=(y.1,(y.2.1,oN o)):=by simp_all [jR,if_pos,if_neg]
     refine ag (show(o.1==(7:Int))=false by simp[h7]) ?_;refine af (cd (fq i) zw) ?_;refine aa hg ?_;have:=ih (i+1) true (out.set i (y.1,(y.2.1,oN o))) fin (by omega) (by grind [xT]) hf;rw[Bool.true_or]at this;exact this
   ·have e1:jR o y=y:=by simp_all [jR,if_neg]
    refine ag ((j5 y.1 (bh o)).trans (decide_eq_false hq)) ?_;rw[decide_eq_false hq,Bool.false_or,wI,hw];exact ih (i+1) fd out fin (by omega) (by grind) hf
theorem abX(s:StateT)(o:bj)(hs:Sm s.1):∀(n i:Nat) (fd:Bool) (out fin:List ai),i+n=s.1.1.length→out=(s.1.1.take i).map (iO o)++s.1.1.drop i→fin=s.1.1.map (iO o) → LX G 94 C8 Tryz.f94 sG (aF Tryz.prog 94 0) ((fd,((i:Int),())),(((s,()),((o,()),((([]:List ai),(([]:List ak),(([]:List aB),()))),((out,(s.1.2,())),())))),())) = some ((if((fd || Lj o (s.1.1.drop i)) || IW o s.1.2) then((((fin,s.1.2.map (jR o)),s.2),((0:Int),())):StateT×(Int×Unit)) else(zS,(13,()))),()):=by
 have hv:=hs.v;intro n
 induction n with
 |zero =>
  intro i fd out fin hi ho hf;refine ar Up ?_;have hol:out.length=s.1.1.length:=by simp_all
  have h1:¬((i:Int)<(out.length:Int)):=by omega
  have h2:out=fin:=by simp_all
  have h3:Lj o (s.1.1.drop i)=false:=by grind [List.drop_eq_nil_of_le,Lj]
  subst h2;rw[h3,Bool.or_false];simp only[h1,decide_false];exact abW s o out hs s.1.2.length 0 fd s.1.2 (s.1.2.map (jR o)) (by omega) (by simp) rfl
 |succ n ih =>
  intro i fd out fin hi ho hf;refine ar Up ?_;have hol:out.length=s.1.1.length:=by grind
  have aH:i<s.1.1.length:=by omega
  have hx:s.1.1[i]? = some s.1.1[i]:=aby aH;have hg:out[i]? = some s.1.1[i]:=by grind
  have h2:s.1.1.drop i=s.1.1[i]::s.1.1.drop (i+1):=ac8 aH;have zw:=aN (show i<out.length by omega);have hw:=aA aH (show s.1.1.length≤1073741824 by omega);rw[h2];generalize s.1.1[i]=y at *;have hE:Lj o (y::s.1.1.drop (i+1))=((!(qN o)&&decide (y.1=bh o)) || Lj o (s.1.1.drop (i+1))):=by unfold Lj;grind
  rw[hE];refine af zw ?_
  cases hof:qN o
  ·rw[Bool.not_false,Bool.true_and];refine af (show(!(qN o))=true by rw[hof];rfl) ?_;refine af (cd (fq i) zw) ?_;refine aa hg ?_;by_cases hq:y.1=bh o
   ·refine af ((j5 y.1 (bh o)).trans (decide_eq_true hq)) ?_;rw[decide_eq_true hq,Bool.true_or,Bool.or_true,Bool.true_or,wI,hw];by_cases h7:o.1=7
    ·have e1:iO o y=(y.1,(y.2.1,(pJ o,y.2.2.2))):=by simp_all [iO,if_pos]
     refine af (show(o.1==(7:Int))=true by simp[h7]) ?_;refine af (cd (fq i) zw) ?_;refine aa hg ?_;have:=ih (i+1) true (out.set i (y.1,(y.2.1,(pJ o,y.2.2.2)))) fin (by omega) (by grind [xT]) hf;rw[Bool.true_or,Bool.true_or]at this;exact this
    ·have e1:iO o y=(y.1,(y.2.1,(y.2.2.1,oN o))):=by simp_all [iO,if_pos,if_neg]
     refine ag (show(o.1==(7:Int))=false by simp[h7]) ?_;refine af (cd (fq i) zw) ?_;refine aa hg ?_;have:=ih (i+1) true (out.set i (y.1,(y.2.1,(y.2.2.1,oN o)))) fin (by omega) (by grind [xT]) hf;rw[Bool.true_or,Bool.true_or]at this;exact this
   ·have e1:iO o y=y:=by simp_all [iO,if_neg]
    refine ag ((j5 y.1 (bh o)).trans (decide_eq_false hq)) ?_;rw[decide_eq_false hq,Bool.false_or,wI,hw];exact ih (i+1) fd out fin (by omega) (by grind) hf
  ·have e1:iO o y=y:=by simp_all [iO,if_neg]
   rw[Bool.not_true,Bool.false_and,Bool.false_or];refine ag (show(!(qN o))=false by rw[hof];rfl) ?_;rw[wI,hw];exact ih (i+1) fd out fin (by omega) (by grind) hf
theorem alF(hG:HG G)(s:StateT)(o:bj)(hs:Sm s.1):FX G 94 C8 ((s,o,()),())=some (v7 s o,()):=by have hv:=hs.v;have he:=hs.e;refine av (hG _ _ rfl) akm ?_;refine aa (afH (hG _ _ rfl) s.1 (by omega) (by omega) (fun w hw=>by have:=hs.r w hw;omega)) ?_;have:=abX (G:=G) s o hs s.1.1.length 0 false s.1.1 (s.1.1.map (iO o)) (by omega) (by simp) rfl;rw[Bool.false_or]at this;exact this
structure Bd(n:Nat)(d:an):Prop where
 v:d.1.length≤n
 e:d.2.length≤n
 r:∀w∈d.1,w.2.1.length≤n
theorem Bd.sm{n:Nat}{d:an}(h:Bd n d)(hn:n≤50000000):Sm d:=⟨by have:=h.v;omega,by have:=h.e;omega,fun w hw=>by have:=h.r w hw;omega⟩
theorem Bd.mono{n m:Nat}{d:an}(h:Bd n d)(hm:n≤m):Bd m d:=⟨by have:=h.v;omega,by have:=h.e;omega,fun w hw=>by have:=h.r w hw;omega⟩
theorem fw(v:ai):∀l:List ai,(cW v l).length=l.length+1
 |[]=>rfl
 |w::r=>by unfold cW;split<;>simp[fw v r]
theorem ly(v:ak):∀l:List ak,(dB v l).length=l.length+1
 |[]=>rfl
 |w::r=>by unfold dB;split<;>simp[ly v r]
theorem jS{v w:ai}:∀{l:List ai},w∈cW v l↔w=v∨w∈l
 |[]=>by simp[cW]
 |u::r=>by
  unfold cW
  split
  ·simp
  ·simp only[List.mem_cons,jS (l:=r)];exact⟨fun h=>by rcases h with h|h|h<;>simp[h],fun h=>by rcases h with h|h|h<;>simp[h]⟩
theorem pK{v w:ak}:∀{l:List ak},w∈dB v l↔w=v∨w∈l
 |[]=>by simp[dB]
 |u::r=>by
  unfold dB
  split
  ·simp
  ·simp only[List.mem_cons,pK (l:=r)];exact⟨fun h=>by rcases h with h|h|h<;>simp[h],fun h=>by rcases h with h|h|h<;>simp[h]⟩
theorem AS(row:List ae)(a d:ae):(nu row a d).length≤row.length+1:=by
 grind [nu,jy]
theorem Lk(row:List ae)(d:ae):(iL row d).length≤row.length:=by
 grind [iL,jy,List.length_filter_le]
theorem IX(row:List ae)(a d:ae):(fm row a d).length=row.length:=by
 grind [fm,jy]
theorem Bd.bI{n:Nat}{d:an}(h:Bd n d)(x:ID):(bI d x).length≤n:=by
 unfold Vs.bI
 cases hf:br d x with
 |none=>simp[zV]
 |some v=>exact h.r v (ac4 hf)
theorem Bd.cp{n:Nat}{d:an}(h:Bd n d){x:ID}{l:List ae}(hl:l.length≤n):Bd n (cp d x l):=by
 refine⟨by simp[Vs.cp];exact h.v,h.e,fun w hw=>?_⟩;obtain⟨u,hu,rfl⟩:=acU.1 hw;unfold uf
 split
 ·exact hl
 ·exact h.r u hu
theorem Bd.bU{n:Nat}{d:an}(h:Bd n d)(c:rj)(x:ae):Bd (n+1) (bU d c x) :=(h.mono (by omega)).cp (by have:=AS (Vs.bI d c.1) c.2 x;have:=h.bI c.1;omega)
theorem Bd.aE{n:Nat}{d:an}(h:Bd n d)(a x:ae):Bd n (aE d a x) :=h.cp (by rw[IX];exact h.bI _)
theorem Bd.aJ{n:Nat}{d:an}(h:Bd n d)(x:ae):Bd n (aJ d x) :=h.cp (by have:=Lk (Vs.bI d ((cg d x).getD zI)) x;have:=h.bI ((cg d x).getD zI);omega)
theorem Bd.aO{n:Nat}{d:an}(h:Bd n d)(v e:ID):Bd n (aO d v e) :=⟨acY (adg _ _) h.v,acY (adg _ _) h.e,fun w hw=>h.r w (adl.1 hw).1⟩
theorem Bd.cW{n:Nat}{d:an}(h:Bd n d)(v:ai)(hv:v.2.1.length≤n+1):Bd (n+1) (cW v d.1,d.2) :=⟨by rw[fw];have:=h.v;omega,by have:=h.e;grind,fun w hw=>by
  rcases jS.1 hw with rfl|hw
  ·exact hv
  ·have:=h.r w hw;omega⟩
theorem Bd.dB{n:Nat}{d:an}(h:Bd n d)(v:ak):Bd (n+1) (d.1,dB v d.2) :=⟨by have:=h.v;grind,by rw[ly];have:=h.e;omega,fun w hw=>by have:=h.r w hw;omega⟩
theorem AT(g:aB):∀l:List aB,(lX g l).length≤l.length+1
 |[]=>by simp[lX]
 |e::r=>by
  unfold lX
  split
  ·have:=adg (fun q:aB=>decide (q.1≠g.1)) (e::r);simp[ov];simp at this;omega
  ·have:=AT g r
   split<;>simp<;>omega
theorem gO(l:List aB)(g:aB):(bS l g).length≤l.length+1:=by
 grind [bS,AT]
def g9(s:StateT)(o:bj):an :=bU (bU (s.1.1,dB (bh o,(e0,0)) s.1.2) (bA s (oA o)).1 (bh o,0)) (if(br s.1 (oB o).1).isSome=true∧(oB o).2=(bh o,0) then oB o else(bA s (oB o)).1) (bh o,1)
def nT(s:StateT)(o:bj):StateT×(Int×Unit) :=if(gN s.1 (bh o)).isSome=true then(zS,(12,()))
 else if 40≤s.1.2.length then(zS,(3,()))
 else if(bA s (oA o)).2.1≠0 then(zS,(13,()))
 else if(bA s (oB o)).2.1≠0 then(zS,(13,()))
 else if bH (g9 s o)≠0 then(zS,(15,()))
 else((g9 s o,s.2),(0,()))
theorem alG(hG:HG G){n:Nat}(s:StateT)(o:bj)(hs:Bd n s.1)(hn:n≤4000000)(hg:s.2.length≤50000000):FX G 90 TV ((s,o,()),())=some (nT s o,()):=by
  have hv:=hs.v;have he:=hs.e;have YG:=hs.sm (by omega);refine av (hG _ _ rfl) aki ?_;refine aa (Vo (hG _ _ rfl) s.1 (bh o) (by omega)) ?_;rw[show(qL zE (gN s.1 (bh o))).2.1=(gN s.1 (bh o)).isSome from gV _ _];unfold nT
  cases h1:(gN s.1 (bh o)).isSome
  case true=>rfl
  rw[if_neg (by simp)];by_cases h2:40≤s.1.2.length
  · have d:decide (((s.1.2.length:Nat):Int)≥40)=true:=decide_eq_true (by omega)
    rw[if_pos h2];simp only[d];rfl
  have d2:decide (((s.1.2.length:Nat):Int)≥40)=false:=decide_eq_false (by omega);rw[if_neg h2];simp only[d2];refine aa (afR hG s (oA o) YG hg) ?_;refine aa (afR hG s (oB o) YG hg) ?_;refine aa (Fx (hG _ _ rfl) s.1 (oB o).1 (by omega)) ?_;rw[show(qL zV (br s.1 (oB o).1)).2.1=(br s.1 (oB o).1).isSome from gV _ _];have b1:=hs.dB (bh o,(e0,0));have b2:=b1.bU (bA s (oA o)).1 (bh o,0);have fin:∀(bc:rj),g9 s o=bU (bU (s.1.1,dB (bh o,(e0,0)) s.1.2) (bA s (oA o)).1 (bh o,0)) bc (bh o,1) →(cond ((bA s (oA o)).2.1 != 0) (some (((([],[]),[]),((13:Int),())),())) (cond ((bA s (oB o)).2.1 != 0) (some (((([],[]),[]),((13:Int),())),())) ((FX G 125 Bb ((s.1,((bh o,(e0,(0:Int))),())),())).bind fun(y5:((an×Unit)×Unit)) =>(FX G 126 Bc ((y5.1.1,((bA s (oA o)).1,((bh o,(0:Int)),()))),())).bind fun(y6:((an×Unit)×Unit)) =>(FX G 126 Bc ((y6.1.1,(bc,((bh o,(1:Int)),()))),())).bind fun(y7:((an×Unit)×Unit)) =>(FX G 99 Is ((y7.1.1,()),())).bind fun(y8:((Int×Unit)×Unit)) =>cond (y8.1.1 != (0:Int)) (some (((([],[]),[]),((15:Int),())),())) (some (((y7.1.1,s.2),((0:Int),())),())))):Option ((StateT×(Int×Unit))×Unit)) = some ((if(bA s (oA o)).2.1≠0 then(zS,(13,())) else if(bA s (oB o)).2.1≠0 then(zS,(13,())) else if bH (g9 s o)≠0 then(zS,(15,())) else((g9 s o,s.2),(0,())):StateT×(Int×Unit)),()):=by
    intro bc hbc;by_cases h3:(bA s (oA o)).2.1=0
    case neg =>
      have d:((bA s (oA o)).2.1 != 0)=true:=by simp[h3]
      rw[if_pos h3,d];rfl
    rw[if_neg (by simp[h3]),show((bA s (oA o)).2.1 != 0)=false by simp[h3]];by_cases h4:(bA s (oB o)).2.1=0
    case neg =>
      have d:((bA s (oB o)).2.1 != 0)=true:=by simp[h4]
      rw[if_pos h4,d];rfl
    rw[if_neg (by simp[h4]),show((bA s (oB o)).2.1 != 0)=false by simp[h4]];simp only[cond_false];have b3:=b2.bU bc (bh o,1);rw[←hbc]at b3;refine aa (afJ hG s.1 (bh o,(e0,0)) (by omega)) ?_;refine aa (afL hG _ _ _ (b1.sm (by omega))) ?_;refine aa ((afL hG (bU (s.1.1,dB (bh o,(e0,0)) s.1.2) (bA s (oA o)).1 (bh o,0)) bc (bh o,1) (b2.sm (by omega))).trans (congrArg (fun z:an=>some ((z,()),())) hbc.symm)) ?_;refine aa (abS hG (g9 s o) (b3.sm (by omega)) (by have:=b3.e;omega)) ?_;by_cases h5:bH (g9 s o)=0
    · simp_all
    · rw[if_pos h5]
      have d:(bH (g9 s o) != 0)=true:=by simp[h5]
      simp only[d];rfl
  have hb:((((oB o).2.1.1==o.2.1.1)&&((oB o).2.1.2==o.2.1.2))&&((oB o).2.2==(0:Int)))=decide ((oB o).2=(bh o,0)):=lJ (oB o).2 (bh o,0);simp only[hb]
  cases h6:(br s.1 (oB o).1).isSome
  · exact fin (bA s (oB o)).1 (by simp_all [g9,if_neg])
  · by_cases h7:(oB o).2=(bh o,0)
    · have d:=decide_eq_true h7
      simp only[d];exact fin (oB o) (by simp_all [g9,if_pos])
    · have d:=decide_eq_false h7
      simp only[d];exact fin (bA s (oB o)).1 (by simp_all [g9,if_neg])
def D3(s:StateT)(o:bj):StateT×(Int×Unit) :=if(gN s.1 (bh o)).isSome=false then(zS,(13,()))
 else((aO (aJ (aJ s.1 (bh o,0)) (bh o,1)) zI (bh o),bS (bS s.2 ((bh o,0),dh s.1 (bh o,0))) ((bh o,1),dh s.1 (bh o,1))),(0,()))
theorem alH(hG:HG G){n:Nat}(s:StateT)(o:bj)(hs:Bd n s.1)(hn:n≤4000000)(hg:s.2.length≤5000000):FX G 91 TW ((s,o,()),())=some (D3 s o,()):=by
 have hv:=hs.v;have he:=hs.e;have YG:=hs.sm (by omega);refine av (hG _ _ rfl) akj ?_;refine aa (Vo (hG _ _ rfl) s.1 (bh o) (by omega)) ?_;rw[show(qL zE (gN s.1 (bh o))).2.1=(gN s.1 (bh o)).isSome from gV _ _];unfold D3
 cases h1:(gN s.1 (bh o)).isSome
 case false=>rfl
 rw[if_neg (by simp)];have b1:=hs.aJ (bh o,0);have b2:=b1.aJ (bh o,1);have l1:=gO s.2 ((bh o,0),dh s.1 (bh o,0));refine aa (afO hG s.1 (bh o,0) YG) ?_;refine aa (YE hG s.2 ((bh o,0),dh s.1 (bh o,0)) (by omega)) ?_;refine aa (afO hG s.1 (bh o,1) YG) ?_;refine aa (YE hG (bS s.2 ((bh o,0),dh s.1 (bh o,0))) ((bh o,1),dh s.1 (bh o,1)) (by omega)) ?_;refine aa (afN hG s.1 (bh o,0) YG) ?_;refine aa (afN hG (aJ s.1 (bh o,0)) (bh o,1) (b1.sm (by omega))) ?_;exact aa (YC (hG _ _ rfl) (aJ (aJ s.1 (bh o,0)) (bh o,1)) zI (bh o) (by have:=b2.v;omega) (by have:=b2.e;omega)) rfl
def Ll(o:bj):ae:=(bh o,IntKind.wrap .i64 (1-Int.tmod (oN o) 2))
def G4(o:bj):ae:=(bB o,IntKind.wrap .i64 (Int.tdiv (oN o) 2))
def Vq(s:StateT)(o:bj):an :=(cW (fi o,(cc [Ll o,G4 o],(e0,0))) (aE s.1 (Ll o) (aj (G4 o))).1,dB (bB o,(e0,0)) (aE s.1 (Ll o) (aj (G4 o))).2)
def kz(s:StateT)(o:bj):StateT×(Int×Unit) :=if(gN s.1 (bh o)).isSome=false then(zS,(13,()))
 else if(br s.1 (fi o)).isSome=true then(zS,(12,()))
 else if(gN s.1 (bB o)).isSome=true then(zS,(12,()))
 else if 24≤s.1.1.length then(zS,(3,()))
 else if 40≤s.1.2.length then(zS,(3,()))
 else((Vq s o,s.2),(0,()))
theorem alI(hG:HG G){n:Nat}(s:StateT)(o:bj)(hs:Bd n s.1)(hn:n≤4000000):FX G 92 TX ((s,o,()),())=some (kz s o,()):=by
 have hv:=hs.v;have he:=hs.e;have YG:=hs.sm (by omega);refine av (hG _ _ rfl) akk ?_;refine aa (Vo (hG _ _ rfl) s.1 (bh o) (by omega)) ?_;rw[show(qL zE (gN s.1 (bh o))).2.1=(gN s.1 (bh o)).isSome from gV _ _];unfold kz
 cases h1:(gN s.1 (bh o)).isSome
 case false=>rfl
 rw[if_neg (by simp)];refine aa (Fx (hG _ _ rfl) s.1 (fi o) (by omega)) ?_;rw[show(qL zV (br s.1 (fi o))).2.1=(br s.1 (fi o)).isSome from gV _ _];refine aa (Vo (hG _ _ rfl) s.1 (bB o) (by omega)) ?_;rw[show(qL zE (gN s.1 (bB o))).2.1=(gN s.1 (bB o)).isSome from gV _ _]
 cases h2:(br s.1 (fi o)).isSome
 case true=>rfl
 rw[if_neg (by simp)]
 cases h3:(gN s.1 (bB o)).isSome
 case true=>rfl
 rw[if_neg (by simp)];by_cases h4:24≤s.1.1.length
 ·have d:decide (((s.1.1.length:Nat):Int)≥24)=true:=decide_eq_true (by omega);rw[if_pos h4];simp only[d];rfl
 have d4:decide (((s.1.1.length:Nat):Int)≥24)=false:=decide_eq_false (by omega);rw[if_neg h4];by_cases h5:40≤s.1.2.length
 ·have d:decide (((s.1.2.length:Nat):Int)≥40)=true:=decide_eq_true (by omega);rw[if_pos h5];simp only[d4,d];rfl
 have d5:decide (((s.1.2.length:Nat):Int)≥40)=false:=decide_eq_false (by omega);rw[if_neg h5];simp only[d4,d5];have d6:((2:Int)==0)=false:=rfl;simp only[d6];have b1:=hs.aE (Ll o) (aj (G4 o));have b2:=b1.dB (bB o,(e0,0));refine aa (abN (hG _ _ rfl) (G4 o)) ?_;refine aa (afM hG s.1 (Ll o) (aj (G4 o)) YG) ?_;refine aa (afJ hG (aE s.1 (Ll o) (aj (G4 o))) (bB o,(e0,0)) (by have:=b1.e;omega)) ?_;refine aa (IT hG [Ll o,G4 o] (by simp)) ?_;exact aa (afI hG ((aE s.1 (Ll o) (aj (G4 o))).1,dB (bB o,(e0,0)) (aE s.1 (Ll o) (aj (G4 o))).2) (fi o,(cc [Ll o,G4 o],(e0,0))) (acY b1.v (by omega))) rfl
def ow(a b:ae)(i:Int):ae:=if(b.1,i)=aj b then a else zD
def Jz(g:List aB)(a b:ae):List aB:=bS (bS g ((b.1,0),ow a b 0)) ((b.1,1),ow a b 1)
def JA(s:StateT)(o:bj)(a b:ae):an:=aO (aE (aO s.1 (bh o) zI) (aj b) a) zI b.1
theorem alJ(hG:HG G)(g:List aB)(a b:ae)(d:an)(hg:g.length≤5000000) :
  LX G 93 Ba Tryz.f93 mQ (aF Tryz.prog 93 0) ((g,((0:Int),())),(((([]:List ai),(([]:List ak),(([]:List aB),()))),((a,()),((b,()),((aj b,()),((d,()),()))))),()))=some (((d,Jz g a b),((0:Int),())),()):=by
 have l2:∀g2:List aB,LX G 93 Ba Tryz.f93 mQ (aF Tryz.prog 93 0) ((g2,((2:Int),())),(((([]:List ai),(([]:List ak),(([]:List aB),()))),((a,()),((b,()),((aj b,()),((d,()),()))))),()))=some (((d,g2),((0:Int),())),()):=fun g2 =>ar Uo (ag rfl rfl);have step:∀(i:Int) (g1:List aB) (r:(StateT×(Int×Unit))×Unit),i<2→g1.length≤5000001→LX G 93 Ba Tryz.f93 mQ (aF Tryz.prog 93 0) ((bS g1 ((b.1,i),ow a b i),(IntKind.wrap .i64 (i+1),())),(((([]:List ai),(([]:List ak),(([]:List aB),()))),((a,()),((b,()),((aj b,()),((d,()),()))))),()))=some r → LX G 93 Ba Tryz.f93 mQ (aF Tryz.prog 93 0) ((g1,(i,())),(((([]:List ai),(([]:List ak),(([]:List aB),()))),((a,()),((b,()),((aj b,()),((d,()),()))))),()))=some r:=fun i g1 r hi hg1 h=>by
  refine ar Uo ?_;refine af (decide_eq_true hi) ?_;unfold ow at h;by_cases he:((b.1,i):ae)=aj b
  ·rw[if_pos he]at h;refine af ((lJ (b.1,i) (aj b)).trans (decide_eq_true he)) ?_;refine aa (YE hG g1 ((b.1,i),a) (by omega)) ?_;exact h
  ·rw[if_neg he]at h;refine ag ((lJ (b.1,i) (aj b)).trans (decide_eq_false he)) ?_;refine aa (YE hG g1 ((b.1,i),zD) (by omega)) ?_;exact h
 have a1:=gO g ((b.1,0),ow a b 0);refine step 0 g _ (by omega) (by omega) ?_;refine step 1 _ _ (by omega) (by omega) ?_;exact l2 _
def iZ(s:StateT)(o:bj)(r0 r1:ae):StateT×(Int×Unit) :=if r0.1=r1.1 then(zS,(14,()))
 else if r0.1=bB o then((JA s o r1 r0,Jz s.2 r1 r0),(0,()))
 else if r1.1=bB o then((JA s o r0 r1,Jz s.2 r0 r1),(0,()))
 else(zS,(14,()))
def jT(s:StateT)(o:bj):StateT×(Int×Unit):=match br s.1 (bh o) with
 |none=>(zS,(13,()))
 |some v=>match v.2.1 with
  |[r0,r1]=>iZ s o r0 r1
  |_=>(zS,(14,()))
theorem alK(hG:HG G){n:Nat}(s:StateT)(o:bj)(hs:Bd n s.1)(hn:n≤4000000)(hg:s.2.length≤5000000):FX G 93 Ba ((s,o,()),())=some (jT s o,()):=by
  have hv:=hs.v;have he:=hs.e;have YG:=hs.sm (by omega);refine av (hG _ _ rfl) akl ?_;refine aa (Fx (hG _ _ rfl) s.1 (bh o) (by omega)) ?_;unfold jT
  cases hf:br s.1 (bh o) with
  |none=>rfl
  |some v =>
    refine ag (show(!true)=false from rfl) ?_;have two:∀(a b:ae) (r:Option ((StateT×(Int×Unit))×Unit)),r=some (((JA s o a b,Jz s.2 a b),((0:Int),())),()) →((FX G 131 Fm ((b,()),())).bind fun(y8:((ae×Unit)×Unit)) =>(FX G 89 qB ((s.1,(bh o,(zI,()))),())).bind fun(y9:((an×Unit)×Unit)) =>(FX G 130 Ky ((y9.1.1,(y8.1.1,(a,()))),())).bind fun(oE:((an×Unit)×Unit)) =>(FX G 89 qB ((oE.1.1,(zI,(b.1,()))),())).bind fun(lO:((an×Unit)×Unit)) =>LX G 93 Ba Tryz.f93 mQ (aF Tryz.prog 93 0) ((s.2,((0:Int),())),(((([]:List ai),(([]:List ak),(([]:List aB),()))),((a,()),((b,()),((y8.1.1,()),((lO.1.1,()),()))))),())))=r:=fun a b r hr=>by subst hr;have b1:=hs.aO (bh o) zI;have b2:=b1.aE (aj b) a;refine aa (abN (hG _ _ rfl) b) ?_;refine aa (YC (hG _ _ rfl) s.1 (bh o) zI (by omega) (by omega)) ?_;refine aa (afM hG (aO s.1 (bh o) zI) (aj b) a (b1.sm (by omega))) ?_;refine aa (YC (hG _ _ rfl) (aE (aO s.1 (bh o) zI) (aj b) a) zI b.1 (by have:=b2.v;omega) (by have:=b2.e;omega)) ?_;exact alJ hG s.2 a b (JA s o a b) hg
    obtain⟨vi,ring,vr⟩:=v;by_cases hl:ring.length=2
    case neg =>
      refine af (show((((ring.length:Nat):Int)) != 2)=true by simp;omega) ?_
      match ring,hl with
      |[],_=>rfl
      |[_],_=>rfl
      |[_,_],h=>simp_all
      |_::_::_::_,_=>rfl
    match ring,hl with
    |[r0,r1],_ =>
      refine ag (show((((2:Nat):Int)) != 2)=false from rfl) ?_;refine aa (show aR [r0,r1] 0=some r0 from rfl) ?_;refine aa (show aR [r0,r1] 1=some r1 from rfl) ?_;show _=some (iZ s o r0 r1,());unfold iZ;by_cases h1:r0.1=r1.1
      · rw[if_pos h1]
        exact af ((j5 r0.1 r1.1).trans (decide_eq_true h1)) rfl
      rw[if_neg h1];refine ag ((j5 r0.1 r1.1).trans (decide_eq_false h1)) ?_;refine aa (show aR [r0,r1] 0=some r0 from rfl) ?_;refine aa (show aR [r0,r1] 1=some r1 from rfl) ?_;by_cases h2:r0.1=bB o
      · rw[if_pos h2]
        refine af ((j5 r0.1 (bB o)).trans (decide_eq_true h2)) ?_;refine aa (show aR [r0,r1] 1=some r1 from rfl) ?_;refine aa (show aR [r0,r1] 0=some r0 from rfl) ?_;refine ag (by simp_all) ?_;exact two r1 r0 _ rfl
      rw[if_neg h2];refine ag ((j5 r0.1 (bB o)).trans (decide_eq_false h2)) ?_;by_cases h3:r1.1=bB o
      · rw[if_pos h3]
        refine ag (by simp_all) ?_;exact two r0 r1 _ rfl
      · rw[if_neg h3]
        exact af (by grind) rfl
def nV(s:StateT)(o:bj):StateT×(Int×Unit) :=if(br s.1 (bh o)).isSome=true then(zS,(12,())) else if 24≤s.1.1.length then(zS,(3,())) else(((cW (bh o,([],(e0,0))) s.1.1,s.1.2),s.2),(0,()))
def vj(s:StateT)(o:bj):StateT×(Int×Unit):=match br s.1 (bh o) with
 |none=>(zS,(13,()))
 |some v=>if 0<v.2.1.length then(zS,(14,())) else((aO s.1 (bh o) zI,s.2),(0,()))
def j6(s:StateT)(o:bj):StateT×(Int×Unit) :=if cE o≠0 then(zS,(cE o,()))
 else if o.1=1 then nV s o else if o.1=2 then vj s o else if o.1=3 then nT s o else if o.1=4 then D3 s o else if o.1=5 then kz s o else if o.1=6 then jT s o else v7 s o
theorem alL(hG:HG G){n:Nat}(s:StateT)(o:bj)(hs:Bd n s.1)(hn:n≤4000000)(hg:s.2.length≤5000000)(ht:v5 o):FX G 66 TS ((s,o,()),())=some (j6 s o,()):=by
 have hv:=hs.v;have he:=hs.e;refine av (hG _ _ rfl) ajR ?_;refine aa (afV hG o ht) ?_;unfold j6;by_cases h0:cE o=0
 case neg =>
  rw[if_pos h0];exact af (show(cE o != 0)=true by simp[h0]) rfl
 rw[if_neg (by simp[h0])];refine ag (show(cE o != 0)=false by simp[h0]) ?_;refine aa (Fx (hG _ _ rfl) s.1 (bh o) (by omega)) ?_;by_cases h1:o.1=1
 ·rw[if_pos h1];refine af (show(o.1==(1:Int))=true by simp[h1]) ?_;rw[show(qL zV (br s.1 (bh o))).2.1=(br s.1 (bh o)).isSome from gV _ _];unfold nV
  cases hf:(br s.1 (bh o)).isSome
  ·rw[if_neg (by simp)];refine ag rfl ?_;by_cases h4:24≤s.1.1.length
   ·rw[if_pos h4];exact af (decide_eq_true (show((s.1.1.length:Nat):Int)≥24 by omega)) rfl
   ·rw[if_neg h4];refine ag (decide_eq_false (show ¬((s.1.1.length:Nat):Int)≥24 by omega)) ?_;exact aa (afI hG s.1 (bh o,([],(e0,0))) (by omega)) rfl
  rfl
 rw[if_neg h1];refine ag (show(o.1==(1:Int))=false by simp[h1]) ?_;by_cases h2:o.1=2
 ·rw[if_pos h2];refine af (show(o.1==(2:Int))=true by simp[h2]) ?_;unfold vj
  cases hf:br s.1 (bh o) with
  |none=>rfl
  |some v =>
   refine ag (show(!true)=false from rfl) ?_;by_cases h4:0<v.2.1.length
   ·show _=some ((if 0<v.2.1.length then(zS,(14,())) else((aO s.1 (bh o) zI,s.2),(0,())):StateT×(Int×Unit)),());rw[if_pos h4];exact af (decide_eq_true (show((v.2.1.length:Nat):Int)>0 by omega)) rfl
   ·show _=some ((if 0<v.2.1.length then(zS,(14,())) else((aO s.1 (bh o) zI,s.2),(0,())):StateT×(Int×Unit)),());rw[if_neg h4];refine ag (decide_eq_false (show ¬((v.2.1.length:Nat):Int)>0 by omega)) ?_;exact aa (YC (hG _ _ rfl) s.1 (bh o) zI (by omega) (by omega)) rfl
 rw[if_neg h2];refine ag (show(o.1==(2:Int))=false by simp[h2]) ?_;by_cases h3:o.1=3
 ·rw[if_pos h3];refine af (show(o.1==(3:Int))=true by simp[h3]) ?_;exact aa (alG hG s o hs hn (by omega)) rfl
 rw[if_neg h3];refine ag (show(o.1==(3:Int))=false by simp[h3]) ?_;by_cases h4:o.1=4
 ·rw[if_pos h4];refine af (show(o.1==(4:Int))=true by simp[h4]) ?_;exact aa (alH hG s o hs hn hg) rfl
 rw[if_neg h4];refine ag (show(o.1==(4:Int))=false by simp[h4]) ?_;by_cases h5:o.1=5
 ·rw[if_pos h5];refine af (show(o.1==(5:Int))=true by simp[h5]) ?_;exact aa (alI hG s o hs hn) rfl
 rw[if_neg h5];refine ag (show(o.1==(5:Int))=false by simp[h5]) ?_;by_cases h6:o.1=6
 ·rw[if_pos h6];refine af (show(o.1==(6:Int))=true by simp[h6]) ?_;exact aa (alK hG s o hs hn hg) rfl
 rw[if_neg h6];refine ag (show(o.1==(6:Int))=false by simp[h6]) ?_;exact aa (alF hG s o (hs.sm (by omega))) rfl
structure Bs(n:Nat)(s:StateT):Prop where
 d:Bd n s.1
 g:s.2.length≤n
theorem Bs.mono{n m:Nat}{s:StateT}(h:Bs n s)(hm:n≤m):Bs m s:=⟨h.d.mono hm,by have:=h.g;omega⟩
theorem Bs.zero(n:Nat):Bs n zS:=⟨⟨adb _,adb _,fun w hw=>by simp[zS]at hw⟩,adb _⟩
theorem Bs.one{n:Nat}{s:StateT}(h:Bs n s)(o:bj):Bs (n+3) (j6 s o).1:=by
 have h1:=h.d;have h2:=h.g;unfold j6
 split
 ·exact Bs.zero _
 split
 ·unfold nV;split
  ·exact Bs.zero _
  split
  ·exact Bs.zero _
  ·exact⟨(h1.cW _ (by simp)).mono (by omega),by grind⟩
 split
 ·unfold vj
  cases br s.1 (bh o) with
  |none=>exact Bs.zero _
  |some v =>
   simp only
   split
   ·exact Bs.zero _
   ·exact⟨(h1.aO _ _).mono (by omega),by grind⟩
 split
 ·unfold nT
  split;· exact Bs.zero _
  split;· exact Bs.zero _
  split;· exact Bs.zero _
  split;· exact Bs.zero _
  split;· exact Bs.zero _
  exact⟨by unfold g9;exact((h1.dB _).bU _ _).bU _ _,by grind⟩
 split
 ·unfold D3
  split;· exact Bs.zero _
  refine⟨(((h1.aJ _).aJ _).aO _ _).mono (by omega),?_⟩;have a1:=gO s.2 ((bh o,0),dh s.1 (bh o,0));have a2:=gO (bS s.2 ((bh o,0),dh s.1 (bh o,0))) ((bh o,1),dh s.1 (bh o,1))
  grind
 split
 ·unfold kz
  split;· exact Bs.zero _
  split;· exact Bs.zero _
  split;· exact Bs.zero _
  split;· exact Bs.zero _
  split;· exact Bs.zero _
  refine⟨?_,by grind⟩;have b2:=((h1.aE (Ll o) (aj (G4 o))).dB (bB o,(e0,0)));exact(b2.cW (fi o,(cc [Ll o,G4 o],(e0,0))) (by simp[jy])).mono (by omega)
 split
 ·unfold jT;have key:∀a b:ae,Bs (n+3) (JA s o a b,Jz s.2 a b):=fun a b=>by
   refine⟨(((h1.aO _ _).aE _ _).aO _ _).mono (by omega),?_⟩
   grind [gO,ow,bS,Jz]
  grind [Bs.zero,iZ]
 ·unfold v7
  split
  ·refine⟨⟨by simp;have:=h1.v;omega,by simp;have:=h1.e;omega,fun w hw=>?_⟩,by grind⟩;obtain⟨u,hu,rfl⟩:=acU.1 hw;have hr:=h1.r u hu
   grind [iO]
  ·exact Bs.zero _
def D4:List bj→StateT→StateT×(Int×Unit)
 |[],s=>(s,(0,()))
 |o::r,s=>if(j6 s o).2.1≠0 then(zS,(j6 s o).2) else D4 r (j6 s o).1
def cf(s:StateT)(l:List bj):StateT×(Int×Unit):=if eW l≠0 then(zS,(eW l,())) else D4 l s
theorem Bs.go{l:List bj}:∀{n:Nat} {s:StateT},Bs n s→Bs (n+3*l.length) (D4 l s).1:=by
 induction l with
 |nil=>intro n s h;exact h.mono (by simp)
 |cons o r ih =>
  intro n s h;unfold D4
  split
  ·exact Bs.zero _
  ·exact(ih (h.one o)).mono (by simp;omega)
theorem afX(hG:HG G){n:Nat}(s:StateT)(l:List bj)(hs:Bs n s)(hn:n+3*l.length≤3000000)(ht:∀o∈l,v5 o):FX G 41 Ik ((s,l,()),())=some (cf s l,()):=by
 refine av (hG _ _ rfl) aj7 ?_;refine aa (alE hG l ht) ?_;unfold cf;by_cases h0:eW l=0
 case neg =>
  rw[if_pos h0];exact af (show(eW l != 0)=true by simp[h0]) rfl
 rw[if_neg (by simp[h0])];refine ag (show(eW l != 0)=false by simp[h0]) ?_;have key:=bf l (fun i (s:StateT)=>LX G 41 Ik Tryz.f41 Dx (aF Tryz.prog 41 0) ((i,()),(((s,()),((l,()),((([]:List ai),(([]:List ak),(([]:List aB),()))),()))),()))) (fun(r:List bj) (s:StateT)=>(D4 r s,())) (fun m s=>∃k,Bs k s∧k+3*m≤3000000) (fun s _=>by exact ar Uh (ag (bX _) rfl)) (fun i o r s hi hx uN hk ih=>by
   obtain⟨k,hb,hk⟩:=hk;refine ar Uh ?_;refine af (aN hi) ?_;refine aa (aw hx) ?_;have hbd:=hb.d;have hbg:=hb.g;refine aa (alL hG s o hbd (by omega) (by omega) (ht o (acC hx))) ?_;rw[D4];by_cases h1:(j6 s o).2.1=0
   ·rw[if_neg (by simp[h1])];refine ag (show((j6 s o).2.1 != 0)=false by simp[h1]) ?_;rw[wI,aA hi (show l.length≤1073741824 by omega)];exact ih (j6 s o).1 ⟨k+3,hb.one o,by omega⟩
   ·rw[if_pos h1];exact af (show((j6 s o).2.1 != 0)=true by simp[h1]) rfl)
  s ⟨n,hs,hn⟩
 exact key
def iP(s:StateT)(l:List bj):StateT:=if(cf s l).2.1≠0 then s else(cf s l).1
theorem afY(hG:HG G){n:Nat}(s:StateT)(l:List bj)(hs:Bs n s)(hn:n+3*l.length≤3000000)(ht:∀o∈l,v5 o):FX G 26 QZ ((s,l,()),())=some ((iP s l,()),()):=by
 refine av (hG _ _ rfl) aj9 ?_;refine aa (afX hG s l hs hn ht) ?_;unfold iP;by_cases h1:(cf s l).2.1=0
 ·rw[if_neg (by simp[h1])];exact ag (show((cf s l).2.1 != 0)=false by simp[h1]) rfl
 ·rw[if_pos h1];exact af (show((cf s l).2.1 != 0)=true by simp[h1]) rfl
theorem Bs.try{n:Nat}{s:StateT}{l:List bj}(h:Bs n s):Bs (n+3*l.length) (iP s l):=by
 unfold iP
 split
 ·exact h.mono (by omega)
 ·unfold cf
  split
  ·exact Bs.zero _
  ·exact h.go
def nc:Nat→List (List bj)→StateT→StateT
 |0,_,s=>s
 |_+1,[],s=>s
 |n+1,l::r,s=>nc n r (iP s (l.take 8))
def D5(l:List (List bj)):StateT:=nc 30 l zS
theorem Bs.reach:∀(m:Nat) (l:List (List bj)) {n:Nat} {s:StateT},Bs n s→Bs (n+24*m) (nc m l s)
 |0,_,n,s,h=>by grind [nc]
 |m+1,[],n,s,h=>h.mono (by omega)
 |m+1,l::r,n,s,h=>by
  rw[nc];have h1:Bs (n+3*(l.take 8).length) (iP s (l.take 8)):=h.try;have hl:(l.take 8).length≤8:=by simp;omega
  exact(Bs.reach m r (h1.mono (show n+3*(l.take 8).length≤n+24 by omega))).mono (by omega)
theorem Bs.O8(l:List (List bj)):Bs 720 (D5 l):=(Bs.reach 30 l (Bs.zero 0)).mono (by omega)
end Go.Vs
