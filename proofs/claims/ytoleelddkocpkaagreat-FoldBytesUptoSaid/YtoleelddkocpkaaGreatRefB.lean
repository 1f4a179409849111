/- What the document's reference -/
import Derived.Test.YtoleelddkocpkaaGreatRefA
set_option linter.unusedVariables false
set_option linter.unusedSimpArgs false
namespace Go.Vs
open Go.Proofs
variable {G:(f:FuncId)→(g:aO)→Option (g.A→Option g.B)}
def A7(x:ID):List ai→Int→Int
 |[],_ => -1
 |v::r,i=>if v.1=x then i else A7 x r (i+1)
theorem Mu(x:ID):∀(l:List ai) (i:Int),0≤i→A7 x l i = -1∨(i≤A7 x l i∧A7 x l i<i+l.length)
 |[],i,_=>.inl rfl
 |v::r,i,h=>by
  unfold A7
  split
  ·right;simp;omega
  ·rcases Mu x r (i+1) (by omega) with h|h
   ·exact .inl h
   ·right;simp;omega
theorem aeK(hG:G 227 EE=none)(d:ak)(x:ID)(hs:Sm d):FX G 227 EE ((d,x,()),())=some ((A7 x d.1 0,()),()):=by
 have hv:=hs.v;refine aw hG aiT ?_;have loop:∀(n i:Nat),i+n=d.1.length→LX G 227 EE Tryz.f227 CQ (aM Tryz.prog 227 0) (((i:Int),()),(((d,()),((x,()),())),()))=some ((A7 x (d.1.drop i) i,()),()):=by
  intro n
  induction n with
  |zero =>
   intro i hi;refine au TG ?_;have h1:¬((i:Int)<(d.1.length:Int)):=by omega
   have h2:d.1.drop i=[]:=acP (by omega);rw[h2];simp only[h1,decide_false];rfl
  |succ n ih =>
   intro i hi;refine au TG ?_;have aK:i<d.1.length:=by omega
   have h2:d.1.drop i=d.1[i]::d.1.drop (i+1):=acd aK;have hx:d.1[i]? = some d.1[i]:=abk aK;rw[h2,A7];simp only[aR aK,aG hx,Option.bind_some,lh,aB aK (show d.1.length≤1073741824 by omega)];by_cases he:d.1[i].1=x
   ·have d1:=decide_eq_true he;rw[if_pos he];simp only[d1];rfl
   ·have d1:=decide_eq_false he;rw[if_neg he];simp only[d1];exact ih (i+1) (by omega)
 exact loop d.1.length 0 (by omega)
def HU(d:ak)(e:aj)(out:List Int):List Int :=
 let a:=A7 ((b8 d (e.1,0)).getD zI) d.1 0
 let b:=A7 ((b8 d (e.1,1)).getD zI) d.1 0
 if 0≤a∧0≤b then(out.set a.toNat (min (out.getD a.toNat 0) (out.getD b.toNat 0))).set b.toNat (min (out.getD a.toNat 0) (out.getD b.toNat 0)) else out
def jZ(d:ak):List aj→List Int→List Int
 |[],out=>out
 |e::r,out=>jZ d r (HU d e out)
def Kt(d:ak):Nat→List Int→List Int
 |0,out=>out
 |n+1,out=>Kt d n (jZ d d.2 out)
def EK(n:Nat):List Int:=(List.range n).map fun i=>((i:Nat):Int)
def labels(d:ak):List Int:=Kt d d.1.length (EK d.1.length)
theorem Ku(d:ak)(e:aj)(out:List Int):(HU d e out).length=out.length:=by
 grind [HU]
theorem xf(d:ak):∀(l:List aj) (out:List Int),(jZ d l out).length=out.length
 |[],out=>rfl
 |e::r,out=>by rw[jZ,xf d r,Ku]
theorem Ab(d:ak):∀(n:Nat) (out:List Int),(Kt d n out).length=out.length
 |0,out=>rfl
 |n+1,out=>by rw[Kt,Ab d n,xf]
theorem EL(d:ak):(labels d).length=d.1.length:=by grind [labels,Ab,EK]
theorem aaS(hG:HG G)(d:ak)(hs:Sm d)(n:Int)(R:List Int→List Int) (hR:∀out:List Int,out.length=d.1.length→LX G 211 ub Tryz.f211 yu (aM Tryz.prog 211 1) ((IntKind.wrap .i64 (n+1),()),(((d,()),()),(out,())))=some ((R out,()),())) :
  ∀out:List Int,out.length=d.1.length→LX G 211 ub Tryz.f211 r9 (aM Tryz.prog 211 2) ((n,((0:Int),())),(((d,()),()),(out,())))=some ((R (jZ d d.2 out),()),()):=by
 have hv:=hs.v;have he:=hs.e;have loop:∀(m i:Nat) (out:List Int),i+m=d.2.length→out.length=d.1.length→LX G 211 ub Tryz.f211 r9 (aM Tryz.prog 211 2) ((n,((i:Int),())),(((d,()),()),(out,())))=some ((R (jZ d (d.2.drop i) out),()),()):=by
  intro m
  induction m with
  |zero =>
   intro i out hi ho;have h1:¬((i:Int)<(d.2.length:Int)):=by omega
   have h2:d.2.drop i=[]:=acP (by omega);rw[h2,jZ];refine au TJ ?_;simp only[h1,decide_false];exact hR out ho
  |succ m ih =>
   intro i out hi ho;have aK:i<d.2.length:=by omega
   have h2:d.2.drop i=d.2[i]::d.2.drop (i+1):=acd aK;have hx:d.2[i]? = some d.2[i]:=abk aK;rw[h2,jZ];generalize d.2[i]=e at *;refine au TJ ?_;simp only[aR aK,aG hx,Option.bind_some,aB aK (show d.2.length≤1073741824 by omega)];refine aa (Kr hG d (e.1,0) (by omega) (fun w hw=>by have:=hs.r w hw;omega)) ?_;refine aa (Kr hG d (e.1,1) (by omega) (fun w hw=>by have:=hs.r w hw;omega)) ?_;rw[show(qT zI (b8 d (e.1,0))).1=(b8 d (e.1,0)).getD zI from kI _ _,show(qT zI (b8 d (e.1,1))).1=(b8 d (e.1,1)).getD zI from kI _ _];refine aa (aeK (hG _ _ rfl) d ((b8 d (e.1,0)).getD zI) hs) ?_;refine aa (aeK (hG _ _ rfl) d ((b8 d (e.1,1)).getD zI) hs) ?_;have hL:HU d e out=(if 0≤A7 ((b8 d (e.1,0)).getD zI) d.1 0∧0≤A7 ((b8 d (e.1,1)).getD zI) d.1 0 then(out.set (A7 ((b8 d (e.1,0)).getD zI) d.1 0).toNat (min (out.getD (A7 ((b8 d (e.1,0)).getD zI) d.1 0).toNat 0) (out.getD (A7 ((b8 d (e.1,1)).getD zI) d.1 0).toNat 0))).set (A7 ((b8 d (e.1,1)).getD zI) d.1 0).toNat (min (out.getD (A7 ((b8 d (e.1,0)).getD zI) d.1 0).toNat 0) (out.getD (A7 ((b8 d (e.1,1)).getD zI) d.1 0).toNat 0)) else out):=rfl;have ha:=Mu ((b8 d (e.1,0)).getD zI) d.1 0 (by omega);have hb:=Mu ((b8 d (e.1,1)).getD zI) d.1 0 (by omega);generalize A7 ((b8 d (e.1,0)).getD zI) d.1 0=a at *;generalize A7 ((b8 d (e.1,1)).getD zI) d.1 0=b at *;by_cases h3:0≤a
   case neg =>
    have d3:decide (a≥0)=false:=decide_eq_false h3;rw[hL,if_neg (by omega)];simp only[d3];exact ih (i+1) out (by omega) ho
   have d3:decide (a≥0)=true:=decide_eq_true h3;by_cases h4:0≤b
   case neg =>
    have d4:decide (b≥0)=false:=decide_eq_false h4;rw[hL,if_neg (by omega)];simp only[d3,d4];exact ih (i+1) out (by omega) ho
   have d4:decide (b≥0)=true:=decide_eq_true h4;rw[if_pos ⟨h3,h4⟩]at hL;have hal:a.toNat<out.length:=by omega
   have hbl:b.toNat<out.length:=by omega
   have xa:out[a.toNat]? = some out[a.toNat]:=abk hal;have xb:out[b.toNat]? = some out[b.toNat]:=abk hbl;have ga:out.getD a.toNat 0=out[a.toNat]:=by grind
   have gb:out.getD b.toNat 0=out[b.toNat]:=by grind
   rw[ga,gb]at hL;generalize out[a.toNat]=p at *;generalize out[b.toNat]=q at *;have d5:decide ((0:Int)≤a)=true:=decide_eq_true h3;have d6:decide ((0:Int)≤b)=true:=decide_eq_true h4;have d7:decide (a<((out.length:Nat):Int))=true:=decide_eq_true (by omega);have d8:decide (b<((out.length:Nat):Int))=true:=decide_eq_true (by omega);have hbs:b.toNat<(out.set a.toNat (min p q)).length:=by simp_all
   have d9:decide (b<(((out.set a.toNat (min p q)).length:Nat):Int))=true:=decide_eq_true (by simp;omega);have xs:(out.set a.toNat (min p q))[b.toNat]? = some (out.set a.toNat (min p q))[b.toNat]:=abk hbs;simp only[d3,d4,d5,d6,d7,d8,Bool.and_self,xa,xb,Option.bind_some,d9,xs];rw[hL];exact ih (i+1) ((out.set a.toNat (min p q)).set b.toNat (min p q)) (by omega) (by simp[ho])
 intro out ho;exact loop d.2.length 0 out (by omega) ho
theorem aj0(hG:HG G)(d:ak)(hs:Sm d):FX G 211 ub ((d,()),())=some ((labels d,()),()):=by
 have hv:=hs.v;refine aw (hG _ _ rfl) aiU ?_;have l1:∀(n i:Nat) (out:List Int),i+n=d.1.length→out.length=d.1.length→LX G 211 ub Tryz.f211 yu (aM Tryz.prog 211 1) (((i:Int),()),(((d,()),()),(out,())))=some ((Kt d n out,()),()):=by
  intro n
  induction n with
  |zero =>
   intro i out hi ho;refine au TI ?_;have h1:¬((i:Int)<(d.1.length:Int)):=by omega
   simp only[h1,decide_false];rfl
  |succ n ih =>
   intro i out hi ho;refine au TI ?_;have aK:i<d.1.length:=by omega
   simp only[aR aK];exact aaS hG d hs (i:Int) (Kt d n) (fun out ho=>by rw[aB aK (show d.1.length≤1073741824 by omega)];exact ih (i+1) out (by omega) ho) out ho
 have l0:∀(n i:Nat) (out:List Int),i+n=d.1.length→out=EK i→LX G 211 ub Tryz.f211 CR (aM Tryz.prog 211 0) (((i:Int),()),(((d,()),()),(out,())))=some ((labels d,()),()):=by
  intro n
  induction n with
  |zero =>
   intro i out hi ho;refine au TH ?_;have h1:¬((i:Int)<(d.1.length:Int)):=by omega
   have xy:i=d.1.length:=by omega
   subst xy;simp only[h1,decide_false];have:=l1 d.1.length 0 out (by omega) (by grind [EK]);rw[ho]at this ⊢;exact this
  |succ n ih =>
   intro i out hi ho;refine au TH ?_;have aK:i<d.1.length:=by omega
   have h6:aL out.length [(i:Int)].length=true:=fits (by rw[ho];simp[EK];omega);simp only[aR aK,h6,aB aK (show d.1.length≤1073741824 by omega)];exact ih (i+1) (out++[(i:Int)]) (by omega) (by rw[ho];simp[EK,List.range_succ])
 exact l0 d.1.length 0 [] (by omega) (by simp[EK])
def qo:List Int→Int→Int→Int
 |[],_,n=>n
 |x::r,i,n=>qo r (i+1) (if x=i then IntKind.wrap .i64 (n+1) else n)
def eZ(d:ak):Int:=qo (labels d) 0 0
theorem aj1(hG:HG G)(d:ak)(hs:Sm d):FX G 186 Jz ((d,()),())=some ((eZ d,()),()):=by
 have hv:=hs.v;have hl:=EL d;refine aw (hG _ _ rfl) aiB ?_;refine aa (aj0 hG d hs) ?_;unfold eZ;generalize labels d=l at *;have loop:∀(m i:Nat) (n:Int),i+m=l.length→LX G 186 Jz Tryz.f186 yp (aM Tryz.prog 186 0) ((n,((i:Int),())),((),(l,())))=some ((qo (l.drop i) i n,()),()):=by
  intro m
  induction m with
  |zero =>
   intro i n hi;refine au Tu ?_;have h1:¬((i:Int)<(l.length:Int)):=by omega
   have h2:l.drop i=[]:=acP (by omega);rw[h2];simp only[h1,decide_false];rfl
  |succ m ih =>
   intro i n hi;refine au Tu ?_;have aK:i<l.length:=by omega
   have h2:l.drop i=l[i]::l.drop (i+1):=acd aK;have hx:l[i]? = some l[i]:=abk aK;rw[h2,qo];simp only[aR aK,fj,Bool.and_self,Int.toNat_natCast,hx,Option.bind_some,aB aK (show l.length≤1073741824 by omega)];by_cases he:l[i]=(i:Int)
   ·have d1:(l[i]==(i:Int))=true:=by simp[he]
    rw[if_pos he];simp only[d1];exact ih (i+1) _ (by omega)
   ·have d1:(l[i]==(i:Int))=false:=by simp[he]
    rw[if_neg he];simp only[d1];exact ih (i+1) _ (by omega)
 exact loop l.length 0 0 (by omega)
def vx:List ai→Int→Int
 |[],n=>n
 |v::r,n=>vx r (if v.2.1.length=0 then IntKind.wrap .i64 (n+1) else n)
def Dd(d:ak):Int:=vx d.1 ((((bU d).length:Nat)):Int)
theorem aj2(hG:HG G)(d:ak)(hs:Sm d)(he:d.2.length≤5000000):FX G 149 Hz ((d,()),())=some ((((d.1.length:Nat):Int),(((d.2.length:Nat):Int),(Dd d,(eZ d,())))),()):=by
 have hv:=hs.v;refine aw (hG _ _ rfl) ajk ?_;refine aa (ajY hG d hs he) ?_;unfold Dd;show LX G 149 Hz Tryz.f149 vn (aM Tryz.prog 149 0) ((lI (bU d),((0:Int),())),(((d,()),()),()))=_;unfold lI;generalize (((bU d).length:Nat):Int)=f0;have key:=br d.1 (fun i (n:Int)=>LX G 149 Hz Tryz.f149 vn (aM Tryz.prog 149 0) ((n,(i,())),(((d,()),()),()))) (fun(r:List ai) (n:Int)=>((((d.1.length:Nat):Int),(((d.2.length:Nat):Int),(vx r n,(eZ d,())))),())) (fun _ _=>True) (fun n _=>by refine au TS ?_;simp only[cK];exact aa (aj1 hG d hs) rfl) (fun i y r n hi hx xF _ ih=>by
   refine au TS ?_;simp only[aR hi,aG hx,Option.bind_some,aB hi (show d.1.length≤1073741824 by omega)];by_cases he:y.2.1.length=0
   ·have d1:((((y.2.1.length:Nat)):Int)==0)=true:=by simp[he]
    simp only[d1,vx,if_pos he];simp_all
   ·have d1:((((y.2.1.length:Nat)):Int)==0)=false:=by simp_all
    simp only[d1,vx,if_neg he];simp_all)
  f0 trivial
 exact key
def bP(d:ak):Int:=IntKind.wrap .i64 (Int.tdiv (IntKind.wrap .i64 (IntKind.wrap .i64 (IntKind.wrap .i64 (IntKind.wrap .i64 (2*eZ d)-((d.1.length:Nat):Int))+((d.2.length:Nat):Int))-Dd d)) 2)
theorem aj3(hG:HG G)(d:ak)(hs:Sm d)(he:d.2.length≤5000000):FX G 99 JG ((d,()),())=some ((bP d,()),()):=by refine aw (hG _ _ rfl) ai1 ?_;exact aa (aj2 hG d hs he) rfl
theorem XH{s:ByteArray}{i:Nat}{c:UInt8}(h:s.data.toList[i]? = some c):(if(0:Int)≤(i:Int) then s[Int.toNat (i:Int)]? else none)=some c:=by
 have hi:i<s.size:=by have:=(aby.1 h).1;simp_all
 rw[if_pos (by omega),Int.toNat_natCast,getElem?_pos s i hi];have h2:=(aby.1 h).2;rw[←h2];rfl
def lj(c:UInt8):Bool:=decide (32≤c.toNat)&&decide (c.toNat≤126)
def kj(s:ByteArray):Bool:=s.data.toList.all lj&&decide (s.size≤16)
theorem aj4(hG:G 122 Hs=none)(s:ByteArray)(hs:s.size≤100000000):FX G 122 Hs ((s,()),())=some ((kj s,()),()):=by
 refine aw hG aix ?_;have hl:s.data.toList.length=s.size:=by simp
 have key:=br s.data.toList (fun i (_:Unit)=>LX G 122 Hs Tryz.f122 CJ (aM Tryz.prog 122 0) ((s,(i,())),((),()))) (fun(r:List UInt8) (_:Unit)=>((r.all lj&&decide (s.size≤16),()),())) (fun _ _=>True) (fun _ _=>by
   refine au Ts ?_;rw[hl];have h2:decide (((s.size:Nat):Int)≤16)=decide (s.size≤16):=by
    grind
   simp only[cK,h2,List.all_nil,Bool.true_and];rfl)
  (fun i c r _ hi hx xF _ ih=>by
   refine au Ts ?_;rw[hl]at hi;have hb:=XH hx;simp only[aR hi,hb,Option.bind_some,aB hi (show s.size≤1073741824 by omega)];by_cases h1:c.toNat<32
   ·have d1:decide (((c.toNat:Nat):Int)<32)=true:=decide_eq_true (by omega);have d2:lj c=false:=by grind [lj]
    simp only[d1,List.all_cons,d2,Bool.false_and];rfl
   ·have d1:decide (((c.toNat:Nat):Int)<32)=false:=decide_eq_false (by omega);by_cases h2:126<c.toNat
    ·have d2:decide (((c.toNat:Nat):Int)>126)=true:=decide_eq_true (by omega);have d3:lj c=false:=by grind [lj]
     simp only[d1,d2,List.all_cons,d3,Bool.false_and];rfl
    ·have d2:decide (((c.toNat:Nat):Int)>126)=false:=decide_eq_false (by omega);have d3:lj c=true:=by grind [lj]
     simp only[d1,d2,List.all_cons,d3,Bool.true_and];exact ih () trivial)
  () trivial
 exact key
def jJ(n:Int):Bool:=decide (-1099511627776≤n∧n≤1099511627776)
theorem aj5(hG:G 121 P6=none)(n:Int):FX G 121 P6 ((n,()),())=some ((jJ n,()),()):=by
 refine aw hG aiy ?_;show(cond (decide (n≥-1099511627776)) (some ((decide (n≤1099511627776),()),())) (some ((false,()),())):Option ((Bool×Unit)×Unit))=some ((jJ n,()),())
 grind [jJ]
def AB(c:qP):Bool:=cF c.1&&(lP c.2 || decide (c.2=zD))
theorem aeL(hG:HG G)(c:qP):FX G 120 Qb ((c,()),())=some ((AB c,()),()):=by
 refine aw (hG _ _ rfl) ai6 ?_;refine aa (Qs (hG _ _ rfl) c.1) ?_;refine aa (ajO hG c.2) ?_;have hb:(((c.2.1.1==(0:Int))&&(c.2.1.2==(0:Int)))&&(c.2.2==(0:Int)))=decide (c.2=zD):=lO c.2 zD;unfold AB;simp only[hb]
 cases h1:cF c.1<;>cases h2:lP c.2<;>rfl
def zOp:bg:=(0,(zI,(zI,(zI,(zC,(zC,(false,(e0,0))))))))
def xg(o:bg):bg :=if o.1=3 then(0,(zI,(o.2.2.1,(o.2.2.2.1,(zC,(zC,(o.2.2.2.2.2.2.1,o.2.2.2.2.2.2.2)))))))
 else if o.1=5 then(0,(zI,(zI,(zI,(o.2.2.2.2.1,(o.2.2.2.2.2.1,(o.2.2.2.2.2.2.1,(o.2.2.2.2.2.2.2.1,0))))))))
 else if o.1=6 then(0,(zI,(o.2.2.1,(zI,(o.2.2.2.2.1,(o.2.2.2.2.2.1,(o.2.2.2.2.2.2.1,o.2.2.2.2.2.2.2)))))))
 else if o.1=7 then(0,(zI,(o.2.2.1,(o.2.2.2.1,(o.2.2.2.2.1,(o.2.2.2.2.2.1,(false,(e0,o.2.2.2.2.2.2.2.2))))))))
 else if o.1=8 then(0,(zI,(o.2.2.1,(o.2.2.2.1,(o.2.2.2.2.1,(o.2.2.2.2.2.1,(false,(o.2.2.2.2.2.2.2.1,0))))))))
 else(0,(zI,(o.2.2.1,(o.2.2.2.1,(o.2.2.2.2.1,(o.2.2.2.2.2.1,(o.2.2.2.2.2.2.1,o.2.2.2.2.2.2.2)))))))
theorem aj6(hG:G 119 Qa=none)(o:bg):FX G 119 Qa ((o,()),())=some ((xg o,()),()):=by
 refine aw hG ai5 ?_;unfold xg;by_cases h3:o.1=3
 ·have d:(o.1==(3:Int))=true:=by simp[h3]
  rw[if_pos h3];simp only[d];rfl
 have d3:(o.1==(3:Int))=false:=by simp[h3]
 rw[if_neg h3];by_cases h5:o.1=5
 ·have d:(o.1==(5:Int))=true:=by simp[h5]
  rw[if_pos h5];simp only[d3,d];rfl
 have d5:(o.1==(5:Int))=false:=by simp[h5]
 rw[if_neg h5];by_cases h6:o.1=6
 ·have d:(o.1==(6:Int))=true:=by simp[h6]
  rw[if_pos h6];simp only[d3,d5,d];rfl
 have d6:(o.1==(6:Int))=false:=by simp[h6]
 rw[if_neg h6];by_cases h7:o.1=7
 ·have d:(o.1==(7:Int))=true:=by simp[h7]
  rw[if_pos h7];simp only[d3,d5,d6,d];rfl
 have d7:(o.1==(7:Int))=false:=by simp[h7]
 rw[if_neg h7];by_cases h8:o.1=8
 ·have d:(o.1==(8:Int))=true:=by simp[h8]
  rw[if_pos h8];simp only[d3,d5,d6,d7,d];rfl
 have d8:(o.1==(8:Int))=false:=by simp[h8]
 rw[if_neg h8];simp only[d3,d5,d6,d7,d8];rfl
def AD(x y:bg):Bool :=(x.1==y.1)&&(((x.2.1.1==y.2.1.1)&&(x.2.1.2==y.2.1.2))&&(((x.2.2.1.1==y.2.2.1.1)&&(x.2.2.1.2==y.2.2.1.2))&&(((x.2.2.2.1.1==y.2.2.2.1.1)&&(x.2.2.2.1.2==y.2.2.2.1.2)) && ((((x.2.2.2.2.1.1.1==y.2.2.2.2.1.1.1)&&(x.2.2.2.2.1.1.2==y.2.2.2.2.1.1.2))&&(((x.2.2.2.2.1.2.1.1==y.2.2.2.2.1.2.1.1)&&(x.2.2.2.2.1.2.1.2==y.2.2.2.2.1.2.1.2))&&(x.2.2.2.2.1.2.2==y.2.2.2.2.1.2.2))) && ((((x.2.2.2.2.2.1.1.1==y.2.2.2.2.2.1.1.1)&&(x.2.2.2.2.2.1.1.2==y.2.2.2.2.2.1.1.2))&&(((x.2.2.2.2.2.1.2.1.1==y.2.2.2.2.2.1.2.1.1)&&(x.2.2.2.2.2.1.2.1.2==y.2.2.2.2.2.1.2.1.2))&&(x.2.2.2.2.2.1.2.2==y.2.2.2.2.2.1.2.2))) && ((x.2.2.2.2.2.2.1==y.2.2.2.2.2.2.1)&&((x.2.2.2.2.2.2.2.1==y.2.2.2.2.2.2.2.1)&&(x.2.2.2.2.2.2.2.2==y.2.2.2.2.2.2.2.2))))))))
theorem Kv(x y:bg):AD x y=true↔x=y:=by obtain⟨x1,⟨x2,x3⟩,⟨x4,x5⟩,⟨x6,x7⟩,⟨⟨x8,x9⟩,⟨x10,x11⟩,x12⟩,⟨⟨x13,x14⟩,⟨x15,x16⟩,x17⟩,x18,x19,x20⟩:=x;obtain⟨y1,⟨y2,y3⟩,⟨y4,y5⟩,⟨y6,y7⟩,⟨⟨y8,y9⟩,⟨qS,nW⟩,sd⟩,⟨⟨mO,Ka⟩,⟨xD,Y5⟩,Y6⟩,y18,Y7,Kb⟩:=y;simp_all [AD,XB,and_assoc]
theorem bu{α:Type}{c b:Bool}{x y r:α}(h:c=b)(k:cond (not b) x y=r):cond (not c) x y=r:=by simp_all
def cx(o:bg):Int :=if o.1<1 then 1 else if 8<o.1 then 1 else if cF o.2.1=false then 1 else if AD (xg o) zOp=false then 1
 else if o.1=3 then(if AB o.2.2.2.2.1=true∧AB o.2.2.2.2.2.1=true then 0 else 1)
 else if o.1=5 then(if cF o.2.2.1=true∧cF o.2.2.2.1=true∧0≤o.2.2.2.2.2.2.2.2∧o.2.2.2.2.2.2.2.2≤3 then 0 else 1)
 else if o.1=6 then(if cF o.2.2.2.1=true then 0 else 1)
 else if o.1=8 then(if jJ o.2.2.2.2.2.2.2.2=true then 0 else 1)
 else if o.1=7 then(if kj o.2.2.2.2.2.2.2.1=true then 0 else 4)
 else 0
def I1(n:Int):Option ((Int×Unit)×Unit):=some ((n,()),())
theorem aeM(hG:HG G)(o:bg)(ht:o.2.2.2.2.2.2.2.1.size≤100000000):FX G 86 P7 ((o,()),())=some ((cx o,()),()):=by
 refine aw (hG _ _ rfl) aiJ ?_;refine aa (Qs (hG _ _ rfl) o.2.1) ?_;unfold cx;by_cases h1:o.1<1
 ·rw[if_pos h1];have d:=decide_eq_true h1;simp only[d];rfl
 rw[if_neg h1];have d1:=decide_eq_false h1;by_cases h2:8<o.1
 ·rw[if_pos h2];have d:decide (o.1>8)=true:=decide_eq_true h2;simp only[d1,d];rfl
 rw[if_neg h2];have d2:decide (o.1>8)=false:=decide_eq_false h2
 cases hm:cF o.2.1
 ·rw[if_pos rfl];simp only[d1,d2];rfl
 rw[if_neg (by simp)];simp only[d1,d2];refine aa (aj6 (hG _ _ rfl) o) ?_;refine bu (b:=AD (xg o) zOp) rfl ?_
 cases he:AD (xg o) zOp
 ·rfl
 rw[if_neg (by simp)];by_cases h3:o.1=3
 ·rw[if_pos h3];have d:(o.1==(3:Int))=true:=by simp[h3]
  simp only[d];refine aa (aeL hG o.2.2.2.2.1) ?_;refine aa (aeL hG o.2.2.2.2.2.1) ?_
  cases hc:AB o.2.2.2.2.1<;>cases oE:AB o.2.2.2.2.2.1<;>rfl
 rw[if_neg h3];have d3:(o.1==(3:Int))=false:=by simp[h3]
 by_cases h5:o.1=5
 ·rw[if_pos h5];have d:(o.1==(5:Int))=true:=by simp[h5]
  simp only[d3,d];refine aa (Qs (hG _ _ rfl) o.2.2.1) ?_;refine aa (Qs (hG _ _ rfl) o.2.2.2.1) ?_
  cases hc:cF o.2.2.1
  ·rfl
  cases oE:cF o.2.2.2.1
  ·rfl
  by_cases h6:o.2.2.2.2.2.2.2.2<0
  ·have d6:=decide_eq_true h6;rw[if_neg (by omega)];simp only[d6];rfl
  have d6:=decide_eq_false h6;by_cases h7:o.2.2.2.2.2.2.2.2>3
  ·have d7:=decide_eq_true h7;rw[if_neg (by omega)];simp only[d6,d7];rfl
  have d7:=decide_eq_false h7;rw[if_pos ⟨rfl,rfl,by omega,by omega⟩];simp only[d6,d7];rfl
 rw[if_neg h5];have d5:(o.1==(5:Int))=false:=by simp[h5]
 by_cases h6:o.1=6
 ·rw[if_pos h6];have d:(o.1==(6:Int))=true:=by simp[h6]
  simp only[d3,d5,d];refine aa (Qs (hG _ _ rfl) o.2.2.2.1) ?_
  cases hc:cF o.2.2.2.1<;>rfl
 rw[if_neg h6];have d6:(o.1==(6:Int))=false:=by simp[h6]
 by_cases h8:o.1=8
 ·rw[if_pos h8];have d:(o.1==(8:Int))=true:=by simp[h8]
  simp only[d3,d5,d6,d];refine aa (aj5 (hG _ _ rfl) o.2.2.2.2.2.2.2.2) ?_
  cases hc:jJ o.2.2.2.2.2.2.2.2<;>rfl
 rw[if_neg h8];have d8:(o.1==(8:Int))=false:=by simp[h8]
 by_cases h7:o.1=7
 ·rw[if_pos h7];have d:(o.1==(7:Int))=true:=by simp[h7]
  simp only[d3,d5,d6,d8,d];refine aa (aj4 (hG _ _ rfl) o.2.2.2.2.2.2.2.1 (by omega)) ?_
  cases hc:kj o.2.2.2.2.2.2.2.1<;>rfl
 rw[if_neg h7];have d7:(o.1==(7:Int))=false:=by simp[h7]
 simp only[d3,d5,d6,d8,d7];rfl
def sq(o:bg):Prop:=o.2.2.2.2.2.2.2.1.size≤100000000
def lk:List bg→Int
 |[]=>0
 |o::r=>if cx o≠0 then cx o else lk r
def eU(l:List bg):Int:=if 1≤l.length∧l.length≤6 then lk l else 3
theorem aj7(hG:HG G)(l:List bg)(ht:∀o∈l,sq o):FX G 65 JB ((l,()),())=some ((eU l,()),()):=by
 refine aw (hG _ _ rfl) aiG ?_;unfold eU;by_cases h1:l.length<1
 ·have d:decide (((l.length:Nat):Int)<1)=true:=decide_eq_true (by omega);rw[if_neg (by omega)];simp only[d];rfl
 have d1:decide (((l.length:Nat):Int)<1)=false:=decide_eq_false (by omega);by_cases h2:6<l.length
 ·have d:decide (((l.length:Nat):Int)>6)=true:=decide_eq_true (by omega);rw[if_neg (by omega)];simp only[d1,d];rfl
 have d2:decide (((l.length:Nat):Int)>6)=false:=decide_eq_false (by omega);rw[if_pos (by omega)];simp only[d1,d2];have key:=br l (fun i (_:Unit)=>LX G 65 JB Tryz.f65 CN (aM Tryz.prog 65 0) ((i,()),(((l,()),()),()))) (fun(r:List bg) (_:Unit)=>((lk r,()),())) (fun _ _=>True) (fun _ _=>by refine au Tx ?_;simp only[cK];rfl) (fun i o r _ hi hx xF _ ih=>by
   refine au Tx ?_;simp only[aR hi,aG hx,Option.bind_some,aB hi (show l.length≤1073741824 by omega)];refine aa (aeM hG o (ht o (ab3 hx))) ?_;rw[lk];by_cases h:cx o=0
   ·have d:(cx o != 0)=false:=by simp[h]
    rw[if_neg (by simp[h])];simp only[d];exact ih () trivial
   ·have d:(cx o != 0)=true:=by simp[h]
    rw[if_pos h];simp only[d];rfl)
  () trivial
 exact key
theorem ae{α:Type}{c:Bool}{x y r:α}(h:c=true)(k:x=r):cond c x y=r:=by simp_all
theorem af{α:Type}{c:Bool}{x y r:α}(h:c=false)(k:y=r):cond c x y=r:=by simp_all
theorem cz{a b:Bool}(h:a=true)(k:b=true):(a&&b)=true:=by rw[h,k];rfl
def zS:StateT:=(([],[]),[])
abbrev aZ(o:bg):ID:=o.2.1
abbrev fb(o:bg):ID:=o.2.2.1
abbrev bB(o:bg):ID:=o.2.2.2.1
abbrev oA(o:bg):qP:=o.2.2.2.2.1
abbrev oB(o:bg):qP:=o.2.2.2.2.2.1
abbrev qp(o:bg):Bool:=o.2.2.2.2.2.2.1
abbrev oZ(o:bg):ByteArray:=o.2.2.2.2.2.2.2.1
abbrev oN(o:bg):Int:=o.2.2.2.2.2.2.2.2
def iA(o:bg)(w:ai):ai:=if qp o=false∧w.1=aZ o then(if o.1=7 then(w.1,(w.2.1,(oZ o,w.2.2.2))) else(w.1,(w.2.1,(w.2.2.1,oN o)))) else w
def jK(o:bg)(w:aj):aj:=if qp o=true∧w.1=aZ o then(if o.1=7 then(w.1,(oZ o,w.2.2)) else(w.1,(w.2.1,oN o))) else w
def Kw(o:bg)(l:List ai):Bool := !(qp o)&&l.any fun w=>decide (w.1=aZ o)
def HV(o:bg)(l:List aj):Bool:=qp o&&l.any fun w=>decide (w.1=aZ o)
def vz(s:StateT)(o:bg):StateT×(Int×Unit) :=if Kw o s.1.1 || HV o s.1.2 then(((s.1.1.map (iA o),s.1.2.map (jK o)),s.2),(0,())) else(zS,(13,()))
theorem aaU(s:StateT)(o:bg)(vs:List ai)(hs:Sm s.1):∀(n i:Nat) (fd:Bool) (out fin:List aj),i+n=s.1.2.length→out=(s.1.2.take i).map (jK o)++s.1.2.drop i→fin=s.1.2.map (jK o) → LX G 94 Cq Tryz.f94 r8 (aM Tryz.prog 94 1) ((fd,((i:Int),())),(((s,()),((o,()),((([]:List ai),(([]:List aj),(([]:List ax),()))),((vs,(out,())),())))),())) = some ((if(fd || HV o (s.1.2.drop i)) then((((vs,fin),s.2),((0:Int),())):StateT×(Int×Unit)) else(zS,(13,()))),()):=by
 have he:=hs.e;intro n
 induction n with
 |zero =>
  intro i fd out fin hi ho hf;refine au TE ?_;have Zj:out.length=s.1.2.length:=by simp_all
  have h1:¬((i:Int)<(out.length:Int)):=by omega
  have h2:out=fin:=by simp_all
  have h3:HV o (s.1.2.drop i)=false:=by grind [List.drop_eq_nil_of_le,HV]
  subst h2;rw[h3];simp only[h1,decide_false]
  cases fd<;>rfl
 |succ n ih =>
  intro i fd out fin hi ho hf;refine au TE ?_;have Zj:out.length=s.1.2.length:=by grind
  have aK:i<s.1.2.length:=by omega
  have hx:s.1.2[i]? = some s.1.2[i]:=abk aK;have hg:out[i]? = some s.1.2[i]:=by grind
  have h2:s.1.2.drop i=s.1.2[i]::s.1.2.drop (i+1):=acd aK;have yF:=aR (show i<out.length by omega);have hw:=aB aK (show s.1.2.length≤1073741824 by omega);rw[h2];generalize s.1.2[i]=y at *;have hE:HV o (y::s.1.2.drop (i+1))=((qp o&&decide (y.1=aZ o)) || HV o (s.1.2.drop (i+1))):=by unfold HV;grind
  rw[hE];refine ae yF ?_
  cases hof:qp o
  ·have e1:jK o y=y:=by simp_all [jK,if_neg]
   rw[Bool.false_and,Bool.false_or];refine af hof ?_;rw[wI,hw];exact ih (i+1) fd out fin (by omega) (by grind) hf
  ·rw[Bool.true_and];refine ae hof ?_;refine ae (cz (fj i) yF) ?_;refine aa hg ?_;by_cases hq:y.1=aZ o
   ·refine ae ((lh y.1 (aZ o)).trans (decide_eq_true hq)) ?_;rw[decide_eq_true hq,Bool.true_or,Bool.or_true,wI,hw];by_cases h7:o.1=7
    ·have e1:jK o y=(y.1,(oZ o,y.2.2)):=by simp_all [jK,if_pos]
     refine ae (show(o.1==(7:Int))=true by simp[h7]) ?_;refine ae (cz (fj i) yF) ?_;refine aa hg ?_;have:=ih (i+1) true (out.set i (y.1,(oZ o,y.2.2))) fin (by omega) (by grind [xd]) hf;rw[Bool.true_or]at this;exact this
    ·have e1:jK o y=(y.1,(y.2.1,oN o)):=by simp_all [jK,if_pos,if_neg]
     refine af (show(o.1==(7:Int))=false by simp[h7]) ?_;refine ae (cz (fj i) yF) ?_;refine aa hg ?_;have:=ih (i+1) true (out.set i (y.1,(y.2.1,oN o))) fin (by omega) (by grind [xd]) hf;rw[Bool.true_or]at this;exact this
   ·have e1:jK o y=y:=by simp_all [jK,if_neg]
    refine af ((lh y.1 (aZ o)).trans (decide_eq_false hq)) ?_;rw[decide_eq_false hq,Bool.false_or,wI,hw];exact ih (i+1) fd out fin (by omega) (by grind) hf
theorem aaV(s:StateT)(o:bg)(hs:Sm s.1):∀(n i:Nat) (fd:Bool) (out fin:List ai),i+n=s.1.1.length→out=(s.1.1.take i).map (iA o)++s.1.1.drop i→fin=s.1.1.map (iA o) → LX G 94 Cq Tryz.f94 rZ (aM Tryz.prog 94 0) ((fd,((i:Int),())),(((s,()),((o,()),((([]:List ai),(([]:List aj),(([]:List ax),()))),((out,(s.1.2,())),())))),())) = some ((if((fd || Kw o (s.1.1.drop i)) || HV o s.1.2) then((((fin,s.1.2.map (jK o)),s.2),((0:Int),())):StateT×(Int×Unit)) else(zS,(13,()))),()):=by
 have hv:=hs.v;intro n
 induction n with
 |zero =>
  intro i fd out fin hi ho hf;refine au TD ?_;have Zj:out.length=s.1.1.length:=by simp_all
  have h1:¬((i:Int)<(out.length:Int)):=by omega
  have h2:out=fin:=by simp_all
  have h3:Kw o (s.1.1.drop i)=false:=by grind [List.drop_eq_nil_of_le,Kw]
  subst h2;rw[h3,Bool.or_false];simp only[h1,decide_false];exact aaU s o out hs s.1.2.length 0 fd s.1.2 (s.1.2.map (jK o)) (by omega) (by simp) rfl
 |succ n ih =>
  intro i fd out fin hi ho hf;refine au TD ?_;have Zj:out.length=s.1.1.length:=by grind
  have aK:i<s.1.1.length:=by omega
  have hx:s.1.1[i]? = some s.1.1[i]:=abk aK;have hg:out[i]? = some s.1.1[i]:=by grind
  have h2:s.1.1.drop i=s.1.1[i]::s.1.1.drop (i+1):=acd aK;have yF:=aR (show i<out.length by omega);have hw:=aB aK (show s.1.1.length≤1073741824 by omega);rw[h2];generalize s.1.1[i]=y at *;have hE:Kw o (y::s.1.1.drop (i+1))=((!(qp o)&&decide (y.1=aZ o)) || Kw o (s.1.1.drop (i+1))):=by unfold Kw;grind
  rw[hE];refine ae yF ?_
  cases hof:qp o
  ·rw[Bool.not_false,Bool.true_and];refine ae (show(!(qp o))=true by rw[hof];rfl) ?_;refine ae (cz (fj i) yF) ?_;refine aa hg ?_;by_cases hq:y.1=aZ o
   ·refine ae ((lh y.1 (aZ o)).trans (decide_eq_true hq)) ?_;rw[decide_eq_true hq,Bool.true_or,Bool.or_true,Bool.true_or,wI,hw];by_cases h7:o.1=7
    ·have e1:iA o y=(y.1,(y.2.1,(oZ o,y.2.2.2))):=by simp_all [iA,if_pos]
     refine ae (show(o.1==(7:Int))=true by simp[h7]) ?_;refine ae (cz (fj i) yF) ?_;refine aa hg ?_;have:=ih (i+1) true (out.set i (y.1,(y.2.1,(oZ o,y.2.2.2)))) fin (by omega) (by grind [xd]) hf;rw[Bool.true_or,Bool.true_or]at this;exact this
    ·have e1:iA o y=(y.1,(y.2.1,(y.2.2.1,oN o))):=by simp_all [iA,if_pos,if_neg]
     refine af (show(o.1==(7:Int))=false by simp[h7]) ?_;refine ae (cz (fj i) yF) ?_;refine aa hg ?_;have:=ih (i+1) true (out.set i (y.1,(y.2.1,(y.2.2.1,oN o)))) fin (by omega) (by grind [xd]) hf;rw[Bool.true_or,Bool.true_or]at this;exact this
   ·have e1:iA o y=y:=by simp_all [iA,if_neg]
    refine af ((lh y.1 (aZ o)).trans (decide_eq_false hq)) ?_;rw[decide_eq_false hq,Bool.false_or,wI,hw];exact ih (i+1) fd out fin (by omega) (by grind) hf
  ·have e1:iA o y=y:=by simp_all [iA,if_neg]
   rw[Bool.not_true,Bool.false_and,Bool.false_or];refine af (show(!(qp o))=false by rw[hof];rfl) ?_;rw[wI,hw];exact ih (i+1) fd out fin (by omega) (by grind) hf
theorem aj8(hG:HG G)(s:StateT)(o:bg)(hs:Sm s.1):FX G 94 Cq ((s,o,()),())=some (vz s o,()):=by have hv:=hs.v;have he:=hs.e;refine aw (hG _ _ rfl) aiQ ?_;refine aa (aey (hG _ _ rfl) s.1 (by omega) (by omega) (fun w hw=>by have:=hs.r w hw;omega)) ?_;have:=aaV (G:=G) s o hs s.1.1.length 0 false s.1.1 (s.1.1.map (iA o)) (by omega) (by simp) rfl;rw[Bool.false_or]at this;exact this
structure Bd(n:Nat)(d:ak):Prop where
 v:d.1.length≤n
 e:d.2.length≤n
 r:∀w∈d.1,w.2.1.length≤n
theorem Bd.sm{n:Nat}{d:ak}(h:Bd n d)(hn:n≤50000000):Sm d:=⟨by have:=h.v;omega,by have:=h.e;omega,fun w hw=>by have:=h.r w hw;omega⟩
theorem Bd.mono{n m:Nat}{d:ak}(h:Bd n d)(hm:n≤m):Bd m d:=⟨by have:=h.v;omega,by have:=h.e;omega,fun w hw=>by have:=h.r w hw;omega⟩
theorem fk(v:ai):∀l:List ai,(cU v l).length=l.length+1
 |[]=>rfl
 |w::r=>by unfold cU;split<;>simp[fk v r]
theorem ll(v:aj):∀l:List aj,(dv v l).length=l.length+1
 |[]=>rfl
 |w::r=>by unfold dv;split<;>simp[ll v r]
theorem jL{v w:ai}:∀{l:List ai},w∈cU v l↔w=v∨w∈l
 |[]=>by simp[cU]
 |u::r=>by
  unfold cU
  split
  ·simp
  ·simp only[List.mem_cons,jL (l:=r)];exact⟨fun h=>by rcases h with h|h|h<;>simp[h],fun h=>by rcases h with h|h|h<;>simp[h]⟩
theorem o4{v w:aj}:∀{l:List aj},w∈dv v l↔w=v∨w∈l
 |[]=>by simp[dv]
 |u::r=>by
  unfold dv
  split
  ·simp
  ·simp only[List.mem_cons,o4 (l:=r)];exact⟨fun h=>by rcases h with h|h|h<;>simp[h],fun h=>by rcases h with h|h|h<;>simp[h]⟩
theorem Ac(row:List ab)(a d:ab):(nc row a d).length≤row.length+1:=by
 grind [nc,jn]
theorem Kx(row:List ab)(d:ab):(iz row d).length≤row.length:=by
 grind [iz,jn,List.length_filter_le]
theorem HW(row:List ab)(a d:ab):(fi row a d).length=row.length:=by
 grind [fi,jn]
theorem Bd.bF{n:Nat}{d:ak}(h:Bd n d)(x:ID):(bF d x).length≤n:=by
 unfold Vs.bF
 cases hf:bj d x with
 |none=>simp[zV]
 |some v=>exact h.r v (ab8 hf)
theorem Bd.cf{n:Nat}{d:ak}(h:Bd n d){x:ID}{l:List ab}(hl:l.length≤n):Bd n (cf d x l):=by
 refine⟨by simp[Vs.cf];exact h.v,h.e,fun w hw=>?_⟩;obtain⟨u,hu,rfl⟩:=abW.1 hw;unfold tF
 split
 ·exact hl
 ·exact h.r u hu
theorem Bd.bT{n:Nat}{d:ak}(h:Bd n d)(c:qP)(x:ab):Bd (n+1) (bT d c x) :=(h.mono (by omega)).cf (by have:=Ac (Vs.bF d c.1) c.2 x;have:=h.bF c.1;omega)
theorem Bd.aC{n:Nat}{d:ak}(h:Bd n d)(a x:ab):Bd n (aC d a x) :=h.cf (by rw[HW];exact h.bF _)
theorem Bd.aF{n:Nat}{d:ak}(h:Bd n d)(x:ab):Bd n (aF d x) :=h.cf (by have:=Kx (Vs.bF d ((b8 d x).getD zI)) x;have:=h.bF ((b8 d x).getD zI);omega)
theorem Bd.aJ{n:Nat}{d:ak}(h:Bd n d)(v e:ID):Bd n (aJ d v e) :=⟨ab0 (acn _ _) h.v,ab0 (acn _ _) h.e,fun w hw=>h.r w (acM.1 hw).1⟩
theorem Bd.cU{n:Nat}{d:ak}(h:Bd n d)(v:ai)(hv:v.2.1.length≤n+1):Bd (n+1) (cU v d.1,d.2) :=⟨by rw[fk];have:=h.v;omega,by have:=h.e;grind,fun w hw=>by
  rcases jL.1 hw with rfl|hw
  ·exact hv
  ·have:=h.r w hw;omega⟩
theorem Bd.dv{n:Nat}{d:ak}(h:Bd n d)(v:aj):Bd (n+1) (d.1,dv v d.2) :=⟨by have:=h.v;grind,by rw[ll];have:=h.e;omega,fun w hw=>by have:=h.r w hw;omega⟩
theorem Ad(g:ax):∀l:List ax,(lR g l).length≤l.length+1
 |[]=>by simp[lR]
 |e::r=>by
  unfold lR
  split
  ·have:=acn (fun q:ax=>decide (q.1≠g.1)) (e::r);simp[nX];simp at this;omega
  ·have:=Ad g r
   split<;>simp<;>omega
theorem gH(l:List ax)(g:ax):(bR l g).length≤l.length+1:=by
 grind [bR,Ad]
def gT(s:StateT)(o:bg):ak :=bT (bT (s.1.1,dv (aZ o,(e0,0)) s.1.2) (bA s (oA o)).1 (aZ o,0)) (if(bj s.1 (oB o).1).isSome=true∧(oB o).2=(aZ o,0) then oB o else(bA s (oB o)).1) (aZ o,1)
def nI(s:StateT)(o:bg):StateT×(Int×Unit) :=if(gN s.1 (aZ o)).isSome=true then(zS,(12,()))
 else if 40≤s.1.2.length then(zS,(3,()))
 else if(bA s (oA o)).2.1≠0 then(zS,(13,()))
 else if(bA s (oB o)).2.1≠0 then(zS,(13,()))
 else if bP (gT s o)≠0 then(zS,(15,()))
 else((gT s o,s.2),(0,()))
theorem aj9(hG:HG G){n:Nat}(s:StateT)(o:bg)(hs:Bd n s.1)(hn:n≤4000000)(hg:s.2.length≤50000000):FX G 90 SZ ((s,o,()),())=some (nI s o,()):=by
  have hv:=hs.v;have he:=hs.e;have XI:=hs.sm (by omega);refine aw (hG _ _ rfl) aiM ?_;refine aa (XD (hG _ _ rfl) s.1 (aZ o) (by omega)) ?_;rw[show(qT zE (gN s.1 (aZ o))).2.1=(gN s.1 (aZ o)).isSome from iK _ _];unfold nI
  cases h1:(gN s.1 (aZ o)).isSome
  case true=>rfl
  rw[if_neg (by simp)];by_cases h2:40≤s.1.2.length
  · have d:decide (((s.1.2.length:Nat):Int)≥40)=true:=decide_eq_true (by omega)
    rw[if_pos h2];simp only[d];rfl
  have d2:decide (((s.1.2.length:Nat):Int)≥40)=false:=decide_eq_false (by omega);rw[if_neg h2];simp only[d2];refine aa (aeI hG s (oA o) XI hg) ?_;refine aa (aeI hG s (oB o) XI hg) ?_;refine aa (EJ (hG _ _ rfl) s.1 (oB o).1 (by omega)) ?_;rw[show(qT zV (bj s.1 (oB o).1)).2.1=(bj s.1 (oB o).1).isSome from iK _ _];have b1:=hs.dv (aZ o,(e0,0));have b2:=b1.bT (bA s (oA o)).1 (aZ o,0);have fin:∀(bc:qP),gT s o=bT (bT (s.1.1,dv (aZ o,(e0,0)) s.1.2) (bA s (oA o)).1 (aZ o,0)) bc (aZ o,1) →(cond ((bA s (oA o)).2.1 != 0) (some (((([],[]),[]),((13:Int),())),())) (cond ((bA s (oB o)).2.1 != 0) (some (((([],[]),[]),((13:Int),())),())) ((FX G 125 Av ((s.1,((aZ o,(e0,(0:Int))),())),())).bind fun(y5:((ak×Unit)×Unit)) =>(FX G 126 Aw ((y5.1.1,((bA s (oA o)).1,((aZ o,(0:Int)),()))),())).bind fun(y6:((ak×Unit)×Unit)) =>(FX G 126 Aw ((y6.1.1,(bc,((aZ o,(1:Int)),()))),())).bind fun(y7:((ak×Unit)×Unit)) =>(FX G 99 JG ((y7.1.1,()),())).bind fun(y8:((Int×Unit)×Unit)) =>cond (y8.1.1 != (0:Int)) (some (((([],[]),[]),((15:Int),())),())) (some (((y7.1.1,s.2),((0:Int),())),())))):Option ((StateT×(Int×Unit))×Unit)) = some ((if(bA s (oA o)).2.1≠0 then(zS,(13,())) else if(bA s (oB o)).2.1≠0 then(zS,(13,())) else if bP (gT s o)≠0 then(zS,(15,())) else((gT s o,s.2),(0,())):StateT×(Int×Unit)),()):=by
    intro bc hbc;by_cases h3:(bA s (oA o)).2.1=0
    case neg =>
      have d:((bA s (oA o)).2.1 != 0)=true:=by simp[h3]
      rw[if_pos h3,d];rfl
    rw[if_neg (by simp[h3]),show((bA s (oA o)).2.1 != 0)=false by simp[h3]];by_cases h4:(bA s (oB o)).2.1=0
    case neg =>
      have d:((bA s (oB o)).2.1 != 0)=true:=by simp[h4]
      rw[if_pos h4,d];rfl
    rw[if_neg (by simp[h4]),show((bA s (oB o)).2.1 != 0)=false by simp[h4]];simp only[cond_false];have b3:=b2.bT bc (aZ o,1);rw[←hbc]at b3;refine aa (aeA hG s.1 (aZ o,(e0,0)) (by omega)) ?_;refine aa (aeC hG _ _ _ (b1.sm (by omega))) ?_;refine aa ((aeC hG (bT (s.1.1,dv (aZ o,(e0,0)) s.1.2) (bA s (oA o)).1 (aZ o,0)) bc (aZ o,1) (b2.sm (by omega))).trans (congrArg (fun z:ak=>some ((z,()),())) hbc.symm)) ?_;refine aa (aj3 hG (gT s o) (b3.sm (by omega)) (by have:=b3.e;omega)) ?_;by_cases h5:bP (gT s o)=0
    · simp_all
    · rw[if_pos h5]
      have d:(bP (gT s o) != 0)=true:=by simp[h5]
      simp only[d];rfl
  have hb:((((oB o).2.1.1==o.2.1.1)&&((oB o).2.1.2==o.2.1.2))&&((oB o).2.2==(0:Int)))=decide ((oB o).2=(aZ o,0)):=lO (oB o).2 (aZ o,0);simp only[hb]
  cases h6:(bj s.1 (oB o).1).isSome
  · exact fin (bA s (oB o)).1 (by simp_all [gT,if_neg])
  · by_cases h7:(oB o).2=(aZ o,0)
    · have d:=decide_eq_true h7
      simp only[d];exact fin (oB o) (by simp_all [gT,if_pos])
    · have d:=decide_eq_false h7
      simp only[d];exact fin (bA s (oB o)).1 (by simp_all [gT,if_neg])
def De(s:StateT)(o:bg):StateT×(Int×Unit) :=if(gN s.1 (aZ o)).isSome=false then(zS,(13,()))
 else((aJ (aF (aF s.1 (aZ o,0)) (aZ o,1)) zI (aZ o),bR (bR s.2 ((aZ o,0),db s.1 (aZ o,0))) ((aZ o,1),db s.1 (aZ o,1))),(0,()))
theorem aka(hG:HG G){n:Nat}(s:StateT)(o:bg)(hs:Bd n s.1)(hn:n≤4000000)(hg:s.2.length≤5000000):FX G 91 S4 ((s,o,()),())=some (De s o,()):=by
 have hv:=hs.v;have he:=hs.e;have XI:=hs.sm (by omega);refine aw (hG _ _ rfl) aiN ?_;refine aa (XD (hG _ _ rfl) s.1 (aZ o) (by omega)) ?_;rw[show(qT zE (gN s.1 (aZ o))).2.1=(gN s.1 (aZ o)).isSome from iK _ _];unfold De
 cases h1:(gN s.1 (aZ o)).isSome
 case false=>rfl
 rw[if_neg (by simp)];have b1:=hs.aF (aZ o,0);have b2:=b1.aF (aZ o,1);have l1:=gH s.2 ((aZ o,0),db s.1 (aZ o,0));refine aa (aeF hG s.1 (aZ o,0) XI) ?_;refine aa (XG hG s.2 ((aZ o,0),db s.1 (aZ o,0)) (by omega)) ?_;refine aa (aeF hG s.1 (aZ o,1) XI) ?_;refine aa (XG hG (bR s.2 ((aZ o,0),db s.1 (aZ o,0))) ((aZ o,1),db s.1 (aZ o,1)) (by omega)) ?_;refine aa (aeE hG s.1 (aZ o,0) XI) ?_;refine aa (aeE hG (aF s.1 (aZ o,0)) (aZ o,1) (b1.sm (by omega))) ?_;exact aa (XE (hG _ _ rfl) (aF (aF s.1 (aZ o,0)) (aZ o,1)) zI (aZ o) (by have:=b2.v;omega) (by have:=b2.e;omega)) rfl
def Ky(o:bg):ab:=(aZ o,IntKind.wrap .i64 (1-Int.tmod (oN o) 2))
def Gc(o:bg):ab:=(bB o,IntKind.wrap .i64 (Int.tdiv (oN o) 2))
def Um(s:StateT)(o:bg):ak :=(cU (fb o,(cj [Ky o,Gc o],(e0,0))) (aC s.1 (Ky o) (ag (Gc o))).1,dv (bB o,(e0,0)) (aC s.1 (Ky o) (ag (Gc o))).2)
def kl(s:StateT)(o:bg):StateT×(Int×Unit) :=if(gN s.1 (aZ o)).isSome=false then(zS,(13,()))
 else if(bj s.1 (fb o)).isSome=true then(zS,(12,()))
 else if(gN s.1 (bB o)).isSome=true then(zS,(12,()))
 else if 24≤s.1.1.length then(zS,(3,()))
 else if 40≤s.1.2.length then(zS,(3,()))
 else((Um s o,s.2),(0,()))
theorem akb(hG:HG G){n:Nat}(s:StateT)(o:bg)(hs:Bd n s.1)(hn:n≤4000000):FX G 92 S5 ((s,o,()),())=some (kl s o,()):=by
 have hv:=hs.v;have he:=hs.e;have XI:=hs.sm (by omega);refine aw (hG _ _ rfl) aiO ?_;refine aa (XD (hG _ _ rfl) s.1 (aZ o) (by omega)) ?_;rw[show(qT zE (gN s.1 (aZ o))).2.1=(gN s.1 (aZ o)).isSome from iK _ _];unfold kl
 cases h1:(gN s.1 (aZ o)).isSome
 case false=>rfl
 rw[if_neg (by simp)];refine aa (EJ (hG _ _ rfl) s.1 (fb o) (by omega)) ?_;rw[show(qT zV (bj s.1 (fb o))).2.1=(bj s.1 (fb o)).isSome from iK _ _];refine aa (XD (hG _ _ rfl) s.1 (bB o) (by omega)) ?_;rw[show(qT zE (gN s.1 (bB o))).2.1=(gN s.1 (bB o)).isSome from iK _ _]
 cases h2:(bj s.1 (fb o)).isSome
 case true=>rfl
 rw[if_neg (by simp)]
 cases h3:(gN s.1 (bB o)).isSome
 case true=>rfl
 rw[if_neg (by simp)];by_cases h4:24≤s.1.1.length
 ·have d:decide (((s.1.1.length:Nat):Int)≥24)=true:=decide_eq_true (by omega);rw[if_pos h4];simp only[d];rfl
 have d4:decide (((s.1.1.length:Nat):Int)≥24)=false:=decide_eq_false (by omega);rw[if_neg h4];by_cases h5:40≤s.1.2.length
 ·have d:decide (((s.1.2.length:Nat):Int)≥40)=true:=decide_eq_true (by omega);rw[if_pos h5];simp only[d4,d];rfl
 have d5:decide (((s.1.2.length:Nat):Int)≥40)=false:=decide_eq_false (by omega);rw[if_neg h5];simp only[d4,d5];have d6:((2:Int)==0)=false:=rfl;simp only[d6];have b1:=hs.aC (Ky o) (ag (Gc o));have b2:=b1.dv (bB o,(e0,0));refine aa (aaN (hG _ _ rfl) (Gc o)) ?_;refine aa (aeD hG s.1 (Ky o) (ag (Gc o)) XI) ?_;refine aa (aeA hG (aC s.1 (Ky o) (ag (Gc o))) (bB o,(e0,0)) (by have:=b1.e;omega)) ?_;refine aa (Kq hG [Ky o,Gc o] (by simp)) ?_;exact aa (aez hG ((aC s.1 (Ky o) (ag (Gc o))).1,dv (bB o,(e0,0)) (aC s.1 (Ky o) (ag (Gc o))).2) (fb o,(cj [Ky o,Gc o],(e0,0))) (ab0 b1.v (by omega))) rfl
def nY(a b:ab)(i:Int):ab:=if(b.1,i)=ag b then a else zD
def IC(g:List ax)(a b:ab):List ax:=bR (bR g ((b.1,0),nY a b 0)) ((b.1,1),nY a b 1)
def IE(s:StateT)(o:bg)(a b:ab):ak:=aJ (aC (aJ s.1 (aZ o) zI) (ag b) a) zI b.1
theorem akc(hG:HG G)(g:List ax)(a b:ab)(d:ak)(hg:g.length≤5000000) :
  LX G 93 Au Tryz.f93 mH (aM Tryz.prog 93 0) ((g,((0:Int),())),(((([]:List ai),(([]:List aj),(([]:List ax),()))),((a,()),((b,()),((ag b,()),((d,()),()))))),()))=some (((d,IC g a b),((0:Int),())),()):=by
 have l2:∀g2:List ax,LX G 93 Au Tryz.f93 mH (aM Tryz.prog 93 0) ((g2,((2:Int),())),(((([]:List ai),(([]:List aj),(([]:List ax),()))),((a,()),((b,()),((ag b,()),((d,()),()))))),()))=some (((d,g2),((0:Int),())),()):=fun g2 =>au TC (af rfl rfl);have step:∀(i:Int) (g1:List ax) (r:(StateT×(Int×Unit))×Unit),i<2→g1.length≤5000001→LX G 93 Au Tryz.f93 mH (aM Tryz.prog 93 0) ((bR g1 ((b.1,i),nY a b i),(IntKind.wrap .i64 (i+1),())),(((([]:List ai),(([]:List aj),(([]:List ax),()))),((a,()),((b,()),((ag b,()),((d,()),()))))),()))=some r → LX G 93 Au Tryz.f93 mH (aM Tryz.prog 93 0) ((g1,(i,())),(((([]:List ai),(([]:List aj),(([]:List ax),()))),((a,()),((b,()),((ag b,()),((d,()),()))))),()))=some r:=fun i g1 r hi hg1 h=>by
  refine au TC ?_;refine ae (decide_eq_true hi) ?_;unfold nY at h;by_cases he:((b.1,i):ab)=ag b
  ·rw[if_pos he]at h;refine ae ((lO (b.1,i) (ag b)).trans (decide_eq_true he)) ?_;refine aa (XG hG g1 ((b.1,i),a) (by omega)) ?_;exact h
  ·rw[if_neg he]at h;refine af ((lO (b.1,i) (ag b)).trans (decide_eq_false he)) ?_;refine aa (XG hG g1 ((b.1,i),zD) (by omega)) ?_;exact h
 have a1:=gH g ((b.1,0),nY a b 0);refine step 0 g _ (by omega) (by omega) ?_;refine step 1 _ _ (by omega) (by omega) ?_;exact l2 _
def iM(s:StateT)(o:bg)(r0 r1:ab):StateT×(Int×Unit) :=if r0.1=r1.1 then(zS,(14,()))
 else if r0.1=bB o then((IE s o r1 r0,IC s.2 r1 r0),(0,()))
 else if r1.1=bB o then((IE s o r0 r1,IC s.2 r0 r1),(0,()))
 else(zS,(14,()))
def jM(s:StateT)(o:bg):StateT×(Int×Unit):=match bj s.1 (aZ o) with
 |none=>(zS,(13,()))
 |some v=>match v.2.1 with
  |[r0,r1]=>iM s o r0 r1
  |_=>(zS,(14,()))
theorem akd(hG:HG G){n:Nat}(s:StateT)(o:bg)(hs:Bd n s.1)(hn:n≤4000000)(hg:s.2.length≤5000000):FX G 93 Au ((s,o,()),())=some (jM s o,()):=by
  have hv:=hs.v;have he:=hs.e;have XI:=hs.sm (by omega);refine aw (hG _ _ rfl) aiP ?_;refine aa (EJ (hG _ _ rfl) s.1 (aZ o) (by omega)) ?_;unfold jM
  cases hf:bj s.1 (aZ o) with
  |none=>rfl
  |some v =>
    refine af (show(!true)=false from rfl) ?_;have two:∀(a b:ab) (r:Option ((StateT×(Int×Unit))×Unit)),r=some (((IE s o a b,IC s.2 a b),((0:Int),())),()) →((FX G 131 EB ((b,()),())).bind fun(y8:((ab×Unit)×Unit)) =>(FX G 89 qj ((s.1,(aZ o,(zI,()))),())).bind fun(y9:((ak×Unit)×Unit)) =>(FX G 130 JI ((y9.1.1,(y8.1.1,(a,()))),())).bind fun(qS:((ak×Unit)×Unit)) =>(FX G 89 qj ((qS.1.1,(zI,(b.1,()))),())).bind fun(nW:((ak×Unit)×Unit)) =>LX G 93 Au Tryz.f93 mH (aM Tryz.prog 93 0) ((s.2,((0:Int),())),(((([]:List ai),(([]:List aj),(([]:List ax),()))),((a,()),((b,()),((y8.1.1,()),((nW.1.1,()),()))))),())))=r:=fun a b r hr=>by subst hr;have b1:=hs.aJ (aZ o) zI;have b2:=b1.aC (ag b) a;refine aa (aaN (hG _ _ rfl) b) ?_;refine aa (XE (hG _ _ rfl) s.1 (aZ o) zI (by omega) (by omega)) ?_;refine aa (aeD hG (aJ s.1 (aZ o) zI) (ag b) a (b1.sm (by omega))) ?_;refine aa (XE (hG _ _ rfl) (aC (aJ s.1 (aZ o) zI) (ag b) a) zI b.1 (by have:=b2.v;omega) (by have:=b2.e;omega)) ?_;exact akc hG s.2 a b (IE s o a b) hg
    obtain⟨vi,ring,vr⟩:=v;by_cases hl:ring.length=2
    case neg =>
      refine ae (show((((ring.length:Nat):Int)) != 2)=true by simp;omega) ?_
      match ring,hl with
      |[],_=>rfl
      |[_],_=>rfl
      |[_,_],h=>simp_all
      |_::_::_::_,_=>rfl
    match ring,hl with
    |[r0,r1],_ =>
      refine af (show((((2:Nat):Int)) != 2)=false from rfl) ?_;refine aa (show aW [r0,r1] 0=some r0 from rfl) ?_;refine aa (show aW [r0,r1] 1=some r1 from rfl) ?_;show _=some (iM s o r0 r1,());unfold iM;by_cases h1:r0.1=r1.1
      · rw[if_pos h1]
        exact ae ((lh r0.1 r1.1).trans (decide_eq_true h1)) rfl
      rw[if_neg h1];refine af ((lh r0.1 r1.1).trans (decide_eq_false h1)) ?_;refine aa (show aW [r0,r1] 0=some r0 from rfl) ?_;refine aa (show aW [r0,r1] 1=some r1 from rfl) ?_;by_cases h2:r0.1=bB o
      · rw[if_pos h2]
        refine ae ((lh r0.1 (bB o)).trans (decide_eq_true h2)) ?_;refine aa (show aW [r0,r1] 1=some r1 from rfl) ?_;refine aa (show aW [r0,r1] 0=some r0 from rfl) ?_;refine af (by simp_all) ?_;exact two r1 r0 _ rfl
      rw[if_neg h2];refine af ((lh r0.1 (bB o)).trans (decide_eq_false h2)) ?_;by_cases h3:r1.1=bB o
      · rw[if_pos h3]
        refine af (by simp_all) ?_;exact two r0 r1 _ rfl
      · rw[if_neg h3]
        exact ae (by grind) rfl
def nJ(s:StateT)(o:bg):StateT×(Int×Unit) :=if(bj s.1 (aZ o)).isSome=true then(zS,(12,())) else if 24≤s.1.1.length then(zS,(3,())) else(((cU (aZ o,([],(e0,0))) s.1.1,s.1.2),s.2),(0,()))
def uI(s:StateT)(o:bg):StateT×(Int×Unit):=match bj s.1 (aZ o) with
 |none=>(zS,(13,()))
 |some v=>if 0<v.2.1.length then(zS,(14,())) else((aJ s.1 (aZ o) zI,s.2),(0,()))
def jW(s:StateT)(o:bg):StateT×(Int×Unit) :=if cx o≠0 then(zS,(cx o,()))
 else if o.1=1 then nJ s o else if o.1=2 then uI s o else if o.1=3 then nI s o else if o.1=4 then De s o else if o.1=5 then kl s o else if o.1=6 then jM s o else vz s o
theorem ake(hG:HG G){n:Nat}(s:StateT)(o:bg)(hs:Bd n s.1)(hn:n≤4000000)(hg:s.2.length≤5000000)(ht:sq o):FX G 66 SV ((s,o,()),())=some (jW s o,()):=by
 have hv:=hs.v;have he:=hs.e;refine aw (hG _ _ rfl) aim ?_;refine aa (aeM hG o ht) ?_;unfold jW;by_cases h0:cx o=0
 case neg =>
  rw[if_pos h0];exact ae (show(cx o != 0)=true by simp[h0]) rfl
 rw[if_neg (by simp[h0])];refine af (show(cx o != 0)=false by simp[h0]) ?_;refine aa (EJ (hG _ _ rfl) s.1 (aZ o) (by omega)) ?_;by_cases h1:o.1=1
 ·rw[if_pos h1];refine ae (show(o.1==(1:Int))=true by simp[h1]) ?_;rw[show(qT zV (bj s.1 (aZ o))).2.1=(bj s.1 (aZ o)).isSome from iK _ _];unfold nJ
  cases hf:(bj s.1 (aZ o)).isSome
  ·rw[if_neg (by simp)];refine af rfl ?_;by_cases h4:24≤s.1.1.length
   ·rw[if_pos h4];exact ae (decide_eq_true (show((s.1.1.length:Nat):Int)≥24 by omega)) rfl
   ·rw[if_neg h4];refine af (decide_eq_false (show ¬((s.1.1.length:Nat):Int)≥24 by omega)) ?_;exact aa (aez hG s.1 (aZ o,([],(e0,0))) (by omega)) rfl
  rfl
 rw[if_neg h1];refine af (show(o.1==(1:Int))=false by simp[h1]) ?_;by_cases h2:o.1=2
 ·rw[if_pos h2];refine ae (show(o.1==(2:Int))=true by simp[h2]) ?_;unfold uI
  cases hf:bj s.1 (aZ o) with
  |none=>rfl
  |some v =>
   refine af (show(!true)=false from rfl) ?_;by_cases h4:0<v.2.1.length
   ·show _=some ((if 0<v.2.1.length then(zS,(14,())) else((aJ s.1 (aZ o) zI,s.2),(0,())):StateT×(Int×Unit)),());rw[if_pos h4];exact ae (decide_eq_true (show((v.2.1.length:Nat):Int)>0 by omega)) rfl
   ·show _=some ((if 0<v.2.1.length then(zS,(14,())) else((aJ s.1 (aZ o) zI,s.2),(0,())):StateT×(Int×Unit)),());rw[if_neg h4];refine af (decide_eq_false (show ¬((v.2.1.length:Nat):Int)>0 by omega)) ?_;exact aa (XE (hG _ _ rfl) s.1 (aZ o) zI (by omega) (by omega)) rfl
 rw[if_neg h2];refine af (show(o.1==(2:Int))=false by simp[h2]) ?_;by_cases h3:o.1=3
 ·rw[if_pos h3];refine ae (show(o.1==(3:Int))=true by simp[h3]) ?_;exact aa (aj9 hG s o hs hn (by omega)) rfl
 rw[if_neg h3];refine af (show(o.1==(3:Int))=false by simp[h3]) ?_;by_cases h4:o.1=4
 ·rw[if_pos h4];refine ae (show(o.1==(4:Int))=true by simp[h4]) ?_;exact aa (aka hG s o hs hn hg) rfl
 rw[if_neg h4];refine af (show(o.1==(4:Int))=false by simp[h4]) ?_;by_cases h5:o.1=5
 ·rw[if_pos h5];refine ae (show(o.1==(5:Int))=true by simp[h5]) ?_;exact aa (akb hG s o hs hn) rfl
 rw[if_neg h5];refine af (show(o.1==(5:Int))=false by simp[h5]) ?_;by_cases h6:o.1=6
 ·rw[if_pos h6];refine ae (show(o.1==(6:Int))=true by simp[h6]) ?_;exact aa (akd hG s o hs hn hg) rfl
 rw[if_neg h6];refine af (show(o.1==(6:Int))=false by simp[h6]) ?_;exact aa (aj8 hG s o (hs.sm (by omega))) rfl
structure Bs(n:Nat)(s:StateT):Prop where
 d:Bd n s.1
 g:s.2.length≤n
theorem Bs.mono{n m:Nat}{s:StateT}(h:Bs n s)(hm:n≤m):Bs m s:=⟨h.d.mono hm,by have:=h.g;omega⟩
theorem Bs.zero(n:Nat):Bs n zS:=⟨⟨acg _,acg _,fun w hw=>by simp[zS]at hw⟩,acg _⟩
theorem Bs.one{n:Nat}{s:StateT}(h:Bs n s)(o:bg):Bs (n+3) (jW s o).1:=by
 have h1:=h.d;have h2:=h.g;unfold jW
 split
 ·exact Bs.zero _
 split
 ·unfold nJ;split
  ·exact Bs.zero _
  split
  ·exact Bs.zero _
  ·exact⟨(h1.cU _ (by simp)).mono (by omega),by grind⟩
 split
 ·unfold uI
  cases bj s.1 (aZ o) with
  |none=>exact Bs.zero _
  |some v =>
   simp only
   split
   ·exact Bs.zero _
   ·exact⟨(h1.aJ _ _).mono (by omega),by grind⟩
 split
 ·unfold nI
  split;· exact Bs.zero _
  split;· exact Bs.zero _
  split;· exact Bs.zero _
  split;· exact Bs.zero _
  split;· exact Bs.zero _
  exact⟨by unfold gT;exact((h1.dv _).bT _ _).bT _ _,by grind⟩
 split
 ·unfold De
  split;· exact Bs.zero _
  refine⟨(((h1.aF _).aF _).aJ _ _).mono (by omega),?_⟩;have a1:=gH s.2 ((aZ o,0),db s.1 (aZ o,0));have a2:=gH (bR s.2 ((aZ o,0),db s.1 (aZ o,0))) ((aZ o,1),db s.1 (aZ o,1))
  grind
 split
 ·unfold kl
  split;· exact Bs.zero _
  split;· exact Bs.zero _
  split;· exact Bs.zero _
  split;· exact Bs.zero _
  split;· exact Bs.zero _
  refine⟨?_,by grind⟩;have b2:=((h1.aC (Ky o) (ag (Gc o))).dv (bB o,(e0,0)));exact(b2.cU (fb o,(cj [Ky o,Gc o],(e0,0))) (by simp[jn])).mono (by omega)
 split
 ·unfold jM;have key:∀a b:ab,Bs (n+3) (IE s o a b,IC s.2 a b):=fun a b=>by
   refine⟨(((h1.aJ _ _).aC _ _).aJ _ _).mono (by omega),?_⟩
   grind [gH,nY,bR,IC]
  grind [Bs.zero,iM]
 ·unfold vz
  split
  ·refine⟨⟨by simp;have:=h1.v;omega,by simp;have:=h1.e;omega,fun w hw=>?_⟩,by grind⟩;obtain⟨u,hu,rfl⟩:=abW.1 hw;have hr:=h1.r u hu
   grind [iA]
  ·exact Bs.zero _
def Df:List bg→StateT→StateT×(Int×Unit)
 |[],s=>(s,(0,()))
 |o::r,s=>if(jW s o).2.1≠0 then(zS,(jW s o).2) else Df r (jW s o).1
def cv(s:StateT)(l:List bg):StateT×(Int×Unit):=if eU l≠0 then(zS,(eU l,())) else Df l s
theorem Bs.go{l:List bg}:∀{n:Nat} {s:StateT},Bs n s→Bs (n+3*l.length) (Df l s).1:=by
 induction l with
 |nil=>intro n s h;exact h.mono (by simp)
 |cons o r ih =>
  intro n s h;unfold Df
  split
  ·exact Bs.zero _
  ·exact(ih (h.one o)).mono (by simp;omega)
theorem akf(hG:HG G){n:Nat}(s:StateT)(l:List bg)(hs:Bs n s)(hn:n+3*l.length≤3000000)(ht:∀o∈l,sq o):FX G 41 JA ((s,l,()),())=some (cv s l,()):=by
 refine aw (hG _ _ rfl) aiC ?_;refine aa (aj7 hG l ht) ?_;unfold cv;by_cases h0:eU l=0
 case neg =>
  rw[if_pos h0];exact ae (show(eU l != 0)=true by simp[h0]) rfl
 rw[if_neg (by simp[h0])];refine af (show(eU l != 0)=false by simp[h0]) ?_;have key:=br l (fun i (s:StateT)=>LX G 41 JA Tryz.f41 CL (aM Tryz.prog 41 0) ((i,()),(((s,()),((l,()),((([]:List ai),(([]:List aj),(([]:List ax),()))),()))),()))) (fun(r:List bg) (s:StateT)=>(Df r s,())) (fun m s=>∃k,Bs k s∧k+3*m≤3000000) (fun s _=>by exact au Tv (af (cK _) rfl)) (fun i o r s hi hx xF hk ih=>by
   obtain⟨k,hb,hk⟩:=hk;refine au Tv ?_;refine ae (aR hi) ?_;refine aa (aG hx) ?_;have hbd:=hb.d;have hbg:=hb.g;refine aa (ake hG s o hbd (by omega) (by omega) (ht o (ab3 hx))) ?_;rw[Df];by_cases h1:(jW s o).2.1=0
   ·rw[if_neg (by simp[h1])];refine af (show((jW s o).2.1 != 0)=false by simp[h1]) ?_;rw[wI,aB hi (show l.length≤1073741824 by omega)];exact ih (jW s o).1 ⟨k+3,hb.one o,by omega⟩
   ·rw[if_pos h1];exact ae (show((jW s o).2.1 != 0)=true by simp[h1]) rfl)
  s ⟨n,hs,hn⟩
 exact key
def iB(s:StateT)(l:List bg):StateT:=if(cv s l).2.1≠0 then s else(cv s l).1
theorem akg(hG:HG G){n:Nat}(s:StateT)(l:List bg)(hs:Bs n s)(hn:n+3*l.length≤3000000)(ht:∀o∈l,sq o):FX G 26 SX ((s,l,()),())=some ((iB s l,()),()):=by
 refine aw (hG _ _ rfl) aiE ?_;refine aa (akf hG s l hs hn ht) ?_;unfold iB;by_cases h1:(cv s l).2.1=0
 ·rw[if_neg (by simp[h1])];exact af (show((cv s l).2.1 != 0)=false by simp[h1]) rfl
 ·rw[if_pos h1];exact ae (show((cv s l).2.1 != 0)=true by simp[h1]) rfl
theorem Bs.try{n:Nat}{s:StateT}{l:List bg}(h:Bs n s):Bs (n+3*l.length) (iB s l):=by
 unfold iB
 split
 ·exact h.mono (by omega)
 ·unfold cv
  split
  ·exact Bs.zero _
  ·exact h.go
def mQ:Nat→List (List bg)→StateT→StateT
 |0,_,s=>s
 |_+1,[],s=>s
 |n+1,l::r,s=>mQ n r (iB s (l.take 8))
def Dg(l:List (List bg)):StateT:=mQ 30 l zS
theorem Bs.reach:∀(m:Nat) (l:List (List bg)) {n:Nat} {s:StateT},Bs n s→Bs (n+24*m) (mQ m l s)
 |0,_,n,s,h=>by grind [mQ]
 |m+1,[],n,s,h=>h.mono (by omega)
 |m+1,l::r,n,s,h=>by
  rw[mQ];have h1:Bs (n+3*(l.take 8).length) (iB s (l.take 8)):=h.try;have hl:(l.take 8).length≤8:=by simp;omega
  exact(Bs.reach m r (h1.mono (show n+3*(l.take 8).length≤n+24 by omega))).mono (by omega)
theorem Bs.N9(l:List (List bg)):Bs 720 (Dg l):=(Bs.reach 30 l (Bs.zero 0)).mono (by omega)
end Go.Vs
