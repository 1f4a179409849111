/- What the document's reference -/
import Derived.Test.YtpkfpbpbkabkdaaGreatRefA
set_option linter.unusedVariables false
set_option linter.unusedSimpArgs false
namespace Go.Vs
open Go.Proofs
variable {G:(f:FuncId)→(g:aX)→Option (g.A→Option g.B)}
def CM(x:ID):List ai→Int→Int
 |[],_ => -1
 |v::r,i=>if v.1=x then i else CM x r (i+1)
theorem Om(x:ID):∀(l:List ai) (i:Int),0≤i→CM x l i = -1∨(i≤CM x l i∧CM x l i<i+l.length)
 |[],i,_=>.inl rfl
 |v::r,i,h=>by
  unfold CM
  split
  ·right;simp;omega
  ·rcases Om x r (i+1) (by omega) with h|h
   ·exact .inl h
   ·right;simp;omega
theorem agJ(hG:G 217 GF=none)(d:ak)(x:ID)(hs:Sm d):FX G 217 GF ((d,x,()),())=some ((CM x d.1 0,()),()):=by
 have hv:=hs.v;refine aC hG akY ?_;have loop:∀(n i:Nat),i+n=d.1.length→LX G 217 GF Tryz.f217 EB (aY Tryz.prog 217 0) (((i:Int),()),(((d,()),((x,()),())),()))=some ((CM x (d.1.drop i) i,()),()):=by
  intro n
  induction n with
  |zero =>
   intro i hi;refine aB Vu ?_;have h1:¬((i:Int)<(d.1.length:Int)):=by omega
   have h2:d.1.drop i=[]:=adU (by omega);rw[h2];simp only[h1,decide_false];rfl
  |succ n ih =>
   intro i hi;refine aB Vu ?_;have aK:i<d.1.length:=by omega
   have h2:d.1.drop i=d.1[i]::d.1.drop (i+1):=adj aK;have hx:d.1[i]? = some d.1[i]:=aba aK;rw[h2,CM];simp only[bj aK,aT hx,Option.bind_some,iL,aN aK (show d.1.length≤1073741824 by omega)];by_cases he:d.1[i].1=x
   ·have d1:=decide_eq_true he;rw[if_pos he];simp only[d1];rfl
   ·have d1:=decide_eq_false he;rw[if_neg he];simp only[d1];exact ih (i+1) (by omega)
 exact loop d.1.length 0 (by omega)
def Jy(d:ak)(e:aj)(out:List Int):List Int :=
 let a:=CM ((bM d (e.1,0)).getD zI) d.1 0
 let b:=CM ((bM d (e.1,1)).getD zI) d.1 0
 if 0≤a∧0≤b then(out.set a.toNat (min (out.getD a.toNat 0) (out.getD b.toNat 0))).set b.toNat (min (out.getD a.toNat 0) (out.getD b.toNat 0)) else out
def kO(d:ak):List aj→List Int→List Int
 |[],out=>out
 |e::r,out=>kO d r (Jy d e out)
def L4(d:ak):Nat→List Int→List Int
 |0,out=>out
 |n+1,out=>L4 d n (kO d d.2 out)
def GJ(n:Nat):List Int:=(List.range n).map fun i=>((i:Nat):Int)
def labels(d:ak):List Int:=L4 d d.1.length (GJ d.1.length)
theorem L5(d:ak)(e:aj)(out:List Int):(Jy d e out).length=out.length:=by unfold Jy;simp only;split<;>simp
theorem yT(d:ak):∀(l:List aj) (out:List Int),(kO d l out).length=out.length
 |[],out=>rfl
 |e::r,out=>by rw[kO,yT d r,L5]
theorem BN(d:ak):∀(n:Nat) (out:List Int),(L4 d n out).length=out.length
 |0,out=>rfl
 |n+1,out=>by rw[L4,BN d n,yT]
theorem GK(d:ak):(labels d).length=d.1.length:=by unfold labels;rw[BN];simp[GJ]
theorem acq(hG:HG G)(d:ak)(hs:Sm d)(n:Int)(R:List Int→List Int) (hR:∀out:List Int,out.length=d.1.length→LX G 193 vA Tryz.f193 Ah (aY Tryz.prog 193 1) ((IntKind.wrap .i64 (n+1),()),(((d,()),()),(out,())))=some ((R out,()),())) :
  ∀out:List Int,out.length=d.1.length→LX G 193 vA Tryz.f193 tS (aY Tryz.prog 193 2) ((n,((0:Int),())),(((d,()),()),(out,())))=some ((R (kO d d.2 out),()),()):=by
 have hv:=hs.v;have he:=hs.e;have loop:∀(m i:Nat) (out:List Int),i+m=d.2.length→out.length=d.1.length→LX G 193 vA Tryz.f193 tS (aY Tryz.prog 193 2) ((n,((i:Int),())),(((d,()),()),(out,())))=some ((R (kO d (d.2.drop i) out),()),()):=by
  intro m
  induction m with
  |zero =>
   intro i out hi ho;have h1:¬((i:Int)<(d.2.length:Int)):=by omega
   have h2:d.2.drop i=[]:=adU (by omega);rw[h2,kO];refine aB Vx ?_;simp only[h1,decide_false];exact hR out ho
  |succ m ih =>
   intro i out hi ho;have aK:i<d.2.length:=by omega
   have h2:d.2.drop i=d.2[i]::d.2.drop (i+1):=adj aK;have hx:d.2[i]? = some d.2[i]:=aba aK;rw[h2,kO];generalize d.2[i]=e at *;refine aB Vx ?_;simp only[bj aK,aT hx,Option.bind_some,aN aK (show d.2.length≤1073741824 by omega)];refine aa (Jw hG d (e.1,0) (by omega) (fun w hw=>by have:=hs.r w hw;omega)) ?_;refine aa (Jw hG d (e.1,1) (by omega) (fun w hw=>by have:=hs.r w hw;omega)) ?_;rw[show(ia zI (bM d (e.1,0))).1=(bM d (e.1,0)).getD zI from dG _ _,show(ia zI (bM d (e.1,1))).1=(bM d (e.1,1)).getD zI from dG _ _];refine aa (agJ (hG _ _ rfl) d ((bM d (e.1,0)).getD zI) hs) ?_;refine aa (agJ (hG _ _ rfl) d ((bM d (e.1,1)).getD zI) hs) ?_;have hL:Jy d e out=(if 0≤CM ((bM d (e.1,0)).getD zI) d.1 0∧0≤CM ((bM d (e.1,1)).getD zI) d.1 0 then(out.set (CM ((bM d (e.1,0)).getD zI) d.1 0).toNat (min (out.getD (CM ((bM d (e.1,0)).getD zI) d.1 0).toNat 0) (out.getD (CM ((bM d (e.1,1)).getD zI) d.1 0).toNat 0))).set (CM ((bM d (e.1,1)).getD zI) d.1 0).toNat (min (out.getD (CM ((bM d (e.1,0)).getD zI) d.1 0).toNat 0) (out.getD (CM ((bM d (e.1,1)).getD zI) d.1 0).toNat 0)) else out):=rfl;have ha:=Om ((bM d (e.1,0)).getD zI) d.1 0 (by omega);have hb:=Om ((bM d (e.1,1)).getD zI) d.1 0 (by omega);generalize CM ((bM d (e.1,0)).getD zI) d.1 0=a at *;generalize CM ((bM d (e.1,1)).getD zI) d.1 0=b at *;by_cases h3:0≤a
   case neg =>
    have d3:decide (a≥0)=false:=decide_eq_false h3;rw[hL,if_neg (by omega)];simp only[d3];exact ih (i+1) out (by omega) ho
   have d3:decide (a≥0)=true:=decide_eq_true h3;by_cases h4:0≤b
   case neg =>
    have d4:decide (b≥0)=false:=decide_eq_false h4;rw[hL,if_neg (by omega)];simp only[d3,d4];exact ih (i+1) out (by omega) ho
   have d4:decide (b≥0)=true:=decide_eq_true h4;rw[if_pos ⟨h3,h4⟩]at hL;have hal:a.toNat<out.length:=by omega
   have hbl:b.toNat<out.length:=by omega
   have xa:out[a.toNat]? = some out[a.toNat]:=aba hal;have xb:out[b.toNat]? = some out[b.toNat]:=aba hbl;have ga:out.getD a.toNat 0=out[a.toNat]:=by simp[List.getD,xa]
   have gb:out.getD b.toNat 0=out[b.toNat]:=by simp[List.getD,xb]
   rw[ga,gb]at hL;generalize out[a.toNat]=p at *;generalize out[b.toNat]=q at *;have d5:decide ((0:Int)≤a)=true:=decide_eq_true h3;have d6:decide ((0:Int)≤b)=true:=decide_eq_true h4;have d7:decide (a<((out.length:Nat):Int))=true:=decide_eq_true (by omega);have d8:decide (b<((out.length:Nat):Int))=true:=decide_eq_true (by omega);have hbs:b.toNat<(out.set a.toNat (min p q)).length:=by simpa using hbl
   have d9:decide (b<(((out.set a.toNat (min p q)).length:Nat):Int))=true:=decide_eq_true (by simp;omega);have xs:(out.set a.toNat (min p q))[b.toNat]? = some (out.set a.toNat (min p q))[b.toNat]:=aba hbs;simp only[d3,d4,d5,d6,d7,d8,Bool.and_self,xa,xb,Option.bind_some,d9,xs];rw[hL];exact ih (i+1) ((out.set a.toNat (min p q)).set b.toNat (min p q)) (by omega) (by simp[ho])
 intro out ho;exact loop d.2.length 0 out (by omega) ho
theorem ame(hG:HG G)(d:ak)(hs:Sm d):FX G 193 vA ((d,()),())=some ((labels d,()),()):=by
 have hv:=hs.v;refine aC (hG _ _ rfl) akZ ?_;have l1:∀(n i:Nat) (out:List Int),i+n=d.1.length→out.length=d.1.length→LX G 193 vA Tryz.f193 Ah (aY Tryz.prog 193 1) (((i:Int),()),(((d,()),()),(out,())))=some ((L4 d n out,()),()):=by
  intro n
  induction n with
  |zero =>
   intro i out hi ho;refine aB Vw ?_;have h1:¬((i:Int)<(d.1.length:Int)):=by omega
   simp only[h1,decide_false];rfl
  |succ n ih =>
   intro i out hi ho;refine aB Vw ?_;have aK:i<d.1.length:=by omega
   simp only[bj aK];exact acq hG d hs (i:Int) (L4 d n) (fun out ho=>by rw[aN aK (show d.1.length≤1073741824 by omega)];exact ih (i+1) out (by omega) ho) out ho
 have l0:∀(n i:Nat) (out:List Int),i+n=d.1.length→out=GJ i→LX G 193 vA Tryz.f193 EC (aY Tryz.prog 193 0) (((i:Int),()),(((d,()),()),(out,())))=some ((labels d,()),()):=by
  intro n
  induction n with
  |zero =>
   intro i out hi ho;refine aB Vv ?_;have h1:¬((i:Int)<(d.1.length:Int)):=by omega
   have wC:i=d.1.length:=by omega
   subst wC;simp only[h1,decide_false];have:=l1 d.1.length 0 out (by omega) (by rw[ho];simp[GJ]);rw[ho]at this ⊢;exact this
  |succ n ih =>
   intro i out hi ho;refine aB Vv ?_;have aK:i<d.1.length:=by omega
   have h6:aR out.length [(i:Int)].length=true:=fits (by rw[ho];simp[GJ];omega);simp only[bj aK,h6,aN aK (show d.1.length≤1073741824 by omega)];exact ih (i+1) (out++[(i:Int)]) (by omega) (by rw[ho];simp[GJ,List.range_succ])
 exact l0 d.1.length 0 [] (by omega) (by simp[GJ])
def rU:List Int→Int→Int→Int
 |[],_,n=>n
 |x::r,i,n=>rU r (i+1) (if x=i then IntKind.wrap .i64 (n+1) else n)
def gi(d:ak):Int:=rU (labels d) 0 0
theorem amf(hG:HG G)(d:ak)(hs:Sm d):FX G 165 K7 ((d,()),())=some ((gi d,()),()):=by
 have hv:=hs.v;have hl:=GK d;refine aC (hG _ _ rfl) akH ?_;refine aa (ame hG d hs) ?_;unfold gi;generalize labels d=l at *;have loop:∀(m i:Nat) (n:Int),i+m=l.length→LX G 165 K7 Tryz.f165 Ae (aY Tryz.prog 165 0) ((n,((i:Int),())),((),(l,())))=some ((rU (l.drop i) i n,()),()):=by
  intro m
  induction m with
  |zero =>
   intro i n hi;refine aB Vi ?_;have h1:¬((i:Int)<(l.length:Int)):=by omega
   have h2:l.drop i=[]:=adU (by omega);rw[h2];simp only[h1,decide_false];rfl
  |succ m ih =>
   intro i n hi;refine aB Vi ?_;have aK:i<l.length:=by omega
   have h2:l.drop i=l[i]::l.drop (i+1):=adj aK;have hx:l[i]? = some l[i]:=aba aK;rw[h2,rU];simp only[bj aK,gy,Bool.and_self,Int.toNat_natCast,hx,Option.bind_some,aN aK (show l.length≤1073741824 by omega)];by_cases he:l[i]=(i:Int)
   ·have d1:(l[i]==(i:Int))=true:=by simp[he]
    rw[if_pos he];simp only[d1];exact ih (i+1) _ (by omega)
   ·have d1:(l[i]==(i:Int))=false:=by simp[he]
    rw[if_neg he];simp only[d1];exact ih (i+1) _ (by omega)
 exact loop l.length 0 0 (by omega)
def tZ:List ai→Int→Int
 |[],n=>n
 |v::r,n=>tZ r (if v.2.1.length=0 then IntKind.wrap .i64 (n+1) else n)
def E4(d:ak):Int:=tZ d.1 ((((cg d).length:Nat)):Int)
theorem amg(hG:HG G)(d:ak)(hs:Sm d)(he:d.2.length≤5000000):FX G 136 Ja ((d,()),())=some ((((d.1.length:Nat):Int),(((d.2.length:Nat):Int),(E4 d,(gi d,())))),()):=by
 have hv:=hs.v;refine aC (hG _ _ rfl) alq ?_;refine aa (amc hG d hs he) ?_;unfold E4;show LX G 136 Ja Tryz.f136 wY (aY Tryz.prog 136 0) ((lI (cg d),((0:Int),())),(((d,()),()),()))=_;unfold lI;generalize (((cg d).length:Nat):Int)=f0;have key:=cC d.1 (fun i (n:Int)=>LX G 136 Ja Tryz.f136 wY (aY Tryz.prog 136 0) ((n,(i,())),(((d,()),()),()))) (fun(r:List ai) (n:Int)=>((((d.1.length:Nat):Int),(((d.2.length:Nat):Int),(tZ r n,(gi d,())))),())) (fun _ _=>True) (fun n _=>by refine aB VH ?_;simp only[eE];exact aa (amf hG d hs) rfl) (fun i y r n hi hx E3 _ ih=>by
   refine aB VH ?_;simp only[bj hi,aT hx,Option.bind_some,aN hi (show d.1.length≤1073741824 by omega)];by_cases he:y.2.1.length=0
   ·have d1:((((y.2.1.length:Nat)):Int)==0)=true:=by simp[he]
    simp only[d1,tZ,if_pos he];exact ih _ trivial
   ·have d1:((((y.2.1.length:Nat)):Int)==0)=false:=by simp;intro e;rw[e]at he;simp at he
    simp only[d1,tZ,if_neg he];exact ih _ trivial)
  f0 trivial
 exact key
def bN(d:ak):Int:=IntKind.wrap .i64 (Int.tdiv (IntKind.wrap .i64 (IntKind.wrap .i64 (IntKind.wrap .i64 (IntKind.wrap .i64 (2*gi d)-((d.1.length:Nat):Int))+((d.2.length:Nat):Int))-E4 d)) 2)
theorem amh(hG:HG G)(d:ak)(hs:Sm d)(he:d.2.length≤5000000):FX G 107 Lb ((d,()),())=some ((bN d,()),()):=by refine aC (hG _ _ rfl) ak6 ?_;exact aa (amg hG d hs he) rfl
theorem Zi{s:ByteArray}{i:Nat}{c:UInt8}(h:s.data.toList[i]? = some c):(if(0:Int)≤(i:Int) then s[Int.toNat (i:Int)]? else none)=some c:=by
 have hi:i<s.size:=by have:=(abg.1 h).1;simpa using this
 rw[if_pos (by omega),Int.toNat_natCast,getElem?_pos s i hi];have h2:=(abg.1 h).2;rw[←h2];rfl
def me(c:UInt8):Bool:=decide (32≤c.toNat)&&decide (c.toNat≤126)
def p4(s:ByteArray):Bool:=s.data.toList.all me&&decide (s.size≤16)
theorem ami(hG:G 91 I4=none)(s:ByteArray)(hs:s.size≤100000000):FX G 91 I4 ((s,()),())=some ((p4 s,()),()):=by
 refine aC hG akD ?_;have hl:s.data.toList.length=s.size:=by simp
 have key:=cC s.data.toList (fun i (_:Unit)=>LX G 91 I4 Tryz.f91 Ev (aY Tryz.prog 91 0) ((s,(i,())),((),()))) (fun(r:List UInt8) (_:Unit)=>((r.all me&&decide (s.size≤16),()),())) (fun _ _=>True) (fun _ _=>by
   refine aB Vg ?_;rw[hl];have h2:decide (((s.size:Nat):Int)≤16)=decide (s.size≤16):=by rw[Bool.eq_iff_iff];simp;omega
   simp only[eE,h2,List.all_nil,Bool.true_and];rfl)
  (fun i c r _ hi hx E3 _ ih=>by
   refine aB Vg ?_;rw[hl]at hi;have hb:=Zi hx;simp only[bj hi,hb,Option.bind_some,aN hi (show s.size≤1073741824 by omega)];by_cases h1:c.toNat<32
   ·have d1:decide (((c.toNat:Nat):Int)<32)=true:=decide_eq_true (by omega);have d2:me c=false:=by unfold me;simp;omega
    simp only[d1,List.all_cons,d2,Bool.false_and];rfl
   ·have d1:decide (((c.toNat:Nat):Int)<32)=false:=decide_eq_false (by omega);by_cases h2:126<c.toNat
    ·have d2:decide (((c.toNat:Nat):Int)>126)=true:=decide_eq_true (by omega);have d3:me c=false:=by unfold me;simp;omega
     simp only[d1,d2,List.all_cons,d3,Bool.false_and];rfl
    ·have d2:decide (((c.toNat:Nat):Int)>126)=false:=decide_eq_false (by omega);have d3:me c=true:=by unfold me;simp;omega
     simp only[d1,d2,List.all_cons,d3,Bool.true_and];exact ih () trivial)
  () trivial
 exact key
def mD(n:Int):Bool:=decide (-1099511627776≤n∧n≤1099511627776)
theorem amj(hG:G 90 R4=none)(n:Int):FX G 90 R4 ((n,()),())=some ((mD n,()),()):=by refine aC hG akE ?_;show(cond (decide (n≥-1099511627776)) (some ((decide (n≤1099511627776),()),())) (some ((false,()),())):Option ((Bool×Unit)×Unit))=some ((mD n,()),());unfold mD;by_cases h1 : -1099511627776≤n<;>simp[h1]
def p6(c:lW):Bool:=cY c.1&&(Js c.2 || decide (c.2=zD))
theorem agK(hG:HG G)(c:lW):FX G 89 R9 ((c,()),())=some ((p6 c,()),()):=by
 refine aC (hG _ _ rfl) alb ?_;refine aa (Sy (hG _ _ rfl) c.1) ?_;refine aa (al3 hG c.2) ?_;have hb:(((c.2.1.1==(0:Int))&&(c.2.1.2==(0:Int)))&&(c.2.2==(0:Int)))=decide (c.2=zD):=lg c.2 zD;unfold p6;simp only[hb]
 cases h1:cY c.1<;>cases h2:Js c.2<;>rfl
def Ge:aE:=(0,(zI,(zI,(zI,(zC,(zC,(false,(e0,0))))))))
def kC(o:aE):aE :=if o.1=3 then(0,(zI,(o.2.2.1,(o.2.2.2.1,(zC,(zC,(o.2.2.2.2.2.2.1,o.2.2.2.2.2.2.2)))))))
 else if o.1=5 then(0,(zI,(zI,(zI,(o.2.2.2.2.1,(o.2.2.2.2.2.1,(o.2.2.2.2.2.2.1,(o.2.2.2.2.2.2.2.1,0))))))))
 else if o.1=6 then(0,(zI,(o.2.2.1,(zI,(o.2.2.2.2.1,(o.2.2.2.2.2.1,(o.2.2.2.2.2.2.1,o.2.2.2.2.2.2.2)))))))
 else if o.1=7 then(0,(zI,(o.2.2.1,(o.2.2.2.1,(o.2.2.2.2.1,(o.2.2.2.2.2.1,(false,(e0,o.2.2.2.2.2.2.2.2))))))))
 else if o.1=8 then(0,(zI,(o.2.2.1,(o.2.2.2.1,(o.2.2.2.2.1,(o.2.2.2.2.2.1,(false,(o.2.2.2.2.2.2.2.1,0))))))))
 else(0,(zI,(o.2.2.1,(o.2.2.2.1,(o.2.2.2.2.1,(o.2.2.2.2.2.1,(o.2.2.2.2.2.2.1,o.2.2.2.2.2.2.2)))))))
theorem amk(hG:G 88 R8=none)(o:aE):FX G 88 R8 ((o,()),())=some ((kC o,()),()):=by
 refine aC hG ala ?_;unfold kC;by_cases h3:o.1=3
 ·have d:(o.1==(3:Int))=true:=by simp[h3]
  rw[if_pos h3];simp only[d];rfl
 have d3:(o.1==(3:Int))=false:=by simp[h3]
 rw[if_neg h3];by_cases h5:o.1=5
 ·have d:(o.1==(5:Int))=true:=by simp[h5]
  rw[if_pos h5];simp only[d3,d];rfl
 have d5:(o.1==(5:Int))=false:=by simp[h5]
 rw[if_neg h5];by_cases h6:o.1=6
 ·have d:(o.1==(6:Int))=true:=by simp[h6]
  rw[if_pos h6];simp only[d3,d5,d];rfl
 have d6:(o.1==(6:Int))=false:=by simp[h6]
 rw[if_neg h6];by_cases h7:o.1=7
 ·have d:(o.1==(7:Int))=true:=by simp[h7]
  rw[if_pos h7];simp only[d3,d5,d6,d];rfl
 have d7:(o.1==(7:Int))=false:=by simp[h7]
 rw[if_neg h7];by_cases h8:o.1=8
 ·have d:(o.1==(8:Int))=true:=by simp[h8]
  rw[if_pos h8];simp only[d3,d5,d6,d7,d];rfl
 have d8:(o.1==(8:Int))=false:=by simp[h8]
 rw[if_neg h8];simp only[d3,d5,d6,d7,d8];rfl
def sO(x y:aE):Bool :=(x.1==y.1)&&(((x.2.1.1==y.2.1.1)&&(x.2.1.2==y.2.1.2))&&(((x.2.2.1.1==y.2.2.1.1)&&(x.2.2.1.2==y.2.2.1.2))&&(((x.2.2.2.1.1==y.2.2.2.1.1)&&(x.2.2.2.1.2==y.2.2.2.1.2)) && ((((x.2.2.2.2.1.1.1==y.2.2.2.2.1.1.1)&&(x.2.2.2.2.1.1.2==y.2.2.2.2.1.1.2))&&(((x.2.2.2.2.1.2.1.1==y.2.2.2.2.1.2.1.1)&&(x.2.2.2.2.1.2.1.2==y.2.2.2.2.1.2.1.2))&&(x.2.2.2.2.1.2.2==y.2.2.2.2.1.2.2))) && ((((x.2.2.2.2.2.1.1.1==y.2.2.2.2.2.1.1.1)&&(x.2.2.2.2.2.1.1.2==y.2.2.2.2.2.1.1.2))&&(((x.2.2.2.2.2.1.2.1.1==y.2.2.2.2.2.1.2.1.1)&&(x.2.2.2.2.2.1.2.1.2==y.2.2.2.2.2.1.2.1.2))&&(x.2.2.2.2.2.1.2.2==y.2.2.2.2.2.1.2.2))) && ((x.2.2.2.2.2.2.1==y.2.2.2.2.2.2.1)&&((x.2.2.2.2.2.2.2.1==y.2.2.2.2.2.2.2.1)&&(x.2.2.2.2.2.2.2.2==y.2.2.2.2.2.2.2.2))))))))
theorem kD(x y:aE):sO x y=true↔x=y:=by obtain⟨x1,⟨x2,x3⟩,⟨x4,x5⟩,⟨x6,x7⟩,⟨⟨x8,x9⟩,⟨x10,x11⟩,x12⟩,⟨⟨x13,x14⟩,⟨x15,x16⟩,x17⟩,x18,x19,x20⟩:=x;obtain⟨y1,⟨y2,y3⟩,⟨y4,y5⟩,⟨y6,y7⟩,⟨⟨y8,y9⟩,⟨rh,oM⟩,tT⟩,⟨⟨ov,LK⟩,⟨zq,y16⟩,y17⟩,y18,y19,LL⟩:=y;unfold sO;simp only[Ol];simp[and_assoc]
theorem bB{α:Type}{c b:Bool}{x y r:α}(h:c=b)(k:cond (not b) x y=r):cond (not c) x y=r:=by subst h;exact k
def bg(o:aE):Int :=if o.1<1 then 1 else if 8<o.1 then 1 else if cY o.2.1=false then 1 else if sO (kC o) Ge=false then 1
 else if o.1=3 then(if p6 o.2.2.2.2.1=true∧p6 o.2.2.2.2.2.1=true then 0 else 1)
 else if o.1=5 then(if cY o.2.2.1=true∧cY o.2.2.2.1=true∧0≤o.2.2.2.2.2.2.2.2∧o.2.2.2.2.2.2.2.2≤3 then 0 else 1)
 else if o.1=6 then(if cY o.2.2.2.1=true then 0 else 1)
 else if o.1=8 then(if mD o.2.2.2.2.2.2.2.2=true then 0 else 1)
 else if o.1=7 then(if p4 o.2.2.2.2.2.2.2.1=true then 0 else 4)
 else 0
def I1(n:Int):Option ((Int×Unit)×Unit):=some ((n,()),())
theorem agL(hG:HG G)(o:aE)(ht:o.2.2.2.2.2.2.2.1.size≤100000000):FX G 46 R5 ((o,()),())=some ((bg o,()),()):=by
 refine aC (hG _ _ rfl) akO ?_;refine aa (Sy (hG _ _ rfl) o.2.1) ?_;unfold bg;by_cases h1:o.1<1
 ·rw[if_pos h1];have d:=decide_eq_true h1;simp only[d];rfl
 rw[if_neg h1];have d1:=decide_eq_false h1;by_cases h2:8<o.1
 ·rw[if_pos h2];have d:decide (o.1>8)=true:=decide_eq_true h2;simp only[d1,d];rfl
 rw[if_neg h2];have d2:decide (o.1>8)=false:=decide_eq_false h2
 cases hm:cY o.2.1
 ·rw[if_pos rfl];simp only[d1,d2];rfl
 rw[if_neg (by simp)];simp only[d1,d2];refine aa (amk (hG _ _ rfl) o) ?_;refine bB (b:=sO (kC o) Ge) rfl ?_
 cases he:sO (kC o) Ge
 ·rw[if_pos rfl];rfl
 rw[if_neg (by simp)];by_cases h3:o.1=3
 ·rw[if_pos h3];have d:(o.1==(3:Int))=true:=by simp[h3]
  simp only[d];refine aa (agK hG o.2.2.2.2.1) ?_;refine aa (agK hG o.2.2.2.2.2.1) ?_
  cases hc:p6 o.2.2.2.2.1<;>cases q9:p6 o.2.2.2.2.2.1<;>rfl
 rw[if_neg h3];have d3:(o.1==(3:Int))=false:=by simp[h3]
 by_cases h5:o.1=5
 ·rw[if_pos h5];have d:(o.1==(5:Int))=true:=by simp[h5]
  simp only[d3,d];refine aa (Sy (hG _ _ rfl) o.2.2.1) ?_;refine aa (Sy (hG _ _ rfl) o.2.2.2.1) ?_
  cases hc:cY o.2.2.1
  ·rw[if_neg (by simp)];rfl
  cases q9:cY o.2.2.2.1
  ·rw[if_neg (by simp)];rfl
  by_cases h6:o.2.2.2.2.2.2.2.2<0
  ·have d6:=decide_eq_true h6;rw[if_neg (by omega)];simp only[d6];rfl
  have d6:=decide_eq_false h6;by_cases h7:o.2.2.2.2.2.2.2.2>3
  ·have d7:=decide_eq_true h7;rw[if_neg (by omega)];simp only[d6,d7];rfl
  have d7:=decide_eq_false h7;rw[if_pos ⟨rfl,rfl,by omega,by omega⟩];simp only[d6,d7];rfl
 rw[if_neg h5];have d5:(o.1==(5:Int))=false:=by simp[h5]
 by_cases h6:o.1=6
 ·rw[if_pos h6];have d:(o.1==(6:Int))=true:=by simp[h6]
  simp only[d3,d5,d];refine aa (Sy (hG _ _ rfl) o.2.2.2.1) ?_
  cases hc:cY o.2.2.2.1<;>rfl
 rw[if_neg h6];have d6:(o.1==(6:Int))=false:=by simp[h6]
 by_cases h8:o.1=8
 ·rw[if_pos h8];have d:(o.1==(8:Int))=true:=by simp[h8]
  simp only[d3,d5,d6,d];refine aa (amj (hG _ _ rfl) o.2.2.2.2.2.2.2.2) ?_
  cases hc:mD o.2.2.2.2.2.2.2.2<;>rfl
 rw[if_neg h8];have d8:(o.1==(8:Int))=false:=by simp[h8]
 by_cases h7:o.1=7
 ·rw[if_pos h7];have d:(o.1==(7:Int))=true:=by simp[h7]
  simp only[d3,d5,d6,d8,d];refine aa (ami (hG _ _ rfl) o.2.2.2.2.2.2.2.1 (by omega)) ?_
  cases hc:p4 o.2.2.2.2.2.2.2.1<;>rfl
 rw[if_neg h7];have d7:(o.1==(7:Int))=false:=by simp[h7]
 simp only[d3,d5,d6,d8,d7];rfl
def ua(o:aE):Prop:=o.2.2.2.2.2.2.2.1.size≤100000000
def mf:List aE→Int
 |[]=>0
 |o::r=>if bg o≠0 then bg o else mf r
def fh(l:List aE):Int:=if 1≤l.length∧l.length≤6 then mf l else 3
theorem aml(hG:HG G)(l:List aE)(ht:∀o∈l,ua o):FX G 69 K8 ((l,()),())=some ((fh l,()),()):=by
 refine aC (hG _ _ rfl) akM ?_;unfold fh;by_cases h1:l.length<1
 ·have d:decide (((l.length:Nat):Int)<1)=true:=decide_eq_true (by omega);rw[if_neg (by omega)];simp only[d];rfl
 have d1:decide (((l.length:Nat):Int)<1)=false:=decide_eq_false (by omega);by_cases h2:6<l.length
 ·have d:decide (((l.length:Nat):Int)>6)=true:=decide_eq_true (by omega);rw[if_neg (by omega)];simp only[d1,d];rfl
 have d2:decide (((l.length:Nat):Int)>6)=false:=decide_eq_false (by omega);rw[if_pos (by omega)];simp only[d1,d2];have key:=cC l (fun i (_:Unit)=>LX G 69 K8 Tryz.f69 Ey (aY Tryz.prog 69 0) ((i,()),(((l,()),()),()))) (fun(r:List aE) (_:Unit)=>((mf r,()),())) (fun _ _=>True) (fun _ _=>by refine aB Vl ?_;simp only[eE];rfl) (fun i o r _ hi hx E3 _ ih=>by
   refine aB Vl ?_;simp only[bj hi,aT hx,Option.bind_some,aN hi (show l.length≤1073741824 by omega)];refine aa (agL hG o (ht o (ab1 hx))) ?_;rw[mf];by_cases h:bg o=0
   ·have d:(bg o != 0)=false:=by simp[h]
    rw[if_neg (by simp[h])];simp only[d];exact ih () trivial
   ·have d:(bg o != 0)=true:=by simp[h]
    rw[if_pos h];simp only[d];rfl)
  () trivial
 exact key
theorem ae{α:Type}{c:Bool}{x y r:α}(h:c=true)(k:x=r):cond c x y=r:=by subst h;exact k
theorem ah{α:Type}{c:Bool}{x y r:α}(h:c=false)(k:y=r):cond c x y=r:=by subst h;exact k
theorem dU{a b:Bool}(h:a=true)(k:b=true):(a&&b)=true:=by rw[h,k];rfl
def zS:StateT:=(([],[]),[])
abbrev ar(o:aE):ID:=o.2.1
abbrev cc(o:aE):ID:=o.2.2.1
abbrev af(o:aE):ID:=o.2.2.2.1
abbrev oA(o:aE):lW:=o.2.2.2.2.1
abbrev oB(o:aE):lW:=o.2.2.2.2.2.1
abbrev cQ(o:aE):Bool:=o.2.2.2.2.2.2.1
abbrev gR(o:aE):ByteArray:=o.2.2.2.2.2.2.2.1
abbrev oN(o:aE):Int:=o.2.2.2.2.2.2.2.2
def fN(o:aE)(w:ai):ai:=if cQ o=false∧w.1=ar o then(if o.1=7 then(w.1,(w.2.1,(gR o,w.2.2.2))) else(w.1,(w.2.1,(w.2.2.1,oN o)))) else w
def gN(o:aE)(w:aj):aj:=if cQ o=true∧w.1=ar o then(if o.1=7 then(w.1,(gR o,w.2.2)) else(w.1,(w.2.1,oN o))) else w
def GL(o:aE)(l:List ai):Bool := !(cQ o)&&l.any fun w=>decide (w.1=ar o)
def E5(o:aE)(l:List aj):Bool:=cQ o&&l.any fun w=>decide (w.1=ar o)
def qK(s:StateT)(o:aE):StateT×(Int×Unit) :=if GL o s.1.1 || E5 o s.1.2 then(((s.1.1.map (fN o),s.1.2.map (gN o)),s.2),(0,())) else(zS,(13,()))
theorem acs(s:StateT)(o:aE)(vs:List ai)(hs:Sm s.1):∀(n i:Nat) (fd:Bool) (out fin:List aj),i+n=s.1.2.length→out=(s.1.2.take i).map (gN o)++s.1.2.drop i→fin=s.1.2.map (gN o) → LX G 86 D6 Tryz.f86 tR (aY Tryz.prog 86 1) ((fd,((i:Int),())),(((s,()),((o,()),((([]:List ai),(([]:List aj),(([]:List aF),()))),((vs,(out,())),())))),())) = some ((if(fd || E5 o (s.1.2.drop i)) then((((vs,fin),s.2),((0:Int),())):StateT×(Int×Unit)) else(zS,(13,()))),()):=by
 have he:=hs.e;intro n
 induction n with
 |zero =>
  intro i fd out fin hi ho hf;refine aB Vr ?_;have hol:out.length=s.1.2.length:=by rw[ho];simp;omega
  have h1:¬((i:Int)<(out.length:Int)):=by omega
  have h2:out=fin:=by rw[ho,hf,List.take_of_length_le (by omega),List.drop_eq_nil_of_le (by omega),List.append_nil]
  have h3:E5 o (s.1.2.drop i)=false:=by rw[List.drop_eq_nil_of_le (by omega)];simp[E5]
  subst h2;rw[h3];simp only[h1,decide_false]
  cases fd<;>rfl
 |succ n ih =>
  intro i fd out fin hi ho hf;refine aB Vr ?_;have hol:out.length=s.1.2.length:=by rw[ho];simp;omega
  have aK:i<s.1.2.length:=by omega
  have hx:s.1.2[i]? = some s.1.2[i]:=aba aK;have hg:out[i]? = some s.1.2[i]:=by rw[ho];exact Jx _ _ _ _ hx
  have h2:s.1.2.drop i=s.1.2[i]::s.1.2.drop (i+1):=adj aK;have As:=bj (show i<out.length by omega);have hw:=aN aK (show s.1.2.length≤1073741824 by omega);rw[h2];generalize s.1.2[i]=y at *;have hE:E5 o (y::s.1.2.drop (i+1))=((cQ o&&decide (y.1=ar o)) || E5 o (s.1.2.drop (i+1))):=by unfold E5;cases cQ o<;>simp
  rw[hE];refine ae As ?_
  cases Wm:cQ o
  ·have e1:gN o y=y:=by unfold gN;rw[if_neg (by simp[Wm])]
   rw[Bool.false_and,Bool.false_or];refine ah Wm ?_;rw[wI,hw];exact ih (i+1) fd out fin (by omega) (by rw[ho];exact tX _ _ _ _ hx e1) hf
  ·rw[Bool.true_and];refine ae Wm ?_;refine ae (dU (gy i) As) ?_;refine aa hg ?_;by_cases hq:y.1=ar o
   ·refine ae ((iL y.1 (ar o)).trans (decide_eq_true hq)) ?_;rw[decide_eq_true hq,Bool.true_or,Bool.or_true,wI,hw];by_cases h7:o.1=7
    ·have e1:gN o y=(y.1,(gR o,y.2.2)):=by unfold gN;rw[if_pos ⟨Wm,hq⟩,if_pos h7]
     refine ae (show(o.1==(7:Int))=true by simp[h7]) ?_;refine ae (dU (gy i) As) ?_;refine aa hg ?_;have:=ih (i+1) true (out.set i (y.1,(gR o,y.2.2))) fin (by omega) (by rw[ho,←yS _ _ _ _ hx,e1]) hf;rw[Bool.true_or]at this;exact this
    ·have e1:gN o y=(y.1,(y.2.1,oN o)):=by unfold gN;rw[if_pos ⟨Wm,hq⟩,if_neg h7]
     refine ah (show(o.1==(7:Int))=false by simp[h7]) ?_;refine ae (dU (gy i) As) ?_;refine aa hg ?_;have:=ih (i+1) true (out.set i (y.1,(y.2.1,oN o))) fin (by omega) (by rw[ho,←yS _ _ _ _ hx,e1]) hf;rw[Bool.true_or]at this;exact this
   ·have e1:gN o y=y:=by unfold gN;rw[if_neg (fun h=>hq h.2)]
    refine ah ((iL y.1 (ar o)).trans (decide_eq_false hq)) ?_;rw[decide_eq_false hq,Bool.false_or,wI,hw];exact ih (i+1) fd out fin (by omega) (by rw[ho];exact tX _ _ _ _ hx e1) hf
theorem acu(s:StateT)(o:aE)(hs:Sm s.1):∀(n i:Nat) (fd:Bool) (out fin:List ai),i+n=s.1.1.length→out=(s.1.1.take i).map (fN o)++s.1.1.drop i→fin=s.1.1.map (fN o) → LX G 86 D6 Tryz.f86 tO (aY Tryz.prog 86 0) ((fd,((i:Int),())),(((s,()),((o,()),((([]:List ai),(([]:List aj),(([]:List aF),()))),((out,(s.1.2,())),())))),())) = some ((if((fd || GL o (s.1.1.drop i)) || E5 o s.1.2) then((((fin,s.1.2.map (gN o)),s.2),((0:Int),())):StateT×(Int×Unit)) else(zS,(13,()))),()):=by
 have hv:=hs.v;intro n
 induction n with
 |zero =>
  intro i fd out fin hi ho hf;refine aB Vq ?_;have hol:out.length=s.1.1.length:=by rw[ho];simp;omega
  have h1:¬((i:Int)<(out.length:Int)):=by omega
  have h2:out=fin:=by rw[ho,hf,List.take_of_length_le (by omega),List.drop_eq_nil_of_le (by omega),List.append_nil]
  have h3:GL o (s.1.1.drop i)=false:=by rw[List.drop_eq_nil_of_le (by omega)];simp[GL]
  subst h2;rw[h3,Bool.or_false];simp only[h1,decide_false];exact acs s o out hs s.1.2.length 0 fd s.1.2 (s.1.2.map (gN o)) (by omega) (by simp) rfl
 |succ n ih =>
  intro i fd out fin hi ho hf;refine aB Vq ?_;have hol:out.length=s.1.1.length:=by rw[ho];simp;omega
  have aK:i<s.1.1.length:=by omega
  have hx:s.1.1[i]? = some s.1.1[i]:=aba aK;have hg:out[i]? = some s.1.1[i]:=by rw[ho];exact Jx _ _ _ _ hx
  have h2:s.1.1.drop i=s.1.1[i]::s.1.1.drop (i+1):=adj aK;have As:=bj (show i<out.length by omega);have hw:=aN aK (show s.1.1.length≤1073741824 by omega);rw[h2];generalize s.1.1[i]=y at *;have hE:GL o (y::s.1.1.drop (i+1))=((!(cQ o)&&decide (y.1=ar o)) || GL o (s.1.1.drop (i+1))):=by unfold GL;cases cQ o<;>simp
  rw[hE];refine ae As ?_
  cases Wm:cQ o
  ·rw[Bool.not_false,Bool.true_and];refine ae (show(!(cQ o))=true by rw[Wm];rfl) ?_;refine ae (dU (gy i) As) ?_;refine aa hg ?_;by_cases hq:y.1=ar o
   ·refine ae ((iL y.1 (ar o)).trans (decide_eq_true hq)) ?_;rw[decide_eq_true hq,Bool.true_or,Bool.or_true,Bool.true_or,wI,hw];by_cases h7:o.1=7
    ·have e1:fN o y=(y.1,(y.2.1,(gR o,y.2.2.2))):=by unfold fN;rw[if_pos ⟨Wm,hq⟩,if_pos h7]
     refine ae (show(o.1==(7:Int))=true by simp[h7]) ?_;refine ae (dU (gy i) As) ?_;refine aa hg ?_;have:=ih (i+1) true (out.set i (y.1,(y.2.1,(gR o,y.2.2.2)))) fin (by omega) (by rw[ho,←yS _ _ _ _ hx,e1]) hf;rw[Bool.true_or,Bool.true_or]at this;exact this
    ·have e1:fN o y=(y.1,(y.2.1,(y.2.2.1,oN o))):=by unfold fN;rw[if_pos ⟨Wm,hq⟩,if_neg h7]
     refine ah (show(o.1==(7:Int))=false by simp[h7]) ?_;refine ae (dU (gy i) As) ?_;refine aa hg ?_;have:=ih (i+1) true (out.set i (y.1,(y.2.1,(y.2.2.1,oN o)))) fin (by omega) (by rw[ho,←yS _ _ _ _ hx,e1]) hf;rw[Bool.true_or,Bool.true_or]at this;exact this
   ·have e1:fN o y=y:=by unfold fN;rw[if_neg (fun h=>hq h.2)]
    refine ah ((iL y.1 (ar o)).trans (decide_eq_false hq)) ?_;rw[decide_eq_false hq,Bool.false_or,wI,hw];exact ih (i+1) fd out fin (by omega) (by rw[ho];exact tX _ _ _ _ hx e1) hf
  ·have e1:fN o y=y:=by unfold fN;rw[if_neg (by simp[Wm])]
   rw[Bool.not_true,Bool.false_and,Bool.false_or];refine ah (show(!(cQ o))=false by rw[Wm];rfl) ?_;rw[wI,hw];exact ih (i+1) fd out fin (by omega) (by rw[ho];exact tX _ _ _ _ hx e1) hf
theorem amm(hG:HG G)(s:StateT)(o:aE)(hs:Sm s.1):FX G 86 D6 ((s,o,()),())=some (qK s o,()):=by have hv:=hs.v;have he:=hs.e;refine aC (hG _ _ rfl) akV ?_;refine aa (agw (hG _ _ rfl) s.1 (by omega) (by omega) (fun w hw=>by have:=hs.r w hw;omega)) ?_;have:=acu (G:=G) s o hs s.1.1.length 0 false s.1.1 (s.1.1.map (fN o)) (by omega) (by simp) rfl;rw[Bool.false_or]at this;exact this
structure Bd(n:Nat)(d:ak):Prop where
 v:d.1.length≤n
 e:d.2.length≤n
 r:∀w∈d.1,w.2.1.length≤n
theorem Bd.sm{n:Nat}{d:ak}(h:Bd n d)(hn:n≤50000000):Sm d:=⟨by have:=h.v;omega,by have:=h.e;omega,fun w hw=>by have:=h.r w hw;omega⟩
theorem Bd.mono{n m:Nat}{d:ak}(h:Bd n d)(hm:n≤m):Bd m d:=⟨by have:=h.v;omega,by have:=h.e;omega,fun w hw=>by have:=h.r w hw;omega⟩
theorem gD(v:ai):∀l:List ai,(cx v l).length=l.length+1
 |[]=>rfl
 |w::r=>by unfold cx;split<;>simp[gD v r]
theorem mg(v:aj):∀l:List aj,(bW v l).length=l.length+1
 |[]=>rfl
 |w::r=>by unfold bW;split<;>simp[mg v r]
theorem kE{v w:ai}:∀{l:List ai},w∈cx v l↔w=v∨w∈l
 |[]=>by simp[cx]
 |u::r=>by
  unfold cx
  split
  ·simp
  ·simp only[List.mem_cons,kE (l:=r)];exact⟨fun h=>by rcases h with h|h|h<;>simp[h],fun h=>by rcases h with h|h|h<;>simp[h]⟩
theorem kF{v w:aj}:∀{l:List aj},w∈bW v l↔w=v∨w∈l
 |[]=>by simp[bW]
 |u::r=>by
  unfold bW
  split
  ·simp
  ·simp only[List.mem_cons,kF (l:=r)];exact⟨fun h=>by rcases h with h|h|h<;>simp[h],fun h=>by rcases h with h|h|h<;>simp[h]⟩
theorem BO(row:List ab)(a d:ab):(gQ row a d).length≤row.length+1:=by
 unfold gQ
 split
 ·rw[iC];omega
 ·rw[iC];simp;omega
theorem ub(row:List ab)(d:ab):(bw row d).length≤row.length:=by unfold bw;rw[iC];exact adx _ _
theorem Jz(row:List ab)(a d:ab):(dK row a d).length=row.length:=by unfold dK;rw[iC];split<;>simp
theorem Bd.aW{n:Nat}{d:ak}(h:Bd n d)(x:ID):(aW d x).length≤n:=by
 unfold Vs.aW
 cases hf:aG d x with
 |none=>simp[zV]
 |some v=>exact h.r v (ab5 hf)
theorem Bd.cj{n:Nat}{d:ak}(h:Bd n d){x:ID}{l:List ab}(hl:l.length≤n):Bd n (cj d x l):=by
 refine⟨by simp[Vs.cj];exact h.v,h.e,fun w hw=>?_⟩;obtain⟨u,hu,rfl⟩:=abY.1 hw;unfold iX
 split
 ·exact hl
 ·exact h.r u hu
theorem Bd.br{n:Nat}{d:ak}(h:Bd n d)(c:lW)(x:ab):Bd (n+1) (br d c x) :=(h.mono (by omega)).cj (by have:=BO (Vs.aW d c.1) c.2 x;have:=h.aW c.1;omega)
theorem Bd.az{n:Nat}{d:ak}(h:Bd n d)(a x:ab):Bd n (az d a x) :=h.cj (by rw[Jz];exact h.aW _)
theorem Bd.au{n:Nat}{d:ak}(h:Bd n d)(x:ab):Bd n (au d x) :=h.cj (by have:=ub (Vs.aW d ((bM d x).getD zI)) x;have:=h.aW ((bM d x).getD zI);omega)
theorem Bd.aH{n:Nat}{d:ak}(h:Bd n d)(v e:ID):Bd n (aH d v e) :=⟨acH (adx _ _) h.v,acH (adx _ _) h.e,fun w hw=>h.r w (adC.1 hw).1⟩
theorem Bd.cx{n:Nat}{d:ak}(h:Bd n d)(v:ai)(hv:v.2.1.length≤n+1):Bd (n+1) (cx v d.1,d.2) :=⟨by rw[gD];have:=h.v;omega,by have:=h.e;simp only;omega,fun w hw=>by
  rcases kE.1 hw with rfl|hw
  ·exact hv
  ·have:=h.r w hw;omega⟩
theorem Bd.bW{n:Nat}{d:ak}(h:Bd n d)(v:aj):Bd (n+1) (d.1,bW v d.2) :=⟨by have:=h.v;simp only;omega,by rw[mg];have:=h.e;omega,fun w hw=>by have:=h.r w hw;omega⟩
theorem BP(g:aF):∀l:List aF,(mS g l).length≤l.length+1
 |[]=>by simp[mS]
 |e::r=>by
  unfold mS
  split
  ·have:=adx (fun q:aF=>decide (q.1≠g.1)) (e::r);simp[pZ];simp at this;omega
  ·have:=BP g r
   split<;>simp<;>omega
theorem gj(l:List aF)(g:aF):(bR l g).length≤l.length+1:=by
 unfold bR;split
 ·omega
 ·exact BP g l
def gS(s:StateT)(o:aE):ak :=br (br (s.1.1,bW (ar o,(e0,0)) s.1.2) (aU s (oA o)).1 (ar o,0)) (if(aG s.1 (oB o).1).isSome=true∧(oB o).2=(ar o,0) then oB o else(aU s (oB o)).1) (ar o,1)
def kP(s:StateT)(o:aE):StateT×(Int×Unit) :=if(b5 s.1 (ar o)).isSome=true then(zS,(12,()))
 else if 40≤s.1.2.length then(zS,(3,()))
 else if(aU s (oA o)).2.1≠0 then(zS,(13,()))
 else if(aU s (oB o)).2.1≠0 then(zS,(13,()))
 else if bN (gS s o)≠0 then(zS,(15,()))
 else((gS s o,s.2),(0,()))
theorem amn(hG:HG G){n:Nat}(s:StateT)(o:aE)(hs:Bd n s.1)(hn:n≤4000000)(hg:s.2.length≤50000000):FX G 82 UT ((s,o,()),())=some (kP s o,()):=by
  have hv:=hs.v;have he:=hs.e;have SA:=hs.sm (by omega);refine aC (hG _ _ rfl) akR ?_;refine aa (L3 (hG _ _ rfl) s.1 (ar o) (by omega)) ?_;rw[show(ia zE (b5 s.1 (ar o))).2.1=(b5 s.1 (ar o)).isSome from jD _ _];unfold kP
  cases h1:(b5 s.1 (ar o)).isSome
  case true=>rw[if_pos rfl];rfl
  rw[if_neg (by simp)];by_cases h2:40≤s.1.2.length
  · have d:decide (((s.1.2.length:Nat):Int)≥40)=true:=decide_eq_true (by omega)
    rw[if_pos h2];simp only[d];rfl
  have d2:decide (((s.1.2.length:Nat):Int)≥40)=false:=decide_eq_false (by omega);rw[if_neg h2];simp only[d2];refine aa (agH hG s (oA o) SA hg) ?_;refine aa (agH hG s (oB o) SA hg) ?_;refine aa (yR (hG _ _ rfl) s.1 (oB o).1 (by omega)) ?_;rw[show(ia zV (aG s.1 (oB o).1)).2.1=(aG s.1 (oB o).1).isSome from jD _ _];have b1:=hs.bW (ar o,(e0,0));have b2:=b1.br (aU s (oA o)).1 (ar o,0);have fin:∀(bc:lW),gS s o=br (br (s.1.1,bW (ar o,(e0,0)) s.1.2) (aU s (oA o)).1 (ar o,0)) bc (ar o,1) →(cond ((aU s (oA o)).2.1 != 0) (some (((([],[]),[]),((13:Int),())),())) (cond ((aU s (oB o)).2.1 != 0) (some (((([],[]),[]),((13:Int),())),())) ((FX G 115 B8 ((s.1,((ar o,(e0,(0:Int))),())),())).bind fun(y5:((ak×Unit)×Unit)) =>(FX G 116 B9 ((y5.1.1,((aU s (oA o)).1,((ar o,(0:Int)),()))),())).bind fun(y6:((ak×Unit)×Unit)) =>(FX G 116 B9 ((y6.1.1,(bc,((ar o,(1:Int)),()))),())).bind fun(y7:((ak×Unit)×Unit)) =>(FX G 107 Lb ((y7.1.1,()),())).bind fun(y8:((Int×Unit)×Unit)) =>cond (y8.1.1 != (0:Int)) (some (((([],[]),[]),((15:Int),())),())) (some (((y7.1.1,s.2),((0:Int),())),())))):Option ((StateT×(Int×Unit))×Unit)) = some ((if(aU s (oA o)).2.1≠0 then(zS,(13,())) else if(aU s (oB o)).2.1≠0 then(zS,(13,())) else if bN (gS s o)≠0 then(zS,(15,())) else((gS s o,s.2),(0,())):StateT×(Int×Unit)),()):=by
    intro bc hbc;by_cases h3:(aU s (oA o)).2.1=0
    case neg =>
      have d:((aU s (oA o)).2.1 != 0)=true:=by simp[h3]
      rw[if_pos h3,d];rfl
    rw[if_neg (by simp[h3]),show((aU s (oA o)).2.1 != 0)=false by simp[h3]];by_cases h4:(aU s (oB o)).2.1=0
    case neg =>
      have d:((aU s (oB o)).2.1 != 0)=true:=by simp[h4]
      rw[if_pos h4,d];rfl
    rw[if_neg (by simp[h4]),show((aU s (oB o)).2.1 != 0)=false by simp[h4]];simp only[cond_false];have b3:=b2.br bc (ar o,1);rw[←hbc]at b3;refine aa (agy hG s.1 (ar o,(e0,0)) (by omega)) ?_;refine aa (agA hG _ _ _ (b1.sm (by omega))) ?_;refine aa ((agA hG (br (s.1.1,bW (ar o,(e0,0)) s.1.2) (aU s (oA o)).1 (ar o,0)) bc (ar o,1) (b2.sm (by omega))).trans (congrArg (fun z:ak=>some ((z,()),())) hbc.symm)) ?_;refine aa (amh hG (gS s o) (b3.sm (by omega)) (by have:=b3.e;omega)) ?_;by_cases h5:bN (gS s o)=0
    · rw[if_neg (by simp[h5])]
      have d:(bN (gS s o) != 0)=false:=by simp[h5]
      simp only[d];rfl
    · rw[if_pos h5]
      have d:(bN (gS s o) != 0)=true:=by simp[h5]
      simp only[d];rfl
  have hb:((((oB o).2.1.1==o.2.1.1)&&((oB o).2.1.2==o.2.1.2))&&((oB o).2.2==(0:Int)))=decide ((oB o).2=(ar o,0)):=lg (oB o).2 (ar o,0);simp only[hb]
  cases h6:(aG s.1 (oB o).1).isSome
  · exact fin (aU s (oB o)).1 (by unfold gS;rw[if_neg (by simp[h6])])
  · by_cases h7:(oB o).2=(ar o,0)
    · have d:=decide_eq_true h7
      simp only[d];exact fin (oB o) (by unfold gS;rw[if_pos ⟨h6,h7⟩])
    · have d:=decide_eq_false h7
      simp only[d];exact fin (aU s (oB o)).1 (by unfold gS;rw[if_neg (by simp[h7])])
def w8(s:StateT)(o:aE):StateT×(Int×Unit) :=if(b5 s.1 (ar o)).isSome=false then(zS,(13,()))
 else((aH (au (au s.1 (ar o,0)) (ar o,1)) zI (ar o),bR (bR s.2 ((ar o,0),dB s.1 (ar o,0))) ((ar o,1),dB s.1 (ar o,1))),(0,()))
theorem amo(hG:HG G){n:Nat}(s:StateT)(o:aE)(hs:Bd n s.1)(hn:n≤4000000)(hg:s.2.length≤5000000):FX G 83 UU ((s,o,()),())=some (w8 s o,()):=by
 have hv:=hs.v;have he:=hs.e;have SA:=hs.sm (by omega);refine aC (hG _ _ rfl) akS ?_;refine aa (L3 (hG _ _ rfl) s.1 (ar o) (by omega)) ?_;rw[show(ia zE (b5 s.1 (ar o))).2.1=(b5 s.1 (ar o)).isSome from jD _ _];unfold w8
 cases h1:(b5 s.1 (ar o)).isSome
 case false=>rw[if_pos rfl];rfl
 rw[if_neg (by simp)];have b1:=hs.au (ar o,0);have b2:=b1.au (ar o,1);have l1:=gj s.2 ((ar o,0),dB s.1 (ar o,0));refine aa (agD hG s.1 (ar o,0) SA) ?_;refine aa (Zh hG s.2 ((ar o,0),dB s.1 (ar o,0)) (by omega)) ?_;refine aa (agD hG s.1 (ar o,1) SA) ?_;refine aa (Zh hG (bR s.2 ((ar o,0),dB s.1 (ar o,0))) ((ar o,1),dB s.1 (ar o,1)) (by omega)) ?_;refine aa (agC hG s.1 (ar o,0) SA) ?_;refine aa (agC hG (au s.1 (ar o,0)) (ar o,1) (b1.sm (by omega))) ?_;exact aa (Ze (hG _ _ rfl) (au (au s.1 (ar o,0)) (ar o,1)) zI (ar o) (by have:=b2.v;omega) (by have:=b2.e;omega)) rfl
def JA(o:aE):ab:=(ar o,IntKind.wrap .i64 (1-Int.tmod (oN o) 2))
def Gf(o:aE):ab:=(af o,IntKind.wrap .i64 (Int.tdiv (oN o) 2))
def JB(s:StateT)(o:aE):ak :=(cx (cc o,(bG [JA o,Gf o],(e0,0))) (az s.1 (JA o) (ag (Gf o))).1,bW (af o,(e0,0)) (az s.1 (JA o) (ag (Gf o))).2)
def jg(s:StateT)(o:aE):StateT×(Int×Unit) :=if(b5 s.1 (ar o)).isSome=false then(zS,(13,()))
 else if(aG s.1 (cc o)).isSome=true then(zS,(12,()))
 else if(b5 s.1 (af o)).isSome=true then(zS,(12,()))
 else if 24≤s.1.1.length then(zS,(3,()))
 else if 40≤s.1.2.length then(zS,(3,()))
 else((JB s o,s.2),(0,()))
theorem amp(hG:HG G){n:Nat}(s:StateT)(o:aE)(hs:Bd n s.1)(hn:n≤4000000):FX G 84 UW ((s,o,()),())=some (jg s o,()):=by
 have hv:=hs.v;have he:=hs.e;have SA:=hs.sm (by omega);refine aC (hG _ _ rfl) akT ?_;refine aa (L3 (hG _ _ rfl) s.1 (ar o) (by omega)) ?_;rw[show(ia zE (b5 s.1 (ar o))).2.1=(b5 s.1 (ar o)).isSome from jD _ _];unfold jg
 cases h1:(b5 s.1 (ar o)).isSome
 case false=>rw[if_pos rfl];rfl
 rw[if_neg (by simp)];refine aa (yR (hG _ _ rfl) s.1 (cc o) (by omega)) ?_;rw[show(ia zV (aG s.1 (cc o))).2.1=(aG s.1 (cc o)).isSome from jD _ _];refine aa (L3 (hG _ _ rfl) s.1 (af o) (by omega)) ?_;rw[show(ia zE (b5 s.1 (af o))).2.1=(b5 s.1 (af o)).isSome from jD _ _]
 cases h2:(aG s.1 (cc o)).isSome
 case true=>rw[if_pos rfl];rfl
 rw[if_neg (by simp)]
 cases h3:(b5 s.1 (af o)).isSome
 case true=>rw[if_pos rfl];rfl
 rw[if_neg (by simp)];by_cases h4:24≤s.1.1.length
 ·have d:decide (((s.1.1.length:Nat):Int)≥24)=true:=decide_eq_true (by omega);rw[if_pos h4];simp only[d];rfl
 have d4:decide (((s.1.1.length:Nat):Int)≥24)=false:=decide_eq_false (by omega);rw[if_neg h4];by_cases h5:40≤s.1.2.length
 ·have d:decide (((s.1.2.length:Nat):Int)≥40)=true:=decide_eq_true (by omega);rw[if_pos h5];simp only[d4,d];rfl
 have d5:decide (((s.1.2.length:Nat):Int)≥40)=false:=decide_eq_false (by omega);rw[if_neg h5];simp only[d4,d5];have d6:((2:Int)==0)=false:=rfl;simp only[d6];have b1:=hs.az (JA o) (ag (Gf o));have b2:=b1.bW (af o,(e0,0));refine aa (acj (hG _ _ rfl) (Gf o)) ?_;refine aa (agB hG s.1 (JA o) (ag (Gf o)) SA) ?_;refine aa (agy hG (az s.1 (JA o) (ag (Gf o))) (af o,(e0,0)) (by have:=b1.e;omega)) ?_;refine aa (L0 hG [JA o,Gf o] (by simp)) ?_;exact aa (agx hG ((az s.1 (JA o) (ag (Gf o))).1,bW (af o,(e0,0)) (az s.1 (JA o) (ag (Gf o))).2) (cc o,(bG [JA o,Gf o],(e0,0))) (acH b1.v (by omega))) rfl
def sP(a b:ab)(i:Int):ab:=if(b.1,i)=ag b then a else zD
def HI(g:List aF)(a b:ab):List aF:=bR (bR g ((b.1,0),sP a b 0)) ((b.1,1),sP a b 1)
def GM(s:StateT)(o:aE)(a b:ab):ak:=aH (az (aH s.1 (ar o) zI) (ag b) a) zI b.1
theorem amq(hG:HG G)(g:List aF)(a b:ab)(d:ak)(hg:g.length≤5000000) :
  LX G 85 B7 Tryz.f85 oc (aY Tryz.prog 85 0) ((g,((0:Int),())),(((([]:List ai),(([]:List aj),(([]:List aF),()))),((a,()),((b,()),((ag b,()),((d,()),()))))),()))=some (((d,HI g a b),((0:Int),())),()):=by
 have l2:∀g2:List aF,LX G 85 B7 Tryz.f85 oc (aY Tryz.prog 85 0) ((g2,((2:Int),())),(((([]:List ai),(([]:List aj),(([]:List aF),()))),((a,()),((b,()),((ag b,()),((d,()),()))))),()))=some (((d,g2),((0:Int),())),()):=fun g2 =>aB Vp (ah rfl rfl);have step:∀(i:Int) (g1:List aF) (r:(StateT×(Int×Unit))×Unit),i<2→g1.length≤5000001→LX G 85 B7 Tryz.f85 oc (aY Tryz.prog 85 0) ((bR g1 ((b.1,i),sP a b i),(IntKind.wrap .i64 (i+1),())),(((([]:List ai),(([]:List aj),(([]:List aF),()))),((a,()),((b,()),((ag b,()),((d,()),()))))),()))=some r → LX G 85 B7 Tryz.f85 oc (aY Tryz.prog 85 0) ((g1,(i,())),(((([]:List ai),(([]:List aj),(([]:List aF),()))),((a,()),((b,()),((ag b,()),((d,()),()))))),()))=some r:=fun i g1 r hi hg1 h=>by
  refine aB Vp ?_;refine ae (decide_eq_true hi) ?_;unfold sP at h;by_cases he:((b.1,i):ab)=ag b
  ·rw[if_pos he]at h;refine ae ((lg (b.1,i) (ag b)).trans (decide_eq_true he)) ?_;refine aa (Zh hG g1 ((b.1,i),a) (by omega)) ?_;exact h
  ·rw[if_neg he]at h;refine ah ((lg (b.1,i) (ag b)).trans (decide_eq_false he)) ?_;refine aa (Zh hG g1 ((b.1,i),zD) (by omega)) ?_;exact h
 have a1:=gj g ((b.1,0),sP a b 0);refine step 0 g _ (by omega) (by omega) ?_;refine step 1 _ _ (by omega) (by omega) ?_;exact l2 _
def dH(s:StateT)(o:aE)(r0 r1:ab):StateT×(Int×Unit) :=if r0.1=r1.1 then(zS,(14,()))
 else if r0.1=af o then((GM s o r1 r0,HI s.2 r1 r0),(0,()))
 else if r1.1=af o then((GM s o r0 r1,HI s.2 r0 r1),(0,()))
 else(zS,(14,()))
def fX(s:StateT)(o:aE):StateT×(Int×Unit):=match aG s.1 (ar o) with
 |none=>(zS,(13,()))
 |some v=>match v.2.1 with
  |[r0,r1]=>dH s o r0 r1
  |_=>(zS,(14,()))
theorem amr(hG:HG G){n:Nat}(s:StateT)(o:aE)(hs:Bd n s.1)(hn:n≤4000000)(hg:s.2.length≤5000000):FX G 85 B7 ((s,o,()),())=some (fX s o,()):=by
  have hv:=hs.v;have he:=hs.e;have SA:=hs.sm (by omega);refine aC (hG _ _ rfl) akU ?_;refine aa (yR (hG _ _ rfl) s.1 (ar o) (by omega)) ?_;unfold fX
  cases hf:aG s.1 (ar o) with
  |none=>rfl
  |some v =>
    refine ah (show(!true)=false from rfl) ?_;have two:∀(a b:ab) (r:Option ((StateT×(Int×Unit))×Unit)),r=some (((GM s o a b,HI s.2 a b),((0:Int),())),()) →((FX G 121 GB ((b,()),())).bind fun(y8:((ab×Unit)×Unit)) =>(FX G 81 rP ((s.1,(ar o,(zI,()))),())).bind fun(y9:((ak×Unit)×Unit)) =>(FX G 120 Ld ((y9.1.1,(y8.1.1,(a,()))),())).bind fun(rh:((ak×Unit)×Unit)) =>(FX G 81 rP ((rh.1.1,(zI,(b.1,()))),())).bind fun(oM:((ak×Unit)×Unit)) =>LX G 85 B7 Tryz.f85 oc (aY Tryz.prog 85 0) ((s.2,((0:Int),())),(((([]:List ai),(([]:List aj),(([]:List aF),()))),((a,()),((b,()),((y8.1.1,()),((oM.1.1,()),()))))),())))=r:=fun a b r hr=>by subst hr;have b1:=hs.aH (ar o) zI;have b2:=b1.az (ag b) a;refine aa (acj (hG _ _ rfl) b) ?_;refine aa (Ze (hG _ _ rfl) s.1 (ar o) zI (by omega) (by omega)) ?_;refine aa (agB hG (aH s.1 (ar o) zI) (ag b) a (b1.sm (by omega))) ?_;refine aa (Ze (hG _ _ rfl) (az (aH s.1 (ar o) zI) (ag b) a) zI b.1 (by have:=b2.v;omega) (by have:=b2.e;omega)) ?_;exact amq hG s.2 a b (GM s o a b) hg
    obtain⟨vi,ring,vr⟩:=v;by_cases hl:ring.length=2
    case neg =>
      refine ae (show((((ring.length:Nat):Int)) != 2)=true by simp;omega) ?_
      match ring,hl with
      |[],_=>rfl
      |[_],_=>rfl
      |[_,_],h=>exact absurd rfl h
      |_::_::_::_,_=>rfl
    match ring,hl with
    |[r0,r1],_ =>
      refine ah (show((((2:Nat):Int)) != 2)=false from rfl) ?_;refine aa (show bm [r0,r1] 0=some r0 from rfl) ?_;refine aa (show bm [r0,r1] 1=some r1 from rfl) ?_;show _=some (dH s o r0 r1,());unfold dH;by_cases h1:r0.1=r1.1
      · rw[if_pos h1]
        exact ae ((iL r0.1 r1.1).trans (decide_eq_true h1)) rfl
      rw[if_neg h1];refine ah ((iL r0.1 r1.1).trans (decide_eq_false h1)) ?_;refine aa (show bm [r0,r1] 0=some r0 from rfl) ?_;refine aa (show bm [r0,r1] 1=some r1 from rfl) ?_;by_cases h2:r0.1=af o
      · rw[if_pos h2]
        refine ae ((iL r0.1 (af o)).trans (decide_eq_true h2)) ?_;refine aa (show bm [r0,r1] 1=some r1 from rfl) ?_;refine aa (show bm [r0,r1] 0=some r0 from rfl) ?_;refine ah (by rw[show((r0.1.1==(af o).1)&&(r0.1.2==(af o).2))=true from(iL r0.1 (af o)).trans (decide_eq_true h2)];rfl) ?_;exact two r1 r0 _ rfl
      rw[if_neg h2];refine ah ((iL r0.1 (af o)).trans (decide_eq_false h2)) ?_;by_cases h3:r1.1=af o
      · rw[if_pos h3]
        refine ah (by rw[show((r1.1.1==(af o).1)&&(r1.1.2==(af o).2))=true from(iL r1.1 (af o)).trans (decide_eq_true h3)];rfl) ?_;exact two r0 r1 _ rfl
      · rw[if_neg h3]
        exact ae (by rw[show((r1.1.1==(af o).1)&&(r1.1.2==(af o).2))=false from(iL r1.1 (af o)).trans (decide_eq_false h3)];rfl) rfl
def mh(s:StateT)(o:aE):StateT×(Int×Unit) :=if(aG s.1 (ar o)).isSome=true then(zS,(12,())) else if 24≤s.1.1.length then(zS,(3,())) else(((cx (ar o,([],(e0,0))) s.1.1,s.1.2),s.2),(0,()))
def qL(s:StateT)(o:aE):StateT×(Int×Unit):=match aG s.1 (ar o) with
 |none=>(zS,(13,()))
 |some v=>if 0<v.2.1.length then(zS,(14,())) else((aH s.1 (ar o) zI,s.2),(0,()))
def bP(s:StateT)(o:aE):StateT×(Int×Unit) :=if bg o≠0 then(zS,(bg o,()))
 else if o.1=1 then mh s o else if o.1=2 then qL s o else if o.1=3 then kP s o else if o.1=4 then w8 s o else if o.1=5 then jg s o else if o.1=6 then fX s o else qK s o
theorem Zj(hG:HG G){n:Nat}(s:StateT)(o:aE)(hs:Bd n s.1)(hn:n≤4000000)(hg:s.2.length≤5000000)(ht:ua o):FX G 45 K3 ((s,o,()),())=some (bP s o,()):=by
 have hv:=hs.v;have he:=hs.e;refine aC (hG _ _ rfl) aks ?_;refine aa (agL hG o ht) ?_;unfold bP;by_cases h0:bg o=0
 case neg =>
  rw[if_pos h0];exact ae (show(bg o != 0)=true by simp[h0]) rfl
 rw[if_neg (by simp[h0])];refine ah (show(bg o != 0)=false by simp[h0]) ?_;refine aa (yR (hG _ _ rfl) s.1 (ar o) (by omega)) ?_;by_cases h1:o.1=1
 ·rw[if_pos h1];refine ae (show(o.1==(1:Int))=true by simp[h1]) ?_;rw[show(ia zV (aG s.1 (ar o))).2.1=(aG s.1 (ar o)).isSome from jD _ _];unfold mh
  cases hf:(aG s.1 (ar o)).isSome
  ·rw[if_neg (by simp)];refine ah rfl ?_;by_cases h4:24≤s.1.1.length
   ·rw[if_pos h4];exact ae (decide_eq_true (show((s.1.1.length:Nat):Int)≥24 by omega)) rfl
   ·rw[if_neg h4];refine ah (decide_eq_false (show ¬((s.1.1.length:Nat):Int)≥24 by omega)) ?_;exact aa (agx hG s.1 (ar o,([],(e0,0))) (by omega)) rfl
  ·rw[if_pos rfl];rfl
 rw[if_neg h1];refine ah (show(o.1==(1:Int))=false by simp[h1]) ?_;by_cases h2:o.1=2
 ·rw[if_pos h2];refine ae (show(o.1==(2:Int))=true by simp[h2]) ?_;unfold qL
  cases hf:aG s.1 (ar o) with
  |none=>rfl
  |some v =>
   refine ah (show(!true)=false from rfl) ?_;by_cases h4:0<v.2.1.length
   ·show _=some ((if 0<v.2.1.length then(zS,(14,())) else((aH s.1 (ar o) zI,s.2),(0,())):StateT×(Int×Unit)),());rw[if_pos h4];exact ae (decide_eq_true (show((v.2.1.length:Nat):Int)>0 by omega)) rfl
   ·show _=some ((if 0<v.2.1.length then(zS,(14,())) else((aH s.1 (ar o) zI,s.2),(0,())):StateT×(Int×Unit)),());rw[if_neg h4];refine ah (decide_eq_false (show ¬((v.2.1.length:Nat):Int)>0 by omega)) ?_;exact aa (Ze (hG _ _ rfl) s.1 (ar o) zI (by omega) (by omega)) rfl
 rw[if_neg h2];refine ah (show(o.1==(2:Int))=false by simp[h2]) ?_;by_cases h3:o.1=3
 ·rw[if_pos h3];refine ae (show(o.1==(3:Int))=true by simp[h3]) ?_;exact aa (amn hG s o hs hn (by omega)) rfl
 rw[if_neg h3];refine ah (show(o.1==(3:Int))=false by simp[h3]) ?_;by_cases h4:o.1=4
 ·rw[if_pos h4];refine ae (show(o.1==(4:Int))=true by simp[h4]) ?_;exact aa (amo hG s o hs hn hg) rfl
 rw[if_neg h4];refine ah (show(o.1==(4:Int))=false by simp[h4]) ?_;by_cases h5:o.1=5
 ·rw[if_pos h5];refine ae (show(o.1==(5:Int))=true by simp[h5]) ?_;exact aa (amp hG s o hs hn) rfl
 rw[if_neg h5];refine ah (show(o.1==(5:Int))=false by simp[h5]) ?_;by_cases h6:o.1=6
 ·rw[if_pos h6];refine ae (show(o.1==(6:Int))=true by simp[h6]) ?_;exact aa (amr hG s o hs hn hg) rfl
 rw[if_neg h6];refine ah (show(o.1==(6:Int))=false by simp[h6]) ?_;exact aa (amm hG s o (hs.sm (by omega))) rfl
structure Bs(n:Nat)(s:StateT):Prop where
 d:Bd n s.1
 g:s.2.length≤n
theorem Bs.mono{n m:Nat}{s:StateT}(h:Bs n s)(hm:n≤m):Bs m s:=⟨h.d.mono hm,by have:=h.g;omega⟩
theorem Bs.zero(n:Nat):Bs n zS:=⟨⟨adL _,adL _,fun w hw=>by simp[zS]at hw⟩,adL _⟩
theorem Bs.one{n:Nat}{s:StateT}(h:Bs n s)(o:aE):Bs (n+3) (bP s o).1:=by
 have h1:=h.d;have h2:=h.g;unfold bP
 split
 ·exact Bs.zero _
 split
 ·unfold mh;split
  ·exact Bs.zero _
  split
  ·exact Bs.zero _
  ·exact⟨(h1.cx _ (by simp)).mono (by omega),by simp only;omega⟩
 split
 ·unfold qL
  cases aG s.1 (ar o) with
  |none=>exact Bs.zero _
  |some v =>
   simp only
   split
   ·exact Bs.zero _
   ·exact⟨(h1.aH _ _).mono (by omega),by simp only;omega⟩
 split
 ·unfold kP
  split;· exact Bs.zero _
  split;· exact Bs.zero _
  split;· exact Bs.zero _
  split;· exact Bs.zero _
  split;· exact Bs.zero _
  exact⟨by unfold gS;exact((h1.bW _).br _ _).br _ _,by simp only;omega⟩
 split
 ·unfold w8
  split;· exact Bs.zero _
  refine⟨(((h1.au _).au _).aH _ _).mono (by omega),?_⟩;have a1:=gj s.2 ((ar o,0),dB s.1 (ar o,0));have a2:=gj (bR s.2 ((ar o,0),dB s.1 (ar o,0))) ((ar o,1),dB s.1 (ar o,1));simp only;omega
 split
 ·unfold jg
  split;· exact Bs.zero _
  split;· exact Bs.zero _
  split;· exact Bs.zero _
  split;· exact Bs.zero _
  split;· exact Bs.zero _
  refine⟨?_,by simp only;omega⟩;have b2:=((h1.az (JA o) (ag (Gf o))).bW (af o,(e0,0)));exact(b2.cx (cc o,(bG [JA o,Gf o],(e0,0))) (by simp[iC])).mono (by omega)
 split
 ·unfold fX;have key:∀a b:ab,Bs (n+3) (GM s o a b,HI s.2 a b):=fun a b=>by refine⟨(((h1.aH _ _).az _ _).aH _ _).mono (by omega),?_⟩;have a1:=gj s.2 ((b.1,0),sP a b 0);have a2:=gj (bR s.2 ((b.1,0),sP a b 0)) ((b.1,1),sP a b 1);simp only[HI];omega
  split
  ·exact Bs.zero _
  ·split
   ·unfold dH
    split;· exact Bs.zero _
    split;· exact key _ _
    split;· exact key _ _
    exact Bs.zero _
   ·exact Bs.zero _
 ·unfold qK
  split
  ·refine⟨⟨by simp;have:=h1.v;omega,by simp;have:=h1.e;omega,fun w hw=>?_⟩,by simp only;omega⟩;obtain⟨u,hu,rfl⟩:=abY.1 hw;have hr:=h1.r u hu;have e:(fN o u).2.1=u.2.1:=by unfold fN;split<;>(try split)<;>rfl
   rw[e];omega
  ·exact Bs.zero _
def ji:List aE→StateT→StateT×(Int×Unit)
 |[],s=>(s,(0,()))
 |o::r,s=>if(bP s o).2.1≠0 then(zS,(bP s o).2) else ji r (bP s o).1
def bC(s:StateT)(l:List aE):StateT×(Int×Unit):=if fh l≠0 then(zS,(fh l,())) else ji l s
theorem Bs.go{l:List aE}:∀{n:Nat} {s:StateT},Bs n s→Bs (n+3*l.length) (ji l s).1:=by
 induction l with
 |nil=>intro n s h;exact h.mono (by simp)
 |cons o r ih =>
  intro n s h;unfold ji
  split
  ·exact Bs.zero _
  ·exact(ih (h.one o)).mono (by simp;omega)
theorem agM(hG:HG G){n:Nat}(s:StateT)(l:List aE)(hs:Bs n s)(hn:n+3*l.length≤3000000)(ht:∀o∈l,ua o):FX G 49 I5 ((s,l,()),())=some (bC s l,()):=by
 refine aC (hG _ _ rfl) akI ?_;refine aa (aml hG l ht) ?_;unfold bC;by_cases h0:fh l=0
 case neg =>
  rw[if_pos h0];exact ae (show(fh l != 0)=true by simp[h0]) rfl
 rw[if_neg (by simp[h0])];refine ah (show(fh l != 0)=false by simp[h0]) ?_;have key:=cC l (fun i (s:StateT)=>LX G 49 I5 Tryz.f49 Ew (aY Tryz.prog 49 0) ((i,()),(((s,()),((l,()),((([]:List ai),(([]:List aj),(([]:List aF),()))),()))),()))) (fun(r:List aE) (s:StateT)=>(ji r s,())) (fun m s=>∃k,Bs k s∧k+3*m≤3000000) (fun s _=>by exact aB Vj (ah (eE _) rfl)) (fun i o r s hi hx E3 hk ih=>by
   obtain⟨k,hb,hk⟩:=hk;refine aB Vj ?_;refine ae (bj hi) ?_;refine aa (aT hx) ?_;have hbd:=hb.d;have hbg:=hb.g;refine aa (Zj hG s o hbd (by omega) (by omega) (ht o (ab1 hx))) ?_;rw[ji];by_cases h1:(bP s o).2.1=0
   ·rw[if_neg (by simp[h1])];refine ah (show((bP s o).2.1 != 0)=false by simp[h1]) ?_;rw[wI,aN hi (show l.length≤1073741824 by omega)];exact ih (bP s o).1 ⟨k+3,hb.one o,by omega⟩
   ·rw[if_pos h1];exact ae (show((bP s o).2.1 != 0)=true by simp[h1]) rfl)
  s ⟨n,hs,hn⟩
 exact key
def iM(s:StateT)(l:List aE):StateT:=if(bC s l).2.1≠0 then s else(bC s l).1
theorem agN(hG:HG G){n:Nat}(s:StateT)(l:List aE)(hs:Bs n s)(hn:n+3*l.length≤3000000)(ht:∀o∈l,ua o):FX G 64 N0 ((s,l,()),())=some ((iM s l,()),()):=by
 refine aC (hG _ _ rfl) akK ?_;refine aa (agM hG s l hs hn ht) ?_;unfold iM;by_cases h1:(bC s l).2.1=0
 ·rw[if_neg (by simp[h1])];exact ah (show((bC s l).2.1 != 0)=false by simp[h1]) rfl
 ·rw[if_pos h1];exact ae (show((bC s l).2.1 != 0)=true by simp[h1]) rfl
theorem Bs.try{n:Nat}{s:StateT}{l:List aE}(h:Bs n s):Bs (n+3*l.length) (iM s l):=by
 unfold iM
 split
 ·exact h.mono (by omega)
 ·unfold bC
  split
  ·exact Bs.zero _
  ·exact h.go
def oy:Nat→List (List aE)→StateT→StateT
 |0,_,s=>s
 |_+1,[],s=>s
 |n+1,l::r,s=>oy n r (iM s (l.take 8))
def E6(l:List (List aE)):StateT:=oy 30 l zS
theorem Bs.reach:∀(m:Nat) (l:List (List aE)) {n:Nat} {s:StateT},Bs n s→Bs (n+24*m) (oy m l s)
 |0,_,n,s,h=>by simpa[oy] using h
 |m+1,[],n,s,h=>h.mono (by omega)
 |m+1,l::r,n,s,h=>by
  rw[oy];have h1:Bs (n+3*(l.take 8).length) (iM s (l.take 8)):=h.try;have hl:(l.take 8).length≤8:=by simp;omega
  exact(Bs.reach m r (h1.mono (show n+3*(l.take 8).length≤n+24 by omega))).mono (by omega)
theorem Bs.Qk(l:List (List aE)):Bs 720 (E6 l):=(Bs.reach 30 l (Bs.zero 0)).mono (by omega)
end Go.Vs
