/- What the document's reference -/
import Derived.Test.YtoleelddkocpkaaGreatRefA
set_option linter.unusedVariables false
set_option linter.unusedSimpArgs false
namespace Go.Vs
open Go.Proofs
variable {G:(f:FuncId)→(g:aO)→Option (g.A→Option g.B)}
def Db(x:ID):List an→Int→Int
 |[],_ => -1
 |v::r,i=>if v.1=x then i else Db x r (i+1)
theorem O4(x:ID):∀(l:List an) (i:Int),0≤i→Db x l i = -1∨(i≤Db x l i∧Db x l i<i+l.length)
 |[],i,_=>.inl rfl
 |v::r,i,h=>by
  unfold Db
  split
  ·right;simp;omega
  ·rcases O4 x r (i+1) (by omega) with h|h
   ·exact .inl h
   ·right;simp;omega
theorem ahm(hG:G 227 GX=none)(d:ar)(x:ID)(hs:Sm d):FX G 227 GX ((d,x,()),())=some ((Db x d.1 0,()),()):=by
 have hv:=hs.v;refine au hG als ?_;have loop:∀(n i:Nat),i+n=d.1.length→LX G 227 GX Tryz.f227 EV (aE Tryz.prog 227 0) (((i:Int),()),(((d,()),((x,()),())),()))=some ((Db x (d.1.drop i) i,()),()):=by
  intro n
  induction n with
  |zero =>
   intro i hi;refine ak VL ?_;have h1:¬((i:Int)<(d.1.length:Int)):=by omega
   have h2:d.1.drop i=[]:=aeF (by omega);rw[h2];simp only[h1,decide_false];rfl
  |succ n ih =>
   intro i hi;refine ak VL ?_;have aG:i<d.1.length:=by omega
   have h2:d.1.drop i=d.1[i]::d.1.drop (i+1):=aeg aG;have hx:d.1[i]? = some d.1[i]:=abf aG;rw[h2,Db];simp only[aJ aG,ai hx,Option.bind_some,vX,aB aG (show d.1.length≤1073741824 by omega)];by_cases he:d.1[i].1=x
   ·have d1:=decide_eq_true he;rw[if_pos he];simp only[d1];rfl
   ·have d1:=decide_eq_false he;rw[if_neg he];simp only[d1];exact ih (i+1) (by omega)
 exact loop d.1.length 0 (by omega)
def Ka(d:ar)(e:aj)(out:List Int):List Int :=
 let a:=Db ((dA d (e.1,0)).getD zI) d.1 0
 let b:=Db ((dA d (e.1,1)).getD zI) d.1 0
 if 0≤a∧0≤b then(out.set a.toNat (min (out.getD a.toNat 0) (out.getD b.toNat 0))).set b.toNat (min (out.getD a.toNat 0) (out.getD b.toNat 0)) else out
def kI(d:ar):List aj→List Int→List Int
 |[],out=>out
 |e::r,out=>kI d r (Ka d e out)
def Mw(d:ar):Nat→List Int→List Int
 |0,out=>out
 |n+1,out=>Mw d n (kI d d.2 out)
def G4(n:Nat):List Int:=(List.range n).map fun i=>((i:Nat):Int)
def labels(d:ar):List Int:=Mw d d.1.length (G4 d.1.length)
theorem Mx(d:ar)(e:aj)(out:List Int):(Ka d e out).length=out.length:=by
 grind [Ka]
theorem zu(d:ar):∀(l:List aj) (out:List Int),(kI d l out).length=out.length
 |[],out=>rfl
 |e::r,out=>by rw[kI,zu d r,Mx]
theorem Cf(d:ar):∀(n:Nat) (out:List Int),(Mw d n out).length=out.length
 |0,out=>rfl
 |n+1,out=>by rw[Mw,Cf d n,zu]
theorem G5(d:ar):(labels d).length=d.1.length:=by grind [labels,Cf,G4]
theorem adt(hG:HG G)(d:ar)(hs:Sm d)(n:Int)(R:List Int→List Int) (hR:∀out:List Int,out.length=d.1.length→LX G 211 vT Tryz.f211 AP (aE Tryz.prog 211 1) ((IntKind.wrap .i64 (n+1),()),(((d,()),()),(out,())))=some ((R out,()),())) :
  ∀out:List Int,out.length=d.1.length→LX G 211 vT Tryz.f211 tY (aE Tryz.prog 211 2) ((n,((0:Int),())),(((d,()),()),(out,())))=some ((R (kI d d.2 out),()),()):=by
 have hv:=hs.v;have he:=hs.e;have loop:∀(m i:Nat) (out:List Int),i+m=d.2.length→out.length=d.1.length→LX G 211 vT Tryz.f211 tY (aE Tryz.prog 211 2) ((n,((i:Int),())),(((d,()),()),(out,())))=some ((R (kI d (d.2.drop i) out),()),()):=by
  intro m
  induction m with
  |zero =>
   intro i out hi ho;have h1:¬((i:Int)<(d.2.length:Int)):=by omega
   have h2:d.2.drop i=[]:=aeF (by omega);rw[h2,kI];refine ak VO ?_;simp only[h1,decide_false];exact hR out ho
  |succ m ih =>
   intro i out hi ho;have aG:i<d.2.length:=by omega
   have h2:d.2.drop i=d.2[i]::d.2.drop (i+1):=aeg aG;have hx:d.2[i]? = some d.2[i]:=abf aG;rw[h2,kI];generalize d.2[i]=e at *;refine ak VO ?_;simp only[aJ aG,ai hx,Option.bind_some,aB aG (show d.2.length≤1073741824 by omega)];refine aa (ZP hG d (e.1,0) (by omega) (fun w hw=>by have:=hs.r w hw;omega)) ?_;refine aa (ZP hG d (e.1,1) (by omega) (fun w hw=>by have:=hs.r w hw;omega)) ?_;rw[show(G2 zI (dA d (e.1,0))).1=(dA d (e.1,0)).getD zI from J8 _ _,show(G2 zI (dA d (e.1,1))).1=(dA d (e.1,1)).getD zI from J8 _ _];refine aa (ahm (hG _ _ rfl) d ((dA d (e.1,0)).getD zI) hs) ?_;refine aa (ahm (hG _ _ rfl) d ((dA d (e.1,1)).getD zI) hs) ?_;have hL:Ka d e out=(if 0≤Db ((dA d (e.1,0)).getD zI) d.1 0∧0≤Db ((dA d (e.1,1)).getD zI) d.1 0 then(out.set (Db ((dA d (e.1,0)).getD zI) d.1 0).toNat (min (out.getD (Db ((dA d (e.1,0)).getD zI) d.1 0).toNat 0) (out.getD (Db ((dA d (e.1,1)).getD zI) d.1 0).toNat 0))).set (Db ((dA d (e.1,1)).getD zI) d.1 0).toNat (min (out.getD (Db ((dA d (e.1,0)).getD zI) d.1 0).toNat 0) (out.getD (Db ((dA d (e.1,1)).getD zI) d.1 0).toNat 0)) else out):=rfl;have ha:=O4 ((dA d (e.1,0)).getD zI) d.1 0 (by omega);have hb:=O4 ((dA d (e.1,1)).getD zI) d.1 0 (by omega);generalize Db ((dA d (e.1,0)).getD zI) d.1 0=a at *;generalize Db ((dA d (e.1,1)).getD zI) d.1 0=b at *;by_cases h3:0≤a
   case neg =>
    have d3:decide (a≥0)=false:=decide_eq_false h3;rw[hL,if_neg (by omega)];simp only[d3];exact ih (i+1) out (by omega) ho
   have d3:decide (a≥0)=true:=decide_eq_true h3;by_cases h4:0≤b
   case neg =>
    have d4:decide (b≥0)=false:=decide_eq_false h4;rw[hL,if_neg (by omega)];simp only[d3,d4];exact ih (i+1) out (by omega) ho
   have d4:decide (b≥0)=true:=decide_eq_true h4;rw[if_pos ⟨h3,h4⟩]at hL;have hal:a.toNat<out.length:=by omega
   have hbl:b.toNat<out.length:=by omega
   have xa:out[a.toNat]? = some out[a.toNat]:=abf hal;have xb:out[b.toNat]? = some out[b.toNat]:=abf hbl;have ga:out.getD a.toNat 0=out[a.toNat]:=by grind
   have gb:out.getD b.toNat 0=out[b.toNat]:=by grind
   rw[ga,gb]at hL;generalize out[a.toNat]=p at *;generalize out[b.toNat]=q at *;have d5:decide ((0:Int)≤a)=true:=decide_eq_true h3;have d6:decide ((0:Int)≤b)=true:=decide_eq_true h4;have d7:decide (a<((out.length:Nat):Int))=true:=decide_eq_true (by omega);have d8:decide (b<((out.length:Nat):Int))=true:=decide_eq_true (by omega);have hbs:b.toNat<(out.set a.toNat (min p q)).length:=by simp_all
   have d9:decide (b<(((out.set a.toNat (min p q)).length:Nat):Int))=true:=decide_eq_true (by simp;omega);have xs:(out.set a.toNat (min p q))[b.toNat]? = some (out.set a.toNat (min p q))[b.toNat]:=abf hbs;simp only[d3,d4,d5,d6,d7,d8,Bool.and_self,xa,xb,Option.bind_some,d9,xs];rw[hL];exact ih (i+1) ((out.set a.toNat (min p q)).set b.toNat (min p q)) (by omega) (by simp[ho])
 intro out ho;exact loop d.2.length 0 out (by omega) ho
theorem amt(hG:HG G)(d:ar)(hs:Sm d):FX G 211 vT ((d,()),())=some ((labels d,()),()):=by
 have hv:=hs.v;refine au (hG _ _ rfl) alu ?_;have l1:∀(n i:Nat) (out:List Int),i+n=d.1.length→out.length=d.1.length→LX G 211 vT Tryz.f211 AP (aE Tryz.prog 211 1) (((i:Int),()),(((d,()),()),(out,())))=some ((Mw d n out,()),()):=by
  intro n
  induction n with
  |zero =>
   intro i out hi ho;refine ak VN ?_;have h1:¬((i:Int)<(d.1.length:Int)):=by omega
   simp only[h1,decide_false];rfl
  |succ n ih =>
   intro i out hi ho;refine ak VN ?_;have aG:i<d.1.length:=by omega
   simp only[aJ aG];exact adt hG d hs (i:Int) (Mw d n) (fun out ho=>by rw[aB aG (show d.1.length≤1073741824 by omega)];exact ih (i+1) out (by omega) ho) out ho
 have l0:∀(n i:Nat) (out:List Int),i+n=d.1.length→out=G4 i→LX G 211 vT Tryz.f211 EW (aE Tryz.prog 211 0) (((i:Int),()),(((d,()),()),(out,())))=some ((labels d,()),()):=by
  intro n
  induction n with
  |zero =>
   intro i out hi ho;refine ak VM ?_;have h1:¬((i:Int)<(d.1.length:Int)):=by omega
   have xe:i=d.1.length:=by omega
   subst xe;simp only[h1,decide_false];have:=l1 d.1.length 0 out (by omega) (by grind [G4]);rw[ho]at this ⊢;exact this
  |succ n ih =>
   intro i out hi ho;refine ak VM ?_;have aG:i<d.1.length:=by omega
   have h6:aR out.length [(i:Int)].length=true:=fits (by rw[ho];simp[G4];omega);simp only[aJ aG,h6,aB aG (show d.1.length≤1073741824 by omega)];exact ih (i+1) (out++[(i:Int)]) (by omega) (by rw[ho];simp[G4,List.range_succ])
 exact l0 d.1.length 0 [] (by omega) (by simp[G4])
def si:List Int→Int→Int→Int
 |[],_,n=>n
 |x::r,i,n=>si r (i+1) (if x=i then IntKind.wrap .i64 (n+1) else n)
def fM(d:ar):Int:=si (labels d) 0 0
theorem amu(hG:HG G)(d:ar)(hs:Sm d):FX G 186 LJ ((d,()),())=some ((fM d,()),()):=by
 have hv:=hs.v;have hl:=G5 d;refine au (hG _ _ rfl) alk ?_;refine aa (amt hG d hs) ?_;unfold fM;generalize labels d=l at *;have loop:∀(m i:Nat) (n:Int),i+m=l.length→LX G 186 LJ Tryz.f186 AO (aE Tryz.prog 186 0) ((n,((i:Int),())),((),(l,())))=some ((si (l.drop i) i n,()),()):=by
  intro m
  induction m with
  |zero =>
   intro i n hi;refine ak VH ?_;have h1:¬((i:Int)<(l.length:Int)):=by omega
   have h2:l.drop i=[]:=aeF (by omega);rw[h2];simp only[h1,decide_false];rfl
  |succ m ih =>
   intro i n hi;refine ak VH ?_;have aG:i<l.length:=by omega
   have h2:l.drop i=l[i]::l.drop (i+1):=aeg aG;have hx:l[i]? = some l[i]:=abf aG;rw[h2,si];simp only[aJ aG,kl,Bool.and_self,Int.toNat_natCast,hx,Option.bind_some,aB aG (show l.length≤1073741824 by omega)];by_cases he:l[i]=(i:Int)
   ·have d1:(l[i]==(i:Int))=true:=by simp[he]
    rw[if_pos he];simp only[d1];exact ih (i+1) _ (by omega)
   ·have d1:(l[i]==(i:Int))=false:=by simp[he]
    rw[if_neg he];simp only[d1];exact ih (i+1) _ (by omega)
 exact loop l.length 0 0 (by omega)
def xG:List an→Int→Int
 |[],n=>n
 |v::r,n=>xG r (if v.2.1.length=0 then IntKind.wrap .i64 (n+1) else n)
def Fk(d:ar):Int:=xG d.1 ((((cv d).length:Nat)):Int)
theorem amv(hG:HG G)(d:ar)(hs:Sm d)(he:d.2.length≤5000000):FX G 149 JR ((d,()),())=some ((((d.1.length:Nat):Int),(((d.2.length:Nat):Int),(Fk d,(fM d,())))),()):=by
 have hv:=hs.v;refine au (hG _ _ rfl) alP ?_;refine aa (ams hG d hs he) ?_;unfold Fk;show LX G 149 JR Tryz.f149 xy (aE Tryz.prog 149 0) ((lI (cv d),((0:Int),())),(((d,()),()),()))=_;unfold lI;generalize (((cv d).length:Nat):Int)=f0;have key:=bh d.1 (fun i (n:Int)=>LX G 149 JR Tryz.f149 xy (aE Tryz.prog 149 0) ((n,(i,())),(((d,()),()),()))) (fun(r:List an) (n:Int)=>((((d.1.length:Nat):Int),(((d.2.length:Nat):Int),(xG r n,(fM d,())))),())) (fun _ _=>True) (fun n _=>by refine ak V9 ?_;simp only[bW];exact aa (amu hG d hs) rfl) (fun i y r n hi hx A3 _ ih=>by
   refine ak V9 ?_;simp only[aJ hi,ai hx,Option.bind_some,aB hi (show d.1.length≤1073741824 by omega)];by_cases he:y.2.1.length=0
   ·have d1:((((y.2.1.length:Nat)):Int)==0)=true:=by simp[he]
    simp only[d1,xG,if_pos he];simp_all
   ·have d1:((((y.2.1.length:Nat)):Int)==0)=false:=by simp_all
    simp only[d1,xG,if_neg he];simp_all)
  f0 trivial
 exact key
def cX(d:ar):Int:=IntKind.wrap .i64 (Int.tdiv (IntKind.wrap .i64 (IntKind.wrap .i64 (IntKind.wrap .i64 (IntKind.wrap .i64 (2*fM d)-((d.1.length:Nat):Int))+((d.2.length:Nat):Int))-Fk d)) 2)
theorem amw(hG:HG G)(d:ar)(hs:Sm d)(he:d.2.length≤5000000):FX G 99 Vm ((d,()),())=some ((cX d,()),()):=by refine au (hG _ _ rfl) alC ?_;exact aa (amv hG d hs he) rfl
theorem ZQ{s:ByteArray}{i:Nat}{c:UInt8}(h:s.data.toList[i]? = some c):(if(0:Int)≤(i:Int) then s[Int.toNat (i:Int)]? else none)=some c:=by
 have hi:i<s.size:=by have:=(abp.1 h).1;simp_all
 rw[if_pos (by omega),Int.toNat_natCast,getElem?_pos s i hi];have h2:=(abp.1 h).2;rw[←h2];rfl
def l6(c:UInt8):Bool:=decide (32≤c.toNat)&&decide (c.toNat≤126)
def dY(s:ByteArray):Bool:=s.data.toList.all l6&&decide (s.size≤16)
theorem aho(hG:G 122 CA=none)(s:ByteArray)(hs:s.size≤100000000):FX G 122 CA ((s,()),())=some ((dY s,()),()):=by
 refine au hG alg ?_;have hl:s.data.toList.length=s.size:=by simp
 have key:=bh s.data.toList (fun i (_:Unit)=>LX G 122 CA Tryz.f122 ES (aE Tryz.prog 122 0) ((s,(i,())),((),()))) (fun(r:List UInt8) (_:Unit)=>((r.all l6&&decide (s.size≤16),()),())) (fun _ _=>True) (fun _ _=>by
   refine ak VF ?_;rw[hl];have h2:decide (((s.size:Nat):Int)≤16)=decide (s.size≤16):=by
    grind
   simp only[bW,h2,List.all_nil,Bool.true_and];rfl)
  (fun i c r _ hi hx A3 _ ih=>by
   refine ak VF ?_;rw[hl]at hi;have hb:=ZQ hx;simp only[aJ hi,hb,Option.bind_some,aB hi (show s.size≤1073741824 by omega)];by_cases h1:c.toNat<32
   ·have d1:decide (((c.toNat:Nat):Int)<32)=true:=decide_eq_true (by omega);have d2:l6 c=false:=by grind [l6]
    simp only[d1,List.all_cons,d2,Bool.false_and];rfl
   ·have d1:decide (((c.toNat:Nat):Int)<32)=false:=decide_eq_false (by omega);by_cases h2:126<c.toNat
    ·have d2:decide (((c.toNat:Nat):Int)>126)=true:=decide_eq_true (by omega);have d3:l6 c=false:=by grind [l6]
     simp only[d1,d2,List.all_cons,d3,Bool.false_and];rfl
    ·have d2:decide (((c.toNat:Nat):Int)>126)=false:=decide_eq_false (by omega);have d3:l6 c=true:=by grind [l6]
     simp only[d1,d2,List.all_cons,d3,Bool.true_and];exact ih () trivial)
  () trivial
 exact key
def dE(n:Int):Bool:=decide (-1099511627776≤n∧n≤1099511627776)
theorem ahp(hG:G 121 Ex=none)(n:Int):FX G 121 Ex ((n,()),())=some ((dE n,()),()):=by
 refine au hG alh ?_;show(cond (decide (n≥-1099511627776)) (some ((decide (n≤1099511627776),()),())) (some ((false,()),())):Option ((Bool×Unit)×Unit))=some ((dE n,()),())
 grind [dE]
def My(c:xV):Bool:=bQ c.1&&(gr c.2 || decide (c.2=zD))
def zOp:bP:=(0,(zI,(zI,(zI,(zC,(zC,(false,(e0,0))))))))
def Mz(o:bP):bP :=if o.1=3 then(0,(zI,(o.2.2.1,(o.2.2.2.1,(zC,(zC,(o.2.2.2.2.2.2.1,o.2.2.2.2.2.2.2)))))))
 else if o.1=5 then(0,(zI,(zI,(zI,(o.2.2.2.2.1,(o.2.2.2.2.2.1,(o.2.2.2.2.2.2.1,(o.2.2.2.2.2.2.2.1,0))))))))
 else if o.1=6 then(0,(zI,(o.2.2.1,(zI,(o.2.2.2.2.1,(o.2.2.2.2.2.1,(o.2.2.2.2.2.2.1,o.2.2.2.2.2.2.2)))))))
 else if o.1=7 then(0,(zI,(o.2.2.1,(o.2.2.2.1,(o.2.2.2.2.1,(o.2.2.2.2.2.1,(false,(e0,o.2.2.2.2.2.2.2.2))))))))
 else if o.1=8 then(0,(zI,(o.2.2.1,(o.2.2.2.1,(o.2.2.2.2.1,(o.2.2.2.2.2.1,(false,(o.2.2.2.2.2.2.2.1,0))))))))
 else(0,(zI,(o.2.2.1,(o.2.2.2.1,(o.2.2.2.2.1,(o.2.2.2.2.2.1,(o.2.2.2.2.2.2.1,o.2.2.2.2.2.2.2)))))))
def G6(x y:bP):Bool :=(x.1==y.1)&&(((x.2.1.1==y.2.1.1)&&(x.2.1.2==y.2.1.2))&&(((x.2.2.1.1==y.2.2.1.1)&&(x.2.2.1.2==y.2.2.1.2))&&(((x.2.2.2.1.1==y.2.2.2.1.1)&&(x.2.2.2.1.2==y.2.2.2.1.2)) && ((((x.2.2.2.2.1.1.1==y.2.2.2.2.1.1.1)&&(x.2.2.2.2.1.1.2==y.2.2.2.2.1.1.2))&&(((x.2.2.2.2.1.2.1.1==y.2.2.2.2.1.2.1.1)&&(x.2.2.2.2.1.2.1.2==y.2.2.2.2.1.2.1.2))&&(x.2.2.2.2.1.2.2==y.2.2.2.2.1.2.2))) && ((((x.2.2.2.2.2.1.1.1==y.2.2.2.2.2.1.1.1)&&(x.2.2.2.2.2.1.1.2==y.2.2.2.2.2.1.1.2))&&(((x.2.2.2.2.2.1.2.1.1==y.2.2.2.2.2.1.2.1.1)&&(x.2.2.2.2.2.1.2.1.2==y.2.2.2.2.2.1.2.1.2))&&(x.2.2.2.2.2.1.2.2==y.2.2.2.2.2.1.2.2))) && ((x.2.2.2.2.2.2.1==y.2.2.2.2.2.2.1)&&((x.2.2.2.2.2.2.2.1==y.2.2.2.2.2.2.2.1)&&(x.2.2.2.2.2.2.2.2==y.2.2.2.2.2.2.2.2))))))))
theorem MA(x y:bP):G6 x y=true↔x=y:=by obtain⟨x1,⟨x2,x3⟩,⟨x4,x5⟩,⟨x6,x7⟩,⟨⟨x8,x9⟩,⟨x10,x11⟩,x12⟩,⟨⟨x13,x14⟩,⟨x15,x16⟩,x17⟩,x18,x19,x20⟩:=x;obtain⟨y1,⟨y2,y3⟩,⟨y4,y5⟩,⟨y6,y7⟩,⟨⟨y8,y9⟩,⟨mK,kj⟩,q8⟩,⟨⟨mY,KN⟩,⟨CF,y16⟩,y17⟩,y18,y19,Mh⟩:=y;simp_all [G6,ZN,and_assoc]
theorem aW{α:Type}{c b:Bool}{x y r:α}(h:c=b)(k:cond (not b) x y=r):cond (not c) x y=r:=by simp_all
def dV(o:bP):Int :=if o.1<1 then 1 else if 8<o.1 then 1 else if bQ o.2.1=false then 1 else if G6 (Mz o) zOp=false then 1
 else if o.1=3 then(if My o.2.2.2.2.1=true∧My o.2.2.2.2.2.1=true then 0 else 1)
 else if o.1=5 then(if bQ o.2.2.1=true∧bQ o.2.2.2.1=true∧0≤o.2.2.2.2.2.2.2.2∧o.2.2.2.2.2.2.2.2≤3 then 0 else 1)
 else if o.1=6 then(if bQ o.2.2.2.1=true then 0 else 1)
 else if o.1=8 then(if dE o.2.2.2.2.2.2.2.2=true then 0 else 1)
 else if o.1=7 then(if dY o.2.2.2.2.2.2.2.1=true then 0 else 4)
 else 0
def I1(n:Int):Option ((Int×Unit)×Unit):=some ((n,()),())
def adu(o:bP):Prop:=o.2.2.2.2.2.2.2.1.size≤100000000
def qF:List bP→Int
 |[]=>0
 |o::r=>if dV o≠0 then dV o else qF r
def ig(l:List bP):Int:=if 1≤l.length∧l.length≤6 then qF l else 3
theorem ae{α:Type}{c:Bool}{x y r:α}(h:c=true)(k:x=r):cond c x y=r:=by simp_all
theorem af{α:Type}{c:Bool}{x y r:α}(h:c=false)(k:y=r):cond c x y=r:=by simp_all
theorem dw{a b:Bool}(h:a=true)(k:b=true):(a&&b)=true:=by rw[h,k];rfl
def zS:StateT:=(([],[]),[])
abbrev bK(o:bP):ID:=o.2.1
abbrev iM(o:bP):ID:=o.2.2.1
abbrev bY(o:bP):ID:=o.2.2.2.1
abbrev oA(o:bP):xV:=o.2.2.2.2.1
abbrev oB(o:bP):xV:=o.2.2.2.2.2.1
abbrev A5(o:bP):Bool:=o.2.2.2.2.2.2.1
abbrev zw(o:bP):ByteArray:=o.2.2.2.2.2.2.2.1
abbrev oN(o:bP):Int:=o.2.2.2.2.2.2.2.2
def tg(o:bP)(w:an):an:=if A5 o=false∧w.1=bK o then(if o.1=7 then(w.1,(w.2.1,(zw o,w.2.2.2))) else(w.1,(w.2.1,(w.2.2.1,oN o)))) else w
def xH(o:bP)(w:aj):aj:=if A5 o=true∧w.1=bK o then(if o.1=7 then(w.1,(zw o,w.2.2)) else(w.1,(w.2.1,oN o))) else w
def ahr(o:bP)(l:List an):Bool := !(A5 o)&&l.any fun w=>decide (w.1=bK o)
def ahs(o:bP)(l:List aj):Bool:=A5 o&&l.any fun w=>decide (w.1=bK o)
def A6(s:StateT)(o:bP):StateT×(Int×Unit) :=if ahr o s.1.1 || ahs o s.1.2 then(((s.1.1.map (tg o),s.1.2.map (xH o)),s.2),(0,())) else(zS,(13,()))
structure Bd(n:Nat)(d:ar):Prop where
 v:d.1.length≤n
 e:d.2.length≤n
 r:∀w∈d.1,w.2.1.length≤n
theorem Bd.sm{n:Nat}{d:ar}(h:Bd n d)(hn:n≤50000000):Sm d:=⟨by have:=h.v;omega,by have:=h.e;omega,fun w hw=>by have:=h.r w hw;omega⟩
theorem Bd.mono{n m:Nat}{d:ar}(h:Bd n d)(hm:n≤m):Bd m d:=⟨by have:=h.v;omega,by have:=h.e;omega,fun w hw=>by have:=h.r w hw;omega⟩
theorem iD(v:an):∀l:List an,(im v l).length=l.length+1
 |[]=>rfl
 |w::r=>by unfold im;split<;>simp[iD v r]
theorem l8(v:aj):∀l:List aj,(ib v l).length=l.length+1
 |[]=>rfl
 |w::r=>by unfold ib;split<;>simp[l8 v r]
theorem og{v w:an}:∀{l:List an},w∈im v l↔w=v∨w∈l
 |[]=>by simp[im]
 |u::r=>by
  unfold im
  split
  ·simp
  ·simp only[List.mem_cons,og (l:=r)];exact⟨fun h=>by rcases h with h|h|h<;>simp[h],fun h=>by rcases h with h|h|h<;>simp[h]⟩
theorem qG{v w:aj}:∀{l:List aj},w∈ib v l↔w=v∨w∈l
 |[]=>by simp[ib]
 |u::r=>by
  unfold ib
  split
  ·simp
  ·simp only[List.mem_cons,qG (l:=r)];exact⟨fun h=>by rcases h with h|h|h<;>simp[h],fun h=>by rcases h with h|h|h<;>simp[h]⟩
theorem Cg(row:List ag)(a d:ag):(uk row a d).length≤row.length+1:=by
 grind [uk,jW]
theorem MB(row:List ag)(d:ag):(j0 row d).length≤row.length:=by
 grind [j0,jW,List.length_filter_le]
theorem Kb(row:List ag)(a d:ag):(oc row a d).length=row.length:=by
 grind [oc,jW]
theorem Bd.dd{n:Nat}{d:ar}(h:Bd n d)(x:ID):(dd d x).length≤n:=by
 unfold Vs.dd
 cases hf:cH d x with
 |none=>simp[zV]
 |some v=>exact h.r v (ado hf)
theorem Bd.cE{n:Nat}{d:ar}(h:Bd n d){x:ID}{l:List ag}(hl:l.length≤n):Bd n (cE d x l):=by
 refine⟨by simp[Vs.cE];exact h.v,h.e,fun w hw=>?_⟩;obtain⟨u,hu,rfl⟩:=acE.1 hw;unfold A4
 split
 ·exact hl
 ·exact h.r u hu
theorem Bd.cS{n:Nat}{d:ar}(h:Bd n d)(c:xV)(x:ag):Bd (n+1) (cS d c x) :=(h.mono (by omega)).cE (by have:=Cg (Vs.dd d c.1) c.2 x;have:=h.dd c.1;omega)
theorem Bd.aU{n:Nat}{d:ar}(h:Bd n d)(a x:ag):Bd n (aU d a x) :=h.cE (by rw[Kb];exact h.dd _)
theorem Bd.aN{n:Nat}{d:ar}(h:Bd n d)(x:ag):Bd n (aN d x) :=h.cE (by have:=MB (Vs.dd d ((dA d x).getD zI)) x;have:=h.dd ((dA d x).getD zI);omega)
theorem Bd.bj{n:Nat}{d:ar}(h:Bd n d)(v e:ID):Bd n (bj d v e) :=⟨acR (adS _ _) h.v,acR (adS _ _) h.e,fun w hw=>h.r w (aeC.1 hw).1⟩
theorem Bd.im{n:Nat}{d:ar}(h:Bd n d)(v:an)(hv:v.2.1.length≤n+1):Bd (n+1) (im v d.1,d.2) :=⟨by rw[iD];have:=h.v;omega,by have:=h.e;grind,fun w hw=>by
  rcases og.1 hw with rfl|hw
  ·exact hv
  ·have:=h.r w hw;omega⟩
theorem Bd.ib{n:Nat}{d:ar}(h:Bd n d)(v:aj):Bd (n+1) (d.1,ib v d.2) :=⟨by have:=h.v;grind,by rw[l8];have:=h.e;omega,fun w hw=>by have:=h.r w hw;omega⟩
theorem Ch(g:aC):∀l:List aC,(tf g l).length≤l.length+1
 |[]=>by simp[tf]
 |e::r=>by
  unfold tf
  split
  ·have:=adS (fun q:aC=>decide (q.1≠g.1)) (e::r);simp[vZ];simp at this;omega
  ·have:=Ch g r
   split<;>simp<;>omega
theorem oi(l:List aC)(g:aC):(ct l g).length≤l.length+1:=by
 grind [ct,Ch]
def qH(s:StateT)(o:bP):ar :=cS (cS (s.1.1,ib (bK o,(e0,0)) s.1.2) (dn s (oA o)).1 (bK o,0)) (if(cH s.1 (oB o).1).isSome=true∧(oB o).2=(bK o,0) then oB o else(dn s (oB o)).1) (bK o,1)
def uo(s:StateT)(o:bP):StateT×(Int×Unit) :=if(oF s.1 (bK o)).isSome=true then(zS,(12,()))
 else if 40≤s.1.2.length then(zS,(3,()))
 else if(dn s (oA o)).2.1≠0 then(zS,(13,()))
 else if(dn s (oB o)).2.1≠0 then(zS,(13,()))
 else if cX (qH s o)≠0 then(zS,(15,()))
 else((qH s o,s.2),(0,()))
def MC(s:StateT)(o:bP):StateT×(Int×Unit) :=if(oF s.1 (bK o)).isSome=false then(zS,(13,()))
 else((bj (aN (aN s.1 (bK o,0)) (bK o,1)) zI (bK o),ct (ct s.2 ((bK o,0),fL s.1 (bK o,0))) ((bK o,1),fL s.1 (bK o,1))),(0,()))
def ZR(o:bP):ag:=(bK o,IntKind.wrap .i64 (1-Int.tmod (oN o) 2))
def YV(o:bP):ag:=(bY o,IntKind.wrap .i64 (Int.tdiv (oN o) 2))
def WE(s:StateT)(o:bP):ar :=(im (iM o,(cZ [ZR o,YV o],(e0,0))) (aU s.1 (ZR o) (aw (YV o))).1,ib (bY o,(e0,0)) (aU s.1 (ZR o) (aw (YV o))).2)
def pQ(s:StateT)(o:bP):StateT×(Int×Unit) :=if(oF s.1 (bK o)).isSome=false then(zS,(13,()))
 else if(cH s.1 (iM o)).isSome=true then(zS,(12,()))
 else if(oF s.1 (bY o)).isSome=true then(zS,(12,()))
 else if 24≤s.1.1.length then(zS,(3,()))
 else if 40≤s.1.2.length then(zS,(3,()))
 else((WE s o,s.2),(0,()))
def ti(a b:ag)(i:Int):ag:=if(b.1,i)=aw b then a else zD
def NO(g:List aC)(a b:ag):List aC:=ct (ct g ((b.1,0),ti a b 0)) ((b.1,1),ti a b 1)
def Ta(s:StateT)(o:bP)(a b:ag):ar:=bj (aU (bj s.1 (bK o) zI) (aw b) a) zI b.1
def mO(s:StateT)(o:bP)(r0 r1:ag):StateT×(Int×Unit) :=if r0.1=r1.1 then(zS,(14,()))
 else if r0.1=bY o then((Ta s o r1 r0,NO s.2 r1 r0),(0,()))
 else if r1.1=bY o then((Ta s o r0 r1,NO s.2 r0 r1),(0,()))
 else(zS,(14,()))
def pj(s:StateT)(o:bP):StateT×(Int×Unit):=match cH s.1 (bK o) with
 |none=>(zS,(13,()))
 |some v=>match v.2.1 with
  |[r0,r1]=>mO s o r0 r1
  |_=>(zS,(14,()))
def sW(s:StateT)(o:bP):StateT×(Int×Unit) :=if(cH s.1 (bK o)).isSome=true then(zS,(12,())) else if 24≤s.1.1.length then(zS,(3,())) else(((im (bK o,([],(e0,0))) s.1.1,s.1.2),s.2),(0,()))
def Ci(s:StateT)(o:bP):StateT×(Int×Unit):=match cH s.1 (bK o) with
 |none=>(zS,(13,()))
 |some v=>if 0<v.2.1.length then(zS,(14,())) else((bj s.1 (bK o) zI,s.2),(0,()))
def qI(s:StateT)(o:bP):StateT×(Int×Unit) :=if dV o≠0 then(zS,(dV o,()))
 else if o.1=1 then sW s o else if o.1=2 then Ci s o else if o.1=3 then uo s o else if o.1=4 then MC s o else if o.1=5 then pQ s o else if o.1=6 then pj s o else A6 s o
structure Bs(n:Nat)(s:StateT):Prop where
 d:Bd n s.1
 g:s.2.length≤n
theorem Bs.mono{n m:Nat}{s:StateT}(h:Bs n s)(hm:n≤m):Bs m s:=⟨h.d.mono hm,by have:=h.g;omega⟩
theorem Bs.zero(n:Nat):Bs n zS:=⟨⟨ac6 _,ac6 _,fun w hw=>by simp[zS]at hw⟩,ac6 _⟩
theorem Bs.one{n:Nat}{s:StateT}(h:Bs n s)(o:bP):Bs (n+3) (qI s o).1:=by
 have h1:=h.d;have h2:=h.g;unfold qI
 split
 ·exact Bs.zero _
 split
 ·unfold sW;split
  ·exact Bs.zero _
  split
  ·exact Bs.zero _
  ·exact⟨(h1.im _ (by simp)).mono (by omega),by grind⟩
 split
 ·unfold Ci
  cases cH s.1 (bK o) with
  |none=>exact Bs.zero _
  |some v =>
   simp only
   split
   ·exact Bs.zero _
   ·exact⟨(h1.bj _ _).mono (by omega),by grind⟩
 split
 ·unfold uo
  split;· exact Bs.zero _
  split;· exact Bs.zero _
  split;· exact Bs.zero _
  split;· exact Bs.zero _
  split;· exact Bs.zero _
  exact⟨by unfold qH;exact((h1.ib _).cS _ _).cS _ _,by grind⟩
 split
 ·unfold MC
  split;· exact Bs.zero _
  refine⟨(((h1.aN _).aN _).bj _ _).mono (by omega),?_⟩;have a1:=oi s.2 ((bK o,0),fL s.1 (bK o,0));have a2:=oi (ct s.2 ((bK o,0),fL s.1 (bK o,0))) ((bK o,1),fL s.1 (bK o,1))
  grind
 split
 ·unfold pQ
  split;· exact Bs.zero _
  split;· exact Bs.zero _
  split;· exact Bs.zero _
  split;· exact Bs.zero _
  split;· exact Bs.zero _
  refine⟨?_,by grind⟩;have b2:=((h1.aU (ZR o) (aw (YV o))).ib (bY o,(e0,0)));exact(b2.im (iM o,(cZ [ZR o,YV o],(e0,0))) (by simp[jW])).mono (by omega)
 split
 ·unfold pj;have key:∀a b:ag,Bs (n+3) (Ta s o a b,NO s.2 a b):=fun a b=>by
   refine⟨(((h1.bj _ _).aU _ _).bj _ _).mono (by omega),?_⟩
   grind [oi,ti,ct,NO]
  grind [Bs.zero,mO]
 ·unfold A6
  split
  ·refine⟨⟨by simp;have:=h1.v;omega,by simp;have:=h1.e;omega,fun w hw=>?_⟩,by grind⟩;obtain⟨u,hu,rfl⟩:=acE.1 hw;have hr:=h1.r u hu
   grind [tg]
  ·exact Bs.zero _
def Kc:List bP→StateT→StateT×(Int×Unit)
 |[],s=>(s,(0,()))
 |o::r,s=>if(qI s o).2.1≠0 then(zS,(qI s o).2) else Kc r (qI s o).1
def eV(s:StateT)(l:List bP):StateT×(Int×Unit):=if ig l≠0 then(zS,(ig l,())) else Kc l s
theorem Bs.go{l:List bP}:∀{n:Nat} {s:StateT},Bs n s→Bs (n+3*l.length) (Kc l s).1:=by
 induction l with
 |nil=>intro n s h;exact h.mono (by simp)
 |cons o r ih =>
  intro n s h;unfold Kc
  split
  ·exact Bs.zero _
  ·exact(ih (h.one o)).mono (by simp;omega)
def kB(s:StateT)(l:List bP):StateT:=if(eV s l).2.1≠0 then s else(eV s l).1
theorem Bs.try{n:Nat}{s:StateT}{l:List bP}(h:Bs n s):Bs (n+3*l.length) (kB s l):=by
 unfold kB
 split
 ·exact h.mono (by omega)
 ·unfold eV
  split
  ·exact Bs.zero _
  ·exact h.go
def oo:Nat→List (List bP)→StateT→StateT
 |0,_,s=>s
 |_+1,[],s=>s
 |n+1,l::r,s=>oo n r (kB s (l.take 8))
def Fl(l:List (List bP)):StateT:=oo 30 l zS
theorem Bs.reach:∀(m:Nat) (l:List (List bP)) {n:Nat} {s:StateT},Bs n s→Bs (n+24*m) (oo m l s)
 |0,_,n,s,h=>by grind [oo]
 |m+1,[],n,s,h=>h.mono (by omega)
 |m+1,l::r,n,s,h=>by
  rw[oo];have h1:Bs (n+3*(l.take 8).length) (kB s (l.take 8)):=h.try;have hl:(l.take 8).length≤8:=by simp;omega
  exact(Bs.reach m r (h1.mono (show n+3*(l.take 8).length≤n+24 by omega))).mono (by omega)
theorem Bs.QK(l:List (List bP)):Bs 720 (Fl l):=(Bs.reach 30 l (Bs.zero 0)).mono (by omega)
end Go.Vs
