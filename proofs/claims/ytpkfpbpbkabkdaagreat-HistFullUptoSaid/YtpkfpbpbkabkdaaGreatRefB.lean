/- What the document's reference computes, written plainly, the second part. -/
import Derived.Test.YtpkfpbpbkabkdaaGreatRefA
set_option linter.unusedVariables false
set_option linter.unusedSimpArgs false
namespace Go.Vs
open Go.Proofs
variable {G:(f:FuncId)→(g:aK)→Option (g.A→Option g.B)}
def Si(x:ID):List ah→Int→Int
 |[],_ => -1
 |v::r,i=>if v.1=x then i else Si x r (i+1)
def Kb(d:ak)(e:aq)(out:List Int):List Int :=
 let a:=Si ((fa d (e.1,0)).getD zI) d.1 0
 let b:=Si ((fa d (e.1,1)).getD zI) d.1 0
 if 0≤a∧0≤b then(out.set a.toNat (min (out.getD a.toNat 0) (out.getD b.toNat 0))).set b.toNat (min (out.getD a.toNat 0) (out.getD b.toNat 0)) else out
def oz(d:ak):List aq→List Int→List Int
 |[],out=>out
 |e::r,out=>oz d r (Kb d e out)
def Py(d:ak):Nat→List Int→List Int
 |0,out=>out
 |n+1,out=>Py d n (oz d d.2 out)
def Pz(n:Nat):List Int:=(List.range n).map fun i=>((i:Nat):Int)
def labels(d:ak):List Int:=Py d d.1.length (Pz d.1.length)
def si:List Int→Int→Int→Int
 |[],_,n=>n
 |x::r,i,n=>si r (i+1) (if x=i then IntKind.wrap .i64 (n+1) else n)
def fS(d:ak):Int:=si (labels d) 0 0
def ze:List ah→Int→Int
 |[],n=>n
 |v::r,n=>ze r (if v.2.1.length=0 then IntKind.wrap .i64 (n+1) else n)
def G7(d:ak):Int:=ze d.1 ((((cQ d).length:Nat)):Int)
def nV(d:ak):Int:=IntKind.wrap .i64 (Int.tdiv (IntKind.wrap .i64 (IntKind.wrap .i64 (IntKind.wrap .i64 (IntKind.wrap .i64 (2*fS d)-((d.1.length:Nat):Int))+((d.2.length:Nat):Int))-G7 d)) 2)
end Go.Vs
namespace Go.Vs
open Go.Proofs
variable {G:(f:FuncId)→(g:aK)→Option (g.A→Option g.B)}
def rz(c:UInt8):Bool:=decide (32≤c.toNat)&&decide (c.toNat≤126)
def EV(s:ByteArray):Bool:=s.data.toList.all rz&&decide (s.size≤16)
def AJ(n:Int):Bool:=decide (-1099511627776≤n∧n≤1099511627776)
def EW(c:tn):Bool:=dF c.1&&(Sh c.2 || decide (c.2=zD))
def TH:bh:=(0,(zI,(zI,(zI,(zC,(zC,(false,(e0,0))))))))
def BB(o:bh):bh :=
 if o.1=3 then(0,(zI,(o.2.2.1,(o.2.2.2.1,(zC,(zC,(o.2.2.2.2.2.2.1,o.2.2.2.2.2.2.2)))))))
 else if o.1=5 then(0,(zI,(zI,(zI,(o.2.2.2.2.1,(o.2.2.2.2.2.1,(o.2.2.2.2.2.2.1,(o.2.2.2.2.2.2.2.1,0))))))))
 else if o.1=6 then(0,(zI,(o.2.2.1,(zI,(o.2.2.2.2.1,(o.2.2.2.2.2.1,(o.2.2.2.2.2.2.1,o.2.2.2.2.2.2.2)))))))
 else if o.1=7 then(0,(zI,(o.2.2.1,(o.2.2.2.1,(o.2.2.2.2.1,(o.2.2.2.2.2.1,(false,(e0,o.2.2.2.2.2.2.2.2))))))))
 else if o.1=8 then(0,(zI,(o.2.2.1,(o.2.2.2.1,(o.2.2.2.2.1,(o.2.2.2.2.2.1,(false,(o.2.2.2.2.2.2.2.1,0))))))))
 else(0,(zI,(o.2.2.1,(o.2.2.2.1,(o.2.2.2.2.1,(o.2.2.2.2.2.1,(o.2.2.2.2.2.2.1,o.2.2.2.2.2.2.2)))))))
def zg(x y:bh):Bool :=
 (x.1==y.1)&&(((x.2.1.1==y.2.1.1)&&(x.2.1.2==y.2.1.2))&&(((x.2.2.1.1==y.2.2.1.1)&&(x.2.2.1.2==y.2.2.1.2))&&(((x.2.2.2.1.1==y.2.2.2.1.1)&&(x.2.2.2.1.2==y.2.2.2.1.2)) &&
  ((((x.2.2.2.2.1.1.1==y.2.2.2.2.1.1.1)&&(x.2.2.2.2.1.1.2==y.2.2.2.2.1.1.2))&&(((x.2.2.2.2.1.2.1.1==y.2.2.2.2.1.2.1.1)&&(x.2.2.2.2.1.2.1.2==y.2.2.2.2.1.2.1.2))&&(x.2.2.2.2.1.2.2==y.2.2.2.2.1.2.2))) &&
  ((((x.2.2.2.2.2.1.1.1==y.2.2.2.2.2.1.1.1)&&(x.2.2.2.2.2.1.1.2==y.2.2.2.2.2.1.1.2))&&(((x.2.2.2.2.2.1.2.1.1==y.2.2.2.2.2.1.2.1.1)&&(x.2.2.2.2.2.1.2.1.2==y.2.2.2.2.2.1.2.1.2))&&(x.2.2.2.2.2.1.2.2==y.2.2.2.2.2.1.2.2))) &&
  ((x.2.2.2.2.2.2.1==y.2.2.2.2.2.2.1)&&((x.2.2.2.2.2.2.2.1==y.2.2.2.2.2.2.2.1)&&(x.2.2.2.2.2.2.2.2==y.2.2.2.2.2.2.2.2))))))))
theorem zh(x y:bh):zg x y=true↔x=y:=by
 obtain⟨x1,⟨x2,x3⟩,⟨x4,x5⟩,⟨x6,x7⟩,⟨⟨x8,x9⟩,⟨x10,x11⟩,x12⟩,⟨⟨x13,x14⟩,⟨x15,x16⟩,x17⟩,x18,x19,x20⟩:=x
 obtain⟨y1,⟨y2,y3⟩,⟨y4,y5⟩,⟨y6,y7⟩,⟨⟨y8,y9⟩,⟨oM,mo⟩,nR⟩,⟨⟨lA,Ah⟩,⟨uR,XX⟩,RY⟩,TB,QL,EB⟩:=y
 unfold zg
 simp only[ZN]
 simp[and_assoc]
theorem aT{α:Type}{c b:Bool}{x y r:α}(h:c=b)(k:cond (not b) x y=r):cond (not c) x y=r:=by subst h;exact k
def cz(o:bh):Int :=
 if o.1<1 then 1 else if 8<o.1 then 1 else if dF o.2.1=false then 1 else if zg (BB o) TH=false then 1
 else if o.1=3 then(if EW o.2.2.2.2.1=true∧EW o.2.2.2.2.2.1=true then 0 else 1)
 else if o.1=5 then(if dF o.2.2.1=true∧dF o.2.2.2.1=true∧0≤o.2.2.2.2.2.2.2.2∧o.2.2.2.2.2.2.2.2≤3 then 0 else 1)
 else if o.1=6 then(if dF o.2.2.2.1=true then 0 else 1)
 else if o.1=8 then(if AJ o.2.2.2.2.2.2.2.2=true then 0 else 1)
 else if o.1=7 then(if EV o.2.2.2.2.2.2.2.1=true then 0 else 4)
 else 0
def I1(n:Int):Option ((Int×Unit)×Unit):=some ((n,()),())
def Sj(o:bh):Prop:=o.2.2.2.2.2.2.2.1.size≤100000000
def jO:List bh→Int
 |[]=>0
 |o::r=>if cz o≠0 then cz o else jO r
def du(l:List bh):Int:=if 1≤l.length∧l.length≤6 then jO l else 3
end Go.Vs
namespace Go.Vs
open Go.Proofs
variable {G:(f:FuncId)→(g:aK)→Option (g.A→Option g.B)}
theorem ae{α:Type}{c:Bool}{x y r:α}(h:c=true)(k:x=r):cond c x y=r:=by subst h;exact k
theorem af{α:Type}{c:Bool}{x y r:α}(h:c=false)(k:y=r):cond c x y=r:=by subst h;exact k
theorem eV{a b:Bool}(h:a=true)(k:b=true):(a&&b)=true:=by rw[h,k];rfl
def zS:StateT:=(([],[]),[])
abbrev bc(o:bh):ID:=o.2.1
abbrev fC(o:bh):ID:=o.2.2.1
abbrev bE(o:bh):ID:=o.2.2.2.1
abbrev oA(o:bh):tn:=o.2.2.2.2.1
abbrev oB(o:bh):tn:=o.2.2.2.2.2.1
abbrev uZ(o:bh):Bool:=o.2.2.2.2.2.2.1
abbrev tN(o:bh):ByteArray:=o.2.2.2.2.2.2.2.1
abbrev oN(o:bh):Int:=o.2.2.2.2.2.2.2.2
def nW(o:bh)(w:ah):ah:=if uZ o=false∧w.1=bc o then(if o.1=7 then(w.1,(w.2.1,(tN o,w.2.2.2))) else(w.1,(w.2.1,(w.2.2.1,oN o)))) else w
def sj(o:bh)(w:aq):aq:=if uZ o=true∧w.1=bc o then(if o.1=7 then(w.1,(tN o,w.2.2)) else(w.1,(w.2.1,oN o))) else w
def V5(o:bh)(l:List ah):Bool := !(uZ o)&&l.any fun w=>decide (w.1=bc o)
def V6(o:bh)(l:List aq):Bool:=uZ o&&l.any fun w=>decide (w.1=bc o)
def wC(s:StateT)(o:bh):StateT×(Int×Unit) :=
 if V5 o s.1.1 || V6 o s.1.2 then(((s.1.1.map (nW o),s.1.2.map (sj o)),s.2),(0,())) else(zS,(13,()))
end Go.Vs
namespace Go.Vs
open Go.Proofs
variable {G:(f:FuncId)→(g:aK)→Option (g.A→Option g.B)}
structure Bd(n:Nat)(d:ak):Prop where
 v:d.1.length≤n
 e:d.2.length≤n
 r:∀w∈d.1,w.2.1.length≤n
theorem Bd.sm{n:Nat}{d:ak}(h:Bd n d)(hn:n≤50000000):Sm d:=⟨by have:=h.v;omega,by have:=h.e;omega,fun w hw=>by have:=h.r w hw;omega⟩
theorem Bd.mono{n m:Nat}{d:ak}(h:Bd n d)(hm:n≤m):Bd m d:=⟨by have:=h.v;omega,by have:=h.e;omega,fun w hw=>by have:=h.r w hw;omega⟩
theorem fD(v:ah):∀l:List ah,(eZ v l).length=l.length+1
 |[]=>rfl
 |w::r=>by unfold eZ;split<;>simp[fD v r]
theorem jP(v:aq):∀l:List aq,(eU v l).length=l.length+1
 |[]=>rfl
 |w::r=>by unfold eU;split<;>simp[jP v r]
theorem lh{v w:ah}:∀{l:List ah},w∈eZ v l↔w=v∨w∈l
 |[]=>by simp[eZ]
 |u::r=>by
  unfold eZ
  split
  ·simp
  ·simp only[List.mem_cons,lh (l:=r)]
   exact⟨fun h=>by rcases h with h|h|h<;>simp[h],fun h=>by rcases h with h|h|h<;>simp[h]⟩
theorem mP{v w:aq}:∀{l:List aq},w∈eU v l↔w=v∨w∈l
 |[]=>by simp[eU]
 |u::r=>by
  unfold eU
  split
  ·simp
  ·simp only[List.mem_cons,mP (l:=r)]
   exact⟨fun h=>by rcases h with h|h|h<;>simp[h],fun h=>by rcases h with h|h|h<;>simp[h]⟩
theorem wb(row:List ab)(a d:ab):(oI row a d).length≤row.length+1:=by
 unfold oI
 split
 ·rw[fB];omega
 ·rw[fB];simp;omega
theorem EX(row:List ab)(d:ab):(hY row d).length≤row.length:=by
 unfold hY;rw[fB];exact List.length_filter_le _ _
theorem CV(row:List ab)(a d:ab):(la row a d).length=row.length:=by
 unfold la;rw[fB];split<;>simp
theorem Bd.cZ{n:Nat}{d:ak}(h:Bd n d)(x:ID):(cZ d x).length≤n:=by
 unfold Vs.cZ
 cases hf:cp d x with
 |none=>simp[zV]
 |some v=>exact h.r v (List.mem_of_find?_eq_some hf)
theorem Bd.bV{n:Nat}{d:ak}(h:Bd n d){x:ID}{l:List ab}(hl:l.length≤n):Bd n (bV d x l):=by
 refine⟨by simp[Vs.bV];exact h.v,h.e,fun w hw=>?_⟩
 obtain⟨u,hu,rfl⟩:=List.mem_map.1 hw
 unfold uX
 split
 ·exact hl
 ·exact h.r u hu
theorem Bd.b7{n:Nat}{d:ak}(h:Bd n d)(c:tn)(x:ab):Bd (n+1) (b7 d c x) :=
 (h.mono (by omega)).bV (by have:=wb (Vs.cZ d c.1) c.2 x;have:=h.cZ c.1;omega)
theorem Bd.aC{n:Nat}{d:ak}(h:Bd n d)(a x:ab):Bd n (aC d a x) :=
 h.bV (by rw[CV];exact h.cZ _)
theorem Bd.az{n:Nat}{d:ak}(h:Bd n d)(x:ab):Bd n (az d x) :=
 h.bV (by have:=EX (Vs.cZ d ((fa d x).getD zI)) x;have:=h.cZ ((fa d x).getD zI);omega)
theorem Bd.aP{n:Nat}{d:ak}(h:Bd n d)(v e:ID):Bd n (aP d v e) :=
 ⟨Nat.le_trans (List.length_filter_le _ _) h.v,Nat.le_trans (List.length_filter_le _ _) h.e,fun w hw=>h.r w (List.mem_filter.1 hw).1⟩
theorem Bd.eZ{n:Nat}{d:ak}(h:Bd n d)(v:ah)(hv:v.2.1.length≤n+1):Bd (n+1) (eZ v d.1,d.2) :=
 ⟨by rw[fD];have:=h.v;omega,by have:=h.e;simp only;omega,fun w hw=>by
  rcases lh.1 hw with rfl|hw
  ·exact hv
  ·have:=h.r w hw;omega⟩
theorem Bd.eU{n:Nat}{d:ak}(h:Bd n d)(v:aq):Bd (n+1) (d.1,eU v d.2) :=
 ⟨by have:=h.v;simp only;omega,by rw[jP];have:=h.e;omega,fun w hw=>by have:=h.r w hw;omega⟩
theorem wc(g:aF):∀l:List aF,(oJ g l).length≤l.length+1
 |[]=>by simp[oJ]
 |e::r=>by
  unfold oJ
  split
  ·have:=List.length_filter_le (fun q:aF=>decide (q.1≠g.1)) (e::r)
   simp[qU];simp at this;omega
  ·have:=wc g r
   split<;>simp<;>omega
theorem iF(l:List aF)(g:aF):(bH l g).length≤l.length+1:=by
 unfold bH;split
 ·omega
 ·exact wc g l
def mQ(s:StateT)(o:bh):ak :=
 b7 (b7 (s.1.1,eU (bc o,(e0,0)) s.1.2) (bL s (oA o)).1 (bc o,0))
  (if(cp s.1 (oB o).1).isSome=true∧(oB o).2=(bc o,0) then oB o else(bL s (oB o)).1) (bc o,1)
def rB(s:StateT)(o:bh):StateT×(Int×Unit) :=
 if(mO s.1 (bc o)).isSome=true then(zS,(12,()))
 else if 40≤s.1.2.length then(zS,(3,()))
 else if(bL s (oA o)).2.1≠0 then(zS,(13,()))
 else if(bL s (oB o)).2.1≠0 then(zS,(13,()))
 else if nV (mQ s o)≠0 then(zS,(15,()))
 else((mQ s o,s.2),(0,()))
def G8(s:StateT)(o:bh):StateT×(Int×Unit) :=
 if(mO s.1 (bc o)).isSome=false then(zS,(13,()))
 else((aP (az (az s.1 (bc o,0)) (bc o,1)) zI (bc o),
  bH (bH s.2 ((bc o,0),dZ s.1 (bc o,0))) ((bc o,1),dZ s.1 (bc o,1))),(0,()))
def PA(o:bh):ab:=(bc o,IntKind.wrap .i64 (1-Int.tmod (oN o) 2))
def Om(o:bh):ab:=(bE o,IntKind.wrap .i64 (Int.tdiv (oN o) 2))
def MM(s:StateT)(o:bh):ak :=
 (eZ (fC o,(cM [PA o,Om o],(e0,0))) (aC s.1 (PA o) (ao (Om o))).1,eU (bE o,(e0,0)) (aC s.1 (PA o) (ao (Om o))).2)
def nX(s:StateT)(o:bh):StateT×(Int×Unit) :=
 if(mO s.1 (bc o)).isSome=false then(zS,(13,()))
 else if(cp s.1 (fC o)).isSome=true then(zS,(12,()))
 else if(mO s.1 (bE o)).isSome=true then(zS,(12,()))
 else if 24≤s.1.1.length then(zS,(3,()))
 else if 40≤s.1.2.length then(zS,(3,()))
 else((MM s o,s.2),(0,()))
end Go.Vs
namespace Go.Vs
open Go.Proofs
variable {G:(f:FuncId)→(g:aK)→Option (g.A→Option g.B)}
def so(a b:ab)(i:Int):ab:=if(b.1,i)=ao b then a else zD
def G9(g:List aF)(a b:ab):List aF:=bH (bH g ((b.1,0),so a b 0)) ((b.1,1),so a b 1)
def Kc(s:StateT)(o:bh)(a b:ab):ak:=aP (aC (aP s.1 (bc o) zI) (ao b) a) zI b.1
def lQ(s:StateT)(o:bh)(r0 r1:ab):StateT×(Int×Unit) :=
 if r0.1=r1.1 then(zS,(14,()))
 else if r0.1=bE o then((Kc s o r1 r0,G9 s.2 r1 r0),(0,()))
 else if r1.1=bE o then((Kc s o r0 r1,G9 s.2 r0 r1),(0,()))
 else(zS,(14,()))
def nY(s:StateT)(o:bh):StateT×(Int×Unit):=match cp s.1 (bc o) with
 |none=>(zS,(13,()))
 |some v=>match v.2.1 with
  |[r0,r1]=>lQ s o r0 r1
  |_=>(zS,(14,()))
def pR(s:StateT)(o:bh):StateT×(Int×Unit) :=
 if(cp s.1 (bc o)).isSome=true then(zS,(12,())) else if 24≤s.1.1.length then(zS,(3,())) else(((eZ (bc o,([],(e0,0))) s.1.1,s.1.2),s.2),(0,()))
def zi(s:StateT)(o:bh):StateT×(Int×Unit):=match cp s.1 (bc o) with
 |none=>(zS,(13,()))
 |some v=>if 0<v.2.1.length then(zS,(14,())) else((aP s.1 (bc o) zI,s.2),(0,()))
def oK(s:StateT)(o:bh):StateT×(Int×Unit) :=
 if cz o≠0 then(zS,(cz o,()))
 else if o.1=1 then pR s o else if o.1=2 then zi s o else if o.1=3 then rB s o else if o.1=4 then G8 s o else if o.1=5 then nX s o else if o.1=6 then nY s o else wC s o
structure Bs(n:Nat)(s:StateT):Prop where
 d:Bd n s.1
 g:s.2.length≤n
theorem Bs.mono{n m:Nat}{s:StateT}(h:Bs n s)(hm:n≤m):Bs m s:=⟨h.d.mono hm,by have:=h.g;omega⟩
theorem Bs.zero(n:Nat):Bs n zS:=⟨⟨Nat.zero_le _,Nat.zero_le _,fun w hw=>by simp[zS]at hw⟩,Nat.zero_le _⟩
theorem Bs.one{n:Nat}{s:StateT}(h:Bs n s)(o:bh):Bs (n+3) (oK s o).1:=by
 have h1:=h.d;have h2:=h.g
 unfold oK
 split
 ·exact Bs.zero _
 split
 ·unfold pR;split
  ·exact Bs.zero _
  split
  ·exact Bs.zero _
  ·exact⟨(h1.eZ _ (by simp)).mono (by omega),by simp only;omega⟩
 split
 ·unfold zi
  cases cp s.1 (bc o) with
  |none=>exact Bs.zero _
  |some v =>
   simp only
   split
   ·exact Bs.zero _
   ·exact⟨(h1.aP _ _).mono (by omega),by simp only;omega⟩
 split
 ·unfold rB
  split;· exact Bs.zero _
  split;· exact Bs.zero _
  split;· exact Bs.zero _
  split;· exact Bs.zero _
  split;· exact Bs.zero _
  exact⟨by unfold mQ;exact((h1.eU _).b7 _ _).b7 _ _,by simp only;omega⟩
 split
 ·unfold G8
  split;· exact Bs.zero _
  refine⟨(((h1.az _).az _).aP _ _).mono (by omega),?_⟩
  have a1:=iF s.2 ((bc o,0),dZ s.1 (bc o,0))
  have a2:=iF (bH s.2 ((bc o,0),dZ s.1 (bc o,0))) ((bc o,1),dZ s.1 (bc o,1))
  simp only;omega
 split
 ·unfold nX
  split;· exact Bs.zero _
  split;· exact Bs.zero _
  split;· exact Bs.zero _
  split;· exact Bs.zero _
  split;· exact Bs.zero _
  refine⟨?_,by simp only;omega⟩
  have b2:=((h1.aC (PA o) (ao (Om o))).eU (bE o,(e0,0)))
  exact(b2.eZ (fC o,(cM [PA o,Om o],(e0,0))) (by simp[fB])).mono (by omega)
 split
 ·unfold nY
  have key:∀a b:ab,Bs (n+3) (Kc s o a b,G9 s.2 a b):=fun a b=>by
   refine⟨(((h1.aP _ _).aC _ _).aP _ _).mono (by omega),?_⟩
   have a1:=iF s.2 ((b.1,0),so a b 0)
   have a2:=iF (bH s.2 ((b.1,0),so a b 0)) ((b.1,1),so a b 1)
   simp only[G9];omega
  split
  ·exact Bs.zero _
  ·split
   ·unfold lQ
    split;· exact Bs.zero _
    split;· exact key _ _
    split;· exact key _ _
    exact Bs.zero _
   ·exact Bs.zero _
 ·unfold wC
  split
  ·refine⟨⟨by simp;have:=h1.v;omega,by simp;have:=h1.e;omega,fun w hw=>?_⟩,by simp only;omega⟩
   obtain⟨u,hu,rfl⟩:=List.mem_map.1 hw
   have hr:=h1.r u hu
   have e:(nW o u).2.1=u.2.1:=by unfold nW;split<;>(try split)<;>rfl
   rw[e];omega
  ·exact Bs.zero _
def EY:List bh→StateT→StateT×(Int×Unit)
 |[],s=>(s,(0,()))
 |o::r,s=>if(oK s o).2.1≠0 then(zS,(oK s o).2) else EY r (oK s o).1
def dC(s:StateT)(l:List bh):StateT×(Int×Unit):=if du l≠0 then(zS,(du l,())) else EY l s
theorem Bs.go{l:List bh}:∀{n:Nat} {s:StateT},Bs n s→Bs (n+3*l.length) (EY l s).1:=by
 induction l with
 |nil=>intro n s h;exact h.mono (by simp)
 |cons o r ih =>
  intro n s h
  unfold EY
  split
  ·exact Bs.zero _
  ·exact(ih (h.one o)).mono (by simp;omega)
def ji(s:StateT)(l:List bh):StateT:=if(dC s l).2.1≠0 then s else(dC s l).1
theorem Bs.try{n:Nat}{s:StateT}{l:List bh}(h:Bs n s):Bs (n+3*l.length) (ji s l):=by
 unfold ji
 split
 ·exact h.mono (by omega)
 ·unfold dC
  split
  ·exact Bs.zero _
  ·exact h.go
def lj:Nat→List (List bh)→StateT→StateT
 |0,_,s=>s
 |_+1,[],s=>s
 |n+1,l::r,s=>lj n r (ji s (l.take 8))
def zj(l:List (List bh)):StateT:=lj 30 l zS
theorem Bs.reach:∀(m:Nat) (l:List (List bh)) {n:Nat} {s:StateT},Bs n s→Bs (n+24*m) (lj m l s)
 |0,_,n,s,h=>by simpa[lj] using h
 |m+1,[],n,s,h=>h.mono (by omega)
 |m+1,l::r,n,s,h=>by
  rw[lj]
  have h1:Bs (n+3*(l.take 8).length) (ji s (l.take 8)):=h.try
  have hl:(l.take 8).length≤8:=by simp;omega
  exact(Bs.reach m r (h1.mono (show n+3*(l.take 8).length≤n+24 by omega))).mono (by omega)
theorem Bs.IF(l:List (List bh)):Bs 720 (zj l):=(Bs.reach 30 l (Bs.zero 0)).mono (by omega)
end Go.Vs
