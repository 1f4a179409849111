/- What the document's reference -/
import Derived.Test.YtpkfpbpbkabkdaaGreatRefA
set_option linter.unusedVariables false
set_option linter.unusedSimpArgs false
namespace Go.Vs
open Go.Proofs
variable {G:(f:FuncId)→(g:aO)→Option (g.A→Option g.B)}
def X7(x:ID):List ai→Int→Int
 |[],_ => -1
 |v::r,i=>if v.1=x then i else X7 x r (i+1)
def Ot(d:ak)(e:aq)(out:List Int):List Int :=
 let a:=X7 ((ed d (e.1,0)).getD zI) d.1 0
 let b:=X7 ((ed d (e.1,1)).getD zI) d.1 0
 if 0≤a∧0≤b then(out.set a.toNat (min (out.getD a.toNat 0) (out.getD b.toNat 0))).set b.toNat (min (out.getD a.toNat 0) (out.getD b.toNat 0)) else out
def qx(d:ak):List aq→List Int→List Int
 |[],out=>out
 |e::r,out=>qx d r (Ot d e out)
def UW(d:ak):Nat→List Int→List Int
 |0,out=>out
 |n+1,out=>UW d n (qx d d.2 out)
def UX(n:Nat):List Int:=(List.range n).map fun i=>((i:Nat):Int)
def labels(d:ak):List Int:=UW d d.1.length (UX d.1.length)
def uD:List Int→Int→Int→Int
 |[],_,n=>n
 |x::r,i,n=>uD r (i+1) (if x=i then IntKind.wrap .i64 (n+1) else n)
def gX(d:ak):Int:=uD (labels d) 0 0
def Ce:List ai→Int→Int
 |[],n=>n
 |v::r,n=>Ce r (if v.2.1.length=0 then IntKind.wrap .i64 (n+1) else n)
def KR(d:ak):Int:=Ce d.1 ((((bR d).length:Nat)):Int)
def bK(d:ak):Int:=IntKind.wrap .i64 (Int.tdiv (IntKind.wrap .i64 (IntKind.wrap .i64 (IntKind.wrap .i64 (IntKind.wrap .i64 (2*gX d)-((d.1.length:Nat):Int))+((d.2.length:Nat):Int))-KR d)) 2)
def tR(c:UInt8):Bool:=decide (32≤c.toNat)&&decide (c.toNat≤126)
def lB(s:ByteArray):Bool:=s.data.toList.all tR&&decide (s.size≤16)
def mG(n:Int):Bool:=decide (-1099511627776≤n∧n≤1099511627776)
def IB(c:uP):Bool:=dL c.1&&(X6 c.2 || decide (c.2=zD))
def zOp:aY:=(0,(zI,(zI,(zI,(zC,(zC,(false,(e0,0))))))))
def IC(o:aY):aY :=if o.1=3 then(0,(zI,(o.2.2.1,(o.2.2.2.1,(zC,(zC,(o.2.2.2.2.2.2.1,o.2.2.2.2.2.2.2)))))))
 else if o.1=5 then(0,(zI,(zI,(zI,(o.2.2.2.2.1,(o.2.2.2.2.2.1,(o.2.2.2.2.2.2.1,(o.2.2.2.2.2.2.2.1,0))))))))
 else if o.1=6 then(0,(zI,(o.2.2.1,(zI,(o.2.2.2.2.1,(o.2.2.2.2.2.1,(o.2.2.2.2.2.2.1,o.2.2.2.2.2.2.2)))))))
 else if o.1=7 then(0,(zI,(o.2.2.1,(o.2.2.2.1,(o.2.2.2.2.1,(o.2.2.2.2.2.1,(false,(e0,o.2.2.2.2.2.2.2.2))))))))
 else if o.1=8 then(0,(zI,(o.2.2.1,(o.2.2.2.1,(o.2.2.2.2.1,(o.2.2.2.2.2.1,(false,(o.2.2.2.2.2.2.2.1,0))))))))
 else(0,(zI,(o.2.2.1,(o.2.2.2.1,(o.2.2.2.2.1,(o.2.2.2.2.2.1,(o.2.2.2.2.2.2.1,o.2.2.2.2.2.2.2)))))))
def Dt(x y:aY):Bool :=(x.1==y.1)&&(((x.2.1.1==y.2.1.1)&&(x.2.1.2==y.2.1.2))&&(((x.2.2.1.1==y.2.2.1.1)&&(x.2.2.1.2==y.2.2.1.2))&&(((x.2.2.2.1.1==y.2.2.2.1.1)&&(x.2.2.2.1.2==y.2.2.2.1.2)) && ((((x.2.2.2.2.1.1.1==y.2.2.2.2.1.1.1)&&(x.2.2.2.2.1.1.2==y.2.2.2.2.1.1.2))&&(((x.2.2.2.2.1.2.1.1==y.2.2.2.2.1.2.1.1)&&(x.2.2.2.2.1.2.1.2==y.2.2.2.2.1.2.1.2))&&(x.2.2.2.2.1.2.2==y.2.2.2.2.1.2.2))) && ((((x.2.2.2.2.2.1.1.1==y.2.2.2.2.2.1.1.1)&&(x.2.2.2.2.2.1.1.2==y.2.2.2.2.2.1.1.2))&&(((x.2.2.2.2.2.1.2.1.1==y.2.2.2.2.2.1.2.1.1)&&(x.2.2.2.2.2.1.2.1.2==y.2.2.2.2.2.1.2.1.2))&&(x.2.2.2.2.2.1.2.2==y.2.2.2.2.2.1.2.2))) && ((x.2.2.2.2.2.2.1==y.2.2.2.2.2.2.1)&&((x.2.2.2.2.2.2.2.1==y.2.2.2.2.2.2.2.1)&&(x.2.2.2.2.2.2.2.2==y.2.2.2.2.2.2.2.2))))))))
theorem IE(x y:aY):Dt x y=true↔x=y:=by obtain⟨x1,⟨x2,x3⟩,⟨x4,x5⟩,⟨x6,x7⟩,⟨⟨x8,x9⟩,⟨x10,x11⟩,x12⟩,⟨⟨x13,x14⟩,⟨x15,x16⟩,x17⟩,x18,x19,x20⟩:=x;obtain⟨y1,⟨y2,y3⟩,⟨y4,y5⟩,⟨y6,y7⟩,⟨⟨y8,y9⟩,⟨uy,qw⟩,tO⟩,⟨⟨mS,Kx⟩,⟨zt,XS⟩,Wr⟩,Ws,TH,FU⟩:=y;unfold Dt;simp only[X5];simp[and_assoc]
theorem bc{α:Type}{c b:Bool}{x y r:α}(h:c=b)(k:cond (not b) x y=r):cond (not c) x y=r:=by subst h;exact k
def cX(o:aY):Int :=if o.1<1 then 1 else if 8<o.1 then 1 else if dL o.2.1=false then 1 else if Dt (IC o) zOp=false then 1
 else if o.1=3 then(if IB o.2.2.2.2.1=true∧IB o.2.2.2.2.2.1=true then 0 else 1)
 else if o.1=5 then(if dL o.2.2.1=true∧dL o.2.2.2.1=true∧0≤o.2.2.2.2.2.2.2.2∧o.2.2.2.2.2.2.2.2≤3 then 0 else 1)
 else if o.1=6 then(if dL o.2.2.2.1=true then 0 else 1)
 else if o.1=8 then(if mG o.2.2.2.2.2.2.2.2=true then 0 else 1)
 else if o.1=7 then(if lB o.2.2.2.2.2.2.2.1=true then 0 else 4)
 else 0
def I1(n:Int):Option ((Int×Unit)×Unit):=some ((n,()),())
def KS(o:aY):Prop:=o.2.2.2.2.2.2.2.1.size≤100000000
def oM:List aY→Int
 |[]=>0
 |o::r=>if cX o≠0 then cX o else oM r
def gK(l:List aY):Int:=if 1≤l.length∧l.length≤6 then oM l else 3
theorem ae{α:Type}{c:Bool}{x y r:α}(h:c=true)(k:x=r):cond c x y=r:=by subst h;exact k
theorem af{α:Type}{c:Bool}{x y r:α}(h:c=false)(k:y=r):cond c x y=r:=by subst h;exact k
theorem cY{a b:Bool}(h:a=true)(k:b=true):(a&&b)=true:=by rw[h,k];rfl
def zS:StateT:=(([],[]),[])
abbrev bu(o:aY):ID:=o.2.1
abbrev fQ(o:aY):ID:=o.2.2.1
abbrev bM(o:aY):ID:=o.2.2.2.1
abbrev oA(o:aY):uP:=o.2.2.2.2.1
abbrev oB(o:aY):uP:=o.2.2.2.2.2.1
abbrev xx(o:aY):Bool:=o.2.2.2.2.2.2.1
abbrev wm(o:aY):ByteArray:=o.2.2.2.2.2.2.2.1
abbrev oN(o:aY):Int:=o.2.2.2.2.2.2.2.2
def mU(o:aY)(w:ai):ai:=if xx o=false∧w.1=bu o then(if o.1=7 then(w.1,(w.2.1,(wm o,w.2.2.2))) else(w.1,(w.2.1,(w.2.2.1,oN o)))) else w
def rG(o:aY)(w:aq):aq:=if xx o=true∧w.1=bu o then(if o.1=7 then(w.1,(wm o,w.2.2)) else(w.1,(w.2.1,oN o))) else w
def abL(o:aY)(l:List ai):Bool := !(xx o)&&l.any fun w=>decide (w.1=bu o)
def abM(o:aY)(l:List aq):Bool:=xx o&&l.any fun w=>decide (w.1=bu o)
def xy(s:StateT)(o:aY):StateT×(Int×Unit) :=if abL o s.1.1 || abM o s.1.2 then(((s.1.1.map (mU o),s.1.2.map (rG o)),s.2),(0,())) else(zS,(13,()))
structure Bd(n:Nat)(d:ak):Prop where
 v:d.1.length≤n
 e:d.2.length≤n
 r:∀w∈d.1,w.2.1.length≤n
theorem Bd.sm{n:Nat}{d:ak}(h:Bd n d)(hn:n≤50000000):Sm d:=⟨by have:=h.v;omega,by have:=h.e;omega,fun w hw=>by have:=h.r w hw;omega⟩
theorem Bd.mono{n m:Nat}{d:ak}(h:Bd n d)(hm:n≤m):Bd m d:=⟨by have:=h.v;omega,by have:=h.e;omega,fun w hw=>by have:=h.r w hw;omega⟩
theorem eW(v:ai):∀l:List ai,(cW v l).length=l.length+1
 |[]=>rfl
 |w::r=>by unfold cW;split<;>simp[eW v r]
theorem kT(v:aq):∀l:List aq,(fg v l).length=l.length+1
 |[]=>rfl
 |w::r=>by unfold fg;split<;>simp[kT v r]
theorem jG{v w:ai}:∀{l:List ai},w∈cW v l↔w=v∨w∈l
 |[]=>by simp[cW]
 |u::r=>by
  unfold cW
  split
  ·simp
  ·simp only[List.mem_cons,jG (l:=r)];exact⟨fun h=>by rcases h with h|h|h<;>simp[h],fun h=>by rcases h with h|h|h<;>simp[h]⟩
theorem oO{v w:aq}:∀{l:List aq},w∈fg v l↔w=v∨w∈l
 |[]=>by simp[fg]
 |u::r=>by
  unfold fg
  split
  ·simp
  ·simp only[List.mem_cons,oO (l:=r)];exact⟨fun h=>by rcases h with h|h|h<;>simp[h],fun h=>by rcases h with h|h|h<;>simp[h]⟩
theorem yT(row:List ab)(a d:ab):(qK row a d).length≤row.length+1:=by
 unfold qK
 split
 ·rw[gu];omega
 ·rw[gu];simp;omega
theorem IF(row:List ab)(d:ab):(jl row d).length≤row.length:=by unfold jl;rw[gu];exact adI _ _
theorem Ge(row:List ab)(a d:ab):(gx row a d).length=row.length:=by unfold gx;rw[gu];split<;>simp
theorem Bd.cM{n:Nat}{d:ak}(h:Bd n d)(x:ID):(cM d x).length≤n:=by
 unfold Vs.cM
 cases hf:cd d x with
 |none=>simp[zV]
 |some v=>exact h.r v (adj hf)
theorem Bd.cf{n:Nat}{d:ak}(h:Bd n d){x:ID}{l:List ab}(hl:l.length≤n):Bd n (cf d x l):=by
 refine⟨by simp[Vs.cf];exact h.v,h.e,fun w hw=>?_⟩;obtain⟨u,hu,rfl⟩:=acx.1 hw;unfold xu
 split
 ·exact hl
 ·exact h.r u hu
theorem Bd.cr{n:Nat}{d:ak}(h:Bd n d)(c:uP)(x:ab):Bd (n+1) (cr d c x) :=(h.mono (by omega)).cf (by have:=yT (Vs.cM d c.1) c.2 x;have:=h.cM c.1;omega)
theorem Bd.aw{n:Nat}{d:ak}(h:Bd n d)(a x:ab):Bd n (aw d a x) :=h.cf (by rw[Ge];exact h.cM _)
theorem Bd.aE{n:Nat}{d:ak}(h:Bd n d)(x:ab):Bd n (aE d x) :=h.cf (by have:=IF (Vs.cM d ((ed d x).getD zI)) x;have:=h.cM ((ed d x).getD zI);omega)
theorem Bd.aI{n:Nat}{d:ak}(h:Bd n d)(v e:ID):Bd n (aI d v e) :=⟨acB (adI _ _) h.v,acB (adI _ _) h.e,fun w hw=>h.r w (ad4.1 hw).1⟩
theorem Bd.cW{n:Nat}{d:ak}(h:Bd n d)(v:ai)(hv:v.2.1.length≤n+1):Bd (n+1) (cW v d.1,d.2) :=⟨by rw[eW];have:=h.v;omega,by have:=h.e;simp only;omega,fun w hw=>by
  rcases jG.1 hw with rfl|hw
  ·exact hv
  ·have:=h.r w hw;omega⟩
theorem Bd.fg{n:Nat}{d:ak}(h:Bd n d)(v:aq):Bd (n+1) (d.1,fg v d.2) :=⟨by have:=h.v;simp only;omega,by rw[kT];have:=h.e;omega,fun w hw=>by have:=h.r w hw;omega⟩
theorem yU(g:aM):∀l:List aM,(qL g l).length≤l.length+1
 |[]=>by simp[qL]
 |e::r=>by
  unfold qL
  split
  ·have:=adI (fun q:aM=>decide (q.1≠g.1)) (e::r);simp[tp];simp at this;omega
  ·have:=yU g r
   split<;>simp<;>omega
theorem jH(l:List aM)(g:aM):(bS l g).length≤l.length+1:=by
 unfold bS;split
 ·omega
 ·exact yU g l
def oP(s:StateT)(o:aY):ak :=cr (cr (s.1.1,fg (bu o,(e0,0)) s.1.2) (bX s (oA o)).1 (bu o,0)) (if(cd s.1 (oB o).1).isSome=true∧(oB o).2=(bu o,0) then oB o else(bX s (oB o)).1) (bu o,1)
def rH(s:StateT)(o:aY):StateT×(Int×Unit) :=if(nR s.1 (bu o)).isSome=true then(zS,(12,()))
 else if 40≤s.1.2.length then(zS,(3,()))
 else if(bX s (oA o)).2.1≠0 then(zS,(13,()))
 else if(bX s (oB o)).2.1≠0 then(zS,(13,()))
 else if bK (oP s o)≠0 then(zS,(15,()))
 else((oP s o,s.2),(0,()))
def IG(s:StateT)(o:aY):StateT×(Int×Unit) :=if(nR s.1 (bu o)).isSome=false then(zS,(13,()))
 else((aI (aE (aE s.1 (bu o,0)) (bu o,1)) zI (bu o),bS (bS s.2 ((bu o,0),fh s.1 (bu o,0))) ((bu o,1),fh s.1 (bu o,1))),(0,()))
def TO(o:aY):ab:=(bu o,IntKind.wrap .i64 (1-Int.tmod (oN o) 2))
def Px(o:aY):ab:=(bM o,IntKind.wrap .i64 (Int.tdiv (oN o) 2))
def RB(s:StateT)(o:aY):ak :=(cW (fQ o,(cq [TO o,Px o],(e0,0))) (aw s.1 (TO o) (ag (Px o))).1,fg (bM o,(e0,0)) (aw s.1 (TO o) (ag (Px o))).2)
def nS(s:StateT)(o:aY):StateT×(Int×Unit) :=if(nR s.1 (bu o)).isSome=false then(zS,(13,()))
 else if(cd s.1 (fQ o)).isSome=true then(zS,(12,()))
 else if(nR s.1 (bM o)).isSome=true then(zS,(12,()))
 else if 24≤s.1.1.length then(zS,(3,()))
 else if 40≤s.1.2.length then(zS,(3,()))
 else((RB s o,s.2),(0,()))
def uE(a b:ab)(i:Int):ab:=if(b.1,i)=ag b then a else zD
def KT(g:List aM)(a b:ab):List aM:=bS (bS g ((b.1,0),uE a b 0)) ((b.1,1),uE a b 1)
def JN(s:StateT)(o:aY)(a b:ab):ak:=aI (aw (aI s.1 (bu o) zI) (ag b) a) zI b.1
def lC(s:StateT)(o:aY)(r0 r1:ab):StateT×(Int×Unit) :=if r0.1=r1.1 then(zS,(14,()))
 else if r0.1=bM o then((JN s o r1 r0,KT s.2 r1 r0),(0,()))
 else if r1.1=bM o then((JN s o r0 r1,KT s.2 r0 r1),(0,()))
 else(zS,(14,()))
def nu(s:StateT)(o:aY):StateT×(Int×Unit):=match cd s.1 (bu o) with
 |none=>(zS,(13,()))
 |some v=>match v.2.1 with
  |[r0,r1]=>lC s o r0 r1
  |_=>(zS,(14,()))
def qy(s:StateT)(o:aY):StateT×(Int×Unit) :=if(cd s.1 (bu o)).isSome=true then(zS,(12,())) else if 24≤s.1.1.length then(zS,(3,())) else(((cW (bu o,([],(e0,0))) s.1.1,s.1.2),s.2),(0,()))
def yV(s:StateT)(o:aY):StateT×(Int×Unit):=match cd s.1 (bu o) with
 |none=>(zS,(13,()))
 |some v=>if 0<v.2.1.length then(zS,(14,())) else((aI s.1 (bu o) zI,s.2),(0,()))
def oQ(s:StateT)(o:aY):StateT×(Int×Unit) :=if cX o≠0 then(zS,(cX o,()))
 else if o.1=1 then qy s o else if o.1=2 then yV s o else if o.1=3 then rH s o else if o.1=4 then IG s o else if o.1=5 then nS s o else if o.1=6 then nu s o else xy s o
structure Bs(n:Nat)(s:StateT):Prop where
 d:Bd n s.1
 g:s.2.length≤n
theorem Bs.mono{n m:Nat}{s:StateT}(h:Bs n s)(hm:n≤m):Bs m s:=⟨h.d.mono hm,by have:=h.g;omega⟩
theorem Bs.zero(n:Nat):Bs n zS:=⟨⟨adO _,adO _,fun w hw=>by simp[zS]at hw⟩,adO _⟩
theorem Bs.one{n:Nat}{s:StateT}(h:Bs n s)(o:aY):Bs (n+3) (oQ s o).1:=by
 have h1:=h.d;have h2:=h.g;unfold oQ
 split
 ·exact Bs.zero _
 split
 ·unfold qy;split
  ·exact Bs.zero _
  split
  ·exact Bs.zero _
  ·exact⟨(h1.cW _ (by simp)).mono (by omega),by simp only;omega⟩
 split
 ·unfold yV
  cases cd s.1 (bu o) with
  |none=>exact Bs.zero _
  |some v =>
   simp only
   split
   ·exact Bs.zero _
   ·exact⟨(h1.aI _ _).mono (by omega),by simp only;omega⟩
 split
 ·unfold rH
  split;· exact Bs.zero _
  split;· exact Bs.zero _
  split;· exact Bs.zero _
  split;· exact Bs.zero _
  split;· exact Bs.zero _
  exact⟨by unfold oP;exact((h1.fg _).cr _ _).cr _ _,by simp only;omega⟩
 split
 ·unfold IG
  split;· exact Bs.zero _
  refine⟨(((h1.aE _).aE _).aI _ _).mono (by omega),?_⟩;have a1:=jH s.2 ((bu o,0),fh s.1 (bu o,0));have a2:=jH (bS s.2 ((bu o,0),fh s.1 (bu o,0))) ((bu o,1),fh s.1 (bu o,1));simp only;omega
 split
 ·unfold nS
  split;· exact Bs.zero _
  split;· exact Bs.zero _
  split;· exact Bs.zero _
  split;· exact Bs.zero _
  split;· exact Bs.zero _
  refine⟨?_,by simp only;omega⟩;have b2:=((h1.aw (TO o) (ag (Px o))).fg (bM o,(e0,0)));exact(b2.cW (fQ o,(cq [TO o,Px o],(e0,0))) (by simp[gu])).mono (by omega)
 split
 ·unfold nu;have key:∀a b:ab,Bs (n+3) (JN s o a b,KT s.2 a b):=fun a b=>by refine⟨(((h1.aI _ _).aw _ _).aI _ _).mono (by omega),?_⟩;have a1:=jH s.2 ((b.1,0),uE a b 0);have a2:=jH (bS s.2 ((b.1,0),uE a b 0)) ((b.1,1),uE a b 1);simp only[KT];omega
  split
  ·exact Bs.zero _
  ·split
   ·unfold lC
    split;· exact Bs.zero _
    split;· exact key _ _
    split;· exact key _ _
    exact Bs.zero _
   ·exact Bs.zero _
 ·unfold xy
  split
  ·refine⟨⟨by simp;have:=h1.v;omega,by simp;have:=h1.e;omega,fun w hw=>?_⟩,by simp only;omega⟩;obtain⟨u,hu,rfl⟩:=acx.1 hw;have hr:=h1.r u hu;have e:(mU o u).2.1=u.2.1:=by unfold mU;split<;>(try split)<;>rfl
   rw[e];omega
  ·exact Bs.zero _
def Gf:List aY→StateT→StateT×(Int×Unit)
 |[],s=>(s,(0,()))
 |o::r,s=>if(oQ s o).2.1≠0 then(zS,(oQ s o).2) else Gf r (oQ s o).1
def ct(s:StateT)(l:List aY):StateT×(Int×Unit):=if gK l≠0 then(zS,(gK l,())) else Gf l s
theorem Bs.go{l:List aY}:∀{n:Nat} {s:StateT},Bs n s→Bs (n+3*l.length) (Gf l s).1:=by
 induction l with
 |nil=>intro n s h;exact h.mono (by simp)
 |cons o r ih =>
  intro n s h;unfold Gf
  split
  ·exact Bs.zero _
  ·exact(ih (h.one o)).mono (by simp;omega)
def iy(s:StateT)(l:List aY):StateT:=if(ct s l).2.1≠0 then s else(ct s l).1
theorem Bs.try{n:Nat}{s:StateT}{l:List aY}(h:Bs n s):Bs (n+3*l.length) (iy s l):=by
 unfold iy
 split
 ·exact h.mono (by omega)
 ·unfold ct
  split
  ·exact Bs.zero _
  ·exact h.go
def mH:Nat→List (List aY)→StateT→StateT
 |0,_,s=>s
 |_+1,[],s=>s
 |n+1,l::r,s=>mH n r (iy s (l.take 8))
def Cf(l:List (List aY)):StateT:=mH 30 l zS
theorem Bs.reach:∀(m:Nat) (l:List (List aY)) {n:Nat} {s:StateT},Bs n s→Bs (n+24*m) (mH m l s)
 |0,_,n,s,h=>by simpa[mH] using h
 |m+1,[],n,s,h=>h.mono (by omega)
 |m+1,l::r,n,s,h=>by
  rw[mH];have h1:Bs (n+3*(l.take 8).length) (iy s (l.take 8)):=h.try;have hl:(l.take 8).length≤8:=by simp;omega
  exact(Bs.reach m r (h1.mono (show n+3*(l.take 8).length≤n+24 by omega))).mono (by omega)
theorem Bs.Mr(l:List (List aY)):Bs 720 (Cf l):=(Bs.reach 30 l (Bs.zero 0)).mono (by omega)
end Go.Vs
