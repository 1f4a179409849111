/- What the document's reference computes, written plainly, the second part. -/
import Derived.Test.YtpkfpbpbkabkdaaGreatRefA
set_option linter.unusedVariables false
set_option linter.unusedSimpArgs false
namespace Go.Vs
open Go.Proofs
variable {G:(f:FuncId)→(g:aL)→Option (g.A→Option g.B)}
def R1(x:ID):List aj→Int→Int
 |[],_ => -1
 |v::r,i=>if v.1=x then i else R1 x r (i+1)
def J3(d:ak)(e:an)(out:List Int):List Int :=
 let a:=R1 ((fN d (e.1,0)).getD zI) d.1 0
 let b:=R1 ((fN d (e.1,1)).getD zI) d.1 0
 if 0≤a∧0≤b then(out.set a.toNat (min (out.getD a.toNat 0) (out.getD b.toNat 0))).set b.toNat (min (out.getD a.toNat 0) (out.getD b.toNat 0)) else out
def oE(d:ak):List an→List Int→List Int
 |[],out=>out
 |e::r,out=>oE d r (J3 d e out)
def Pq(d:ak):Nat→List Int→List Int
 |0,out=>out
 |n+1,out=>Pq d n (oE d d.2 out)
def Pr(n:Nat):List Int:=(List.range n).map fun i=>((i:Nat):Int)
def labels(d:ak):List Int:=Pq d d.1.length (Pr d.1.length)
def so:List Int→Int→Int→Int
 |[],_,n=>n
 |x::r,i,n=>so r (i+1) (if x=i then IntKind.wrap .i64 (n+1) else n)
def jh(d:ak):Int:=so (labels d) 0 0
def zc:List aj→Int→Int
 |[],n=>n
 |v::r,n=>zc r (if v.2.1.length=0 then IntKind.wrap .i64 (n+1) else n)
def GX(d:ak):Int:=zc d.1 ((((dM d).length:Nat)):Int)
def nX(d:ak):Int:=IntKind.wrap .i64 (Int.tdiv (IntKind.wrap .i64 (IntKind.wrap .i64 (IntKind.wrap .i64 (IntKind.wrap .i64 (2*jh d)-((d.1.length:Nat):Int))+((d.2.length:Nat):Int))-GX d)) 2)
end Go.Vs
namespace Go.Vs
open Go.Proofs
variable {G:(f:FuncId)→(g:aL)→Option (g.A→Option g.B)}
def rz(c:UInt8):Bool:=decide (32≤c.toNat)&&decide (c.toNat≤126)
def EL(s:ByteArray):Bool:=s.data.toList.all rz&&decide (s.size≤16)
def AF(n:Int):Bool:=decide (-1099511627776≤n∧n≤1099511627776)
def EM(c:tq):Bool:=dH c.1&&(RZ c.2 || decide (c.2=zD))
def VI:aO:=(0,(zI,(zI,(zI,(zC,(zC,(false,(e0,0))))))))
def EN(o:aO):aO :=
 if o.1=3 then(0,(zI,(o.2.2.1,(o.2.2.2.1,(zC,(zC,(o.2.2.2.2.2.2.1,o.2.2.2.2.2.2.2)))))))
 else if o.1=5 then(0,(zI,(zI,(zI,(o.2.2.2.2.1,(o.2.2.2.2.2.1,(o.2.2.2.2.2.2.1,(o.2.2.2.2.2.2.2.1,0))))))))
 else if o.1=6 then(0,(zI,(o.2.2.1,(zI,(o.2.2.2.2.1,(o.2.2.2.2.2.1,(o.2.2.2.2.2.2.1,o.2.2.2.2.2.2.2)))))))
 else if o.1=7 then(0,(zI,(o.2.2.1,(o.2.2.2.1,(o.2.2.2.2.1,(o.2.2.2.2.2.1,(false,(e0,o.2.2.2.2.2.2.2.2))))))))
 else if o.1=8 then(0,(zI,(o.2.2.1,(o.2.2.2.1,(o.2.2.2.2.1,(o.2.2.2.2.2.1,(false,(o.2.2.2.2.2.2.2.1,0))))))))
 else(0,(zI,(o.2.2.1,(o.2.2.2.1,(o.2.2.2.2.1,(o.2.2.2.2.2.1,(o.2.2.2.2.2.2.1,o.2.2.2.2.2.2.2)))))))
def AG(x y:aO):Bool :=
 (x.1==y.1)&&(((x.2.1.1==y.2.1.1)&&(x.2.1.2==y.2.1.2))&&(((x.2.2.1.1==y.2.2.1.1)&&(x.2.2.1.2==y.2.2.1.2))&&(((x.2.2.2.1.1==y.2.2.2.1.1)&&(x.2.2.2.1.2==y.2.2.2.1.2)) &&
  ((((x.2.2.2.2.1.1.1==y.2.2.2.2.1.1.1)&&(x.2.2.2.2.1.1.2==y.2.2.2.2.1.1.2))&&(((x.2.2.2.2.1.2.1.1==y.2.2.2.2.1.2.1.1)&&(x.2.2.2.2.1.2.1.2==y.2.2.2.2.1.2.1.2))&&(x.2.2.2.2.1.2.2==y.2.2.2.2.1.2.2))) &&
  ((((x.2.2.2.2.2.1.1.1==y.2.2.2.2.2.1.1.1)&&(x.2.2.2.2.2.1.1.2==y.2.2.2.2.2.1.1.2))&&(((x.2.2.2.2.2.1.2.1.1==y.2.2.2.2.2.1.2.1.1)&&(x.2.2.2.2.2.1.2.1.2==y.2.2.2.2.2.1.2.1.2))&&(x.2.2.2.2.2.1.2.2==y.2.2.2.2.2.1.2.2))) &&
  ((x.2.2.2.2.2.2.1==y.2.2.2.2.2.2.1)&&((x.2.2.2.2.2.2.2.1==y.2.2.2.2.2.2.2.1)&&(x.2.2.2.2.2.2.2.2==y.2.2.2.2.2.2.2.2))))))))
theorem EO(x y:aO):AG x y=true↔x=y:=by
 obtain⟨x1,⟨x2,x3⟩,⟨x4,x5⟩,⟨x6,x7⟩,⟨⟨x8,x9⟩,⟨x10,x11⟩,x12⟩,⟨⟨x13,x14⟩,⟨x15,x16⟩,x17⟩,x18,x19,x20⟩:=x
 obtain⟨y1,⟨y2,y3⟩,⟨y4,y5⟩,⟨y6,y7⟩,⟨⟨y8,y9⟩,⟨rr,mq⟩,pO⟩,⟨⟨ly,FN⟩,⟨wm,XL⟩,RL⟩,Tk,QC,Es⟩:=y
 unfold AG
 simp only[ZB]
 simp[and_assoc]
theorem aU{α:Type}{c b:Bool}{x y r:α}(h:c=b)(k:cond (not b) x y=r):cond (not c) x y=r:=by subst h;exact k
def cO(o:aO):Int :=
 if o.1<1 then 1 else if 8<o.1 then 1 else if dH o.2.1=false then 1 else if AG (EN o) VI=false then 1
 else if o.1=3 then(if EM o.2.2.2.2.1=true∧EM o.2.2.2.2.2.1=true then 0 else 1)
 else if o.1=5 then(if dH o.2.2.1=true∧dH o.2.2.2.1=true∧0≤o.2.2.2.2.2.2.2.2∧o.2.2.2.2.2.2.2.2≤3 then 0 else 1)
 else if o.1=6 then(if dH o.2.2.2.1=true then 0 else 1)
 else if o.1=8 then(if AF o.2.2.2.2.2.2.2.2=true then 0 else 1)
 else if o.1=7 then(if EL o.2.2.2.2.2.2.2.1=true then 0 else 4)
 else 0
def I1(n:Int):Option ((Int×Unit)×Unit):=some ((n,()),())
def GY(o:aO):Prop:=o.2.2.2.2.2.2.2.1.size≤100000000
def mP:List aO→Int
 |[]=>0
 |o::r=>if cO o≠0 then cO o else mP r
def iD(l:List aO):Int:=if 1≤l.length∧l.length≤6 then mP l else 3
end Go.Vs
namespace Go.Vs
open Go.Proofs
variable {G:(f:FuncId)→(g:aL)→Option (g.A→Option g.B)}
theorem ae{α:Type}{c:Bool}{x y r:α}(h:c=true)(k:x=r):cond c x y=r:=by subst h;exact k
theorem af{α:Type}{c:Bool}{x y r:α}(h:c=false)(k:y=r):cond c x y=r:=by subst h;exact k
theorem dD{a b:Bool}(h:a=true)(k:b=true):(a&&b)=true:=by rw[h,k];rfl
def zS:StateT:=(([],[]),[])
abbrev ba(o:aO):ID:=o.2.1
abbrev eT(o:aO):ID:=o.2.2.1
abbrev bz(o:aO):ID:=o.2.2.2.1
abbrev oA(o:aO):tq:=o.2.2.2.2.1
abbrev oB(o:aO):tq:=o.2.2.2.2.2.1
abbrev uW(o:aO):Bool:=o.2.2.2.2.2.2.1
abbrev tO(o:aO):ByteArray:=o.2.2.2.2.2.2.2.1
abbrev oN(o:aO):Int:=o.2.2.2.2.2.2.2.2
def nY(o:aO)(w:aj):aj:=if uW o=false∧w.1=ba o then(if o.1=7 then(w.1,(w.2.1,(tO o,w.2.2.2))) else(w.1,(w.2.1,(w.2.2.1,oN o)))) else w
def sq(o:aO)(w:an):an:=if uW o=true∧w.1=ba o then(if o.1=7 then(w.1,(tO o,w.2.2)) else(w.1,(w.2.1,oN o))) else w
def VJ(o:aO)(l:List aj):Bool := !(uW o)&&l.any fun w=>decide (w.1=ba o)
def VL(o:aO)(l:List an):Bool:=uW o&&l.any fun w=>decide (w.1=ba o)
def wx(s:StateT)(o:aO):StateT×(Int×Unit) :=
 if VJ o s.1.1 || VL o s.1.2 then(((s.1.1.map (nY o),s.1.2.map (sq o)),s.2),(0,())) else(zS,(13,()))
end Go.Vs
namespace Go.Vs
open Go.Proofs
variable {G:(f:FuncId)→(g:aL)→Option (g.A→Option g.B)}
structure Bd(n:Nat)(d:ak):Prop where
 v:d.1.length≤n
 e:d.2.length≤n
 r:∀w∈d.1,w.2.1.length≤n
theorem Bd.sm{n:Nat}{d:ak}(h:Bd n d)(hn:n≤50000000):Sm d:=⟨by have:=h.v;omega,by have:=h.e;omega,fun w hw=>by have:=h.r w hw;omega⟩
theorem Bd.mono{n m:Nat}{d:ak}(h:Bd n d)(hm:n≤m):Bd m d:=⟨by have:=h.v;omega,by have:=h.e;omega,fun w hw=>by have:=h.r w hw;omega⟩
theorem fz(v:aj):∀l:List aj,(eX v l).length=l.length+1
 |[]=>rfl
 |w::r=>by unfold eX;split<;>simp[fz v r]
theorem jQ(v:an):∀l:List an,(eR v l).length=l.length+1
 |[]=>rfl
 |w::r=>by unfold eR;split<;>simp[jQ v r]
theorem lf{v w:aj}:∀{l:List aj},w∈eX v l↔w=v∨w∈l
 |[]=>by simp[eX]
 |u::r=>by
  unfold eX
  split
  ·simp
  ·simp only[List.mem_cons,lf (l:=r)]
   exact⟨fun h=>by rcases h with h|h|h<;>simp[h],fun h=>by rcases h with h|h|h<;>simp[h]⟩
theorem mQ{v w:an}:∀{l:List an},w∈eR v l↔w=v∨w∈l
 |[]=>by simp[eR]
 |u::r=>by
  unfold eR
  split
  ·simp
  ·simp only[List.mem_cons,mQ (l:=r)]
   exact⟨fun h=>by rcases h with h|h|h<;>simp[h],fun h=>by rcases h with h|h|h<;>simp[h]⟩
theorem vX(row:List ab)(a d:ab):(oL row a d).length≤row.length+1:=by
 unfold oL
 split
 ·rw[fq];omega
 ·rw[fq];simp;omega
theorem EP(row:List ab)(d:ab):(hY row d).length≤row.length:=by
 unfold hY;rw[fq];exact List.length_filter_le _ _
theorem CS(row:List ab)(a d:ab):(k0 row a d).length=row.length:=by
 unfold k0;rw[fq];split<;>simp
theorem Bd.cX{n:Nat}{d:ak}(h:Bd n d)(x:ID):(cX d x).length≤n:=by
 unfold Vs.cX
 cases hf:ck d x with
 |none=>simp[zV]
 |some v=>exact h.r v (List.mem_of_find?_eq_some hf)
theorem Bd.bW{n:Nat}{d:ak}(h:Bd n d){x:ID}{l:List ab}(hl:l.length≤n):Bd n (bW d x l):=by
 refine⟨by simp[Vs.bW];exact h.v,h.e,fun w hw=>?_⟩
 obtain⟨u,hu,rfl⟩:=List.mem_map.1 hw
 unfold uU
 split
 ·exact hl
 ·exact h.r u hu
theorem Bd.b6{n:Nat}{d:ak}(h:Bd n d)(c:tq)(x:ab):Bd (n+1) (b6 d c x) :=
 (h.mono (by omega)).bW (by have:=vX (Vs.cX d c.1) c.2 x;have:=h.cX c.1;omega)
theorem Bd.aB{n:Nat}{d:ak}(h:Bd n d)(a x:ab):Bd n (aB d a x) :=
 h.bW (by rw[CS];exact h.cX _)
theorem Bd.aA{n:Nat}{d:ak}(h:Bd n d)(x:ab):Bd n (aA d x) :=
 h.bW (by have:=EP (Vs.cX d ((fN d x).getD zI)) x;have:=h.cX ((fN d x).getD zI);omega)
theorem Bd.bF{n:Nat}{d:ak}(h:Bd n d)(v e:ID):Bd n (bF d v e) :=
 ⟨Nat.le_trans (List.length_filter_le _ _) h.v,Nat.le_trans (List.length_filter_le _ _) h.e,fun w hw=>h.r w (List.mem_filter.1 hw).1⟩
theorem Bd.eX{n:Nat}{d:ak}(h:Bd n d)(v:aj)(hv:v.2.1.length≤n+1):Bd (n+1) (eX v d.1,d.2) :=
 ⟨by rw[fz];have:=h.v;omega,by have:=h.e;simp only;omega,fun w hw=>by
  rcases lf.1 hw with rfl|hw
  ·exact hv
  ·have:=h.r w hw;omega⟩
theorem Bd.eR{n:Nat}{d:ak}(h:Bd n d)(v:an):Bd (n+1) (d.1,eR v d.2) :=
 ⟨by have:=h.v;simp only;omega,by rw[jQ];have:=h.e;omega,fun w hw=>by have:=h.r w hw;omega⟩
theorem vY(g:aG):∀l:List aG,(oM g l).length≤l.length+1
 |[]=>by simp[oM]
 |e::r=>by
  unfold oM
  split
  ·have:=List.length_filter_le (fun q:aG=>decide (q.1≠g.1)) (e::r)
   simp[qT];simp at this;omega
  ·have:=vY g r
   split<;>simp<;>omega
theorem iE(l:List aG)(g:aG):(bJ l g).length≤l.length+1:=by
 unfold bJ;split
 ·omega
 ·exact vY g l
def mR(s:StateT)(o:aO):ak :=
 b6 (b6 (s.1.1,eR (ba o,(e0,0)) s.1.2) (bO s (oA o)).1 (ba o,0))
  (if(ck s.1 (oB o).1).isSome=true∧(oB o).2=(ba o,0) then oB o else(bO s (oB o)).1) (ba o,1)
def rB(s:StateT)(o:aO):StateT×(Int×Unit) :=
 if(mO s.1 (ba o)).isSome=true then(zS,(12,()))
 else if 40≤s.1.2.length then(zS,(3,()))
 else if(bO s (oA o)).2.1≠0 then(zS,(13,()))
 else if(bO s (oB o)).2.1≠0 then(zS,(13,()))
 else if nX (mR s o)≠0 then(zS,(15,()))
 else((mR s o,s.2),(0,()))
def GZ(s:StateT)(o:aO):StateT×(Int×Unit) :=
 if(mO s.1 (ba o)).isSome=false then(zS,(13,()))
 else((bF (aA (aA s.1 (ba o,0)) (ba o,1)) zI (ba o),
  bJ (bJ s.2 ((ba o,0),dX s.1 (ba o,0))) ((ba o,1),dX s.1 (ba o,1))),(0,()))
def Ps(o:aO):ab:=(ba o,IntKind.wrap .i64 (1-Int.tmod (oN o) 2))
def Ol(o:aO):ab:=(bz o,IntKind.wrap .i64 (Int.tdiv (oN o) 2))
def ML(s:StateT)(o:aO):ak :=
 (eX (eT o,(cK [Ps o,Ol o],(e0,0))) (aB s.1 (Ps o) (ar (Ol o))).1,eR (bz o,(e0,0)) (aB s.1 (Ps o) (ar (Ol o))).2)
def n3(s:StateT)(o:aO):StateT×(Int×Unit) :=
 if(mO s.1 (ba o)).isSome=false then(zS,(13,()))
 else if(ck s.1 (eT o)).isSome=true then(zS,(12,()))
 else if(mO s.1 (bz o)).isSome=true then(zS,(12,()))
 else if 24≤s.1.1.length then(zS,(3,()))
 else if 40≤s.1.2.length then(zS,(3,()))
 else((ML s o,s.2),(0,()))
end Go.Vs
namespace Go.Vs
open Go.Proofs
variable {G:(f:FuncId)→(g:aL)→Option (g.A→Option g.B)}
def sr(a b:ab)(i:Int):ab:=if(b.1,i)=ar b then a else zD
def G1(g:List aG)(a b:ab):List aG:=bJ (bJ g ((b.1,0),sr a b 0)) ((b.1,1),sr a b 1)
def J4(s:StateT)(o:aO)(a b:ab):ak:=bF (aB (bF s.1 (ba o) zI) (ar b) a) zI b.1
def lS(s:StateT)(o:aO)(r0 r1:ab):StateT×(Int×Unit) :=
 if r0.1=r1.1 then(zS,(14,()))
 else if r0.1=bz o then((J4 s o r1 r0,G1 s.2 r1 r0),(0,()))
 else if r1.1=bz o then((J4 s o r0 r1,G1 s.2 r0 r1),(0,()))
 else(zS,(14,()))
def n6(s:StateT)(o:aO):StateT×(Int×Unit):=match ck s.1 (ba o) with
 |none=>(zS,(13,()))
 |some v=>match v.2.1 with
  |[r0,r1]=>lS s o r0 r1
  |_=>(zS,(14,()))
def pT(s:StateT)(o:aO):StateT×(Int×Unit) :=
 if(ck s.1 (ba o)).isSome=true then(zS,(12,())) else if 24≤s.1.1.length then(zS,(3,())) else(((eX (ba o,([],(e0,0))) s.1.1,s.1.2),s.2),(0,()))
def zd(s:StateT)(o:aO):StateT×(Int×Unit):=match ck s.1 (ba o) with
 |none=>(zS,(13,()))
 |some v=>if 0<v.2.1.length then(zS,(14,())) else((bF s.1 (ba o) zI,s.2),(0,()))
def oO(s:StateT)(o:aO):StateT×(Int×Unit) :=
 if cO o≠0 then(zS,(cO o,()))
 else if o.1=1 then pT s o else if o.1=2 then zd s o else if o.1=3 then rB s o else if o.1=4 then GZ s o else if o.1=5 then n3 s o else if o.1=6 then n6 s o else wx s o
structure Bs(n:Nat)(s:StateT):Prop where
 d:Bd n s.1
 g:s.2.length≤n
theorem Bs.mono{n m:Nat}{s:StateT}(h:Bs n s)(hm:n≤m):Bs m s:=⟨h.d.mono hm,by have:=h.g;omega⟩
theorem Bs.zero(n:Nat):Bs n zS:=⟨⟨Nat.zero_le _,Nat.zero_le _,fun w hw=>by simp[zS]at hw⟩,Nat.zero_le _⟩
theorem Bs.one{n:Nat}{s:StateT}(h:Bs n s)(o:aO):Bs (n+3) (oO s o).1:=by
 have h1:=h.d;have h2:=h.g
 unfold oO
 split
 ·exact Bs.zero _
 split
 ·unfold pT;split
  ·exact Bs.zero _
  split
  ·exact Bs.zero _
  ·exact⟨(h1.eX _ (by simp)).mono (by omega),by simp only;omega⟩
 split
 ·unfold zd
  cases ck s.1 (ba o) with
  |none=>exact Bs.zero _
  |some v =>
   simp only
   split
   ·exact Bs.zero _
   ·exact⟨(h1.bF _ _).mono (by omega),by simp only;omega⟩
 split
 ·unfold rB
  split;· exact Bs.zero _
  split;· exact Bs.zero _
  split;· exact Bs.zero _
  split;· exact Bs.zero _
  split;· exact Bs.zero _
  exact⟨by unfold mR;exact((h1.eR _).b6 _ _).b6 _ _,by simp only;omega⟩
 split
 ·unfold GZ
  split;· exact Bs.zero _
  refine⟨(((h1.aA _).aA _).bF _ _).mono (by omega),?_⟩
  have a1:=iE s.2 ((ba o,0),dX s.1 (ba o,0))
  have a2:=iE (bJ s.2 ((ba o,0),dX s.1 (ba o,0))) ((ba o,1),dX s.1 (ba o,1))
  simp only;omega
 split
 ·unfold n3
  split;· exact Bs.zero _
  split;· exact Bs.zero _
  split;· exact Bs.zero _
  split;· exact Bs.zero _
  split;· exact Bs.zero _
  refine⟨?_,by simp only;omega⟩
  have b2:=((h1.aB (Ps o) (ar (Ol o))).eR (bz o,(e0,0)))
  exact(b2.eX (eT o,(cK [Ps o,Ol o],(e0,0))) (by simp[fq])).mono (by omega)
 split
 ·unfold n6
  have key:∀a b:ab,Bs (n+3) (J4 s o a b,G1 s.2 a b):=fun a b=>by
   refine⟨(((h1.bF _ _).aB _ _).bF _ _).mono (by omega),?_⟩
   have a1:=iE s.2 ((b.1,0),sr a b 0)
   have a2:=iE (bJ s.2 ((b.1,0),sr a b 0)) ((b.1,1),sr a b 1)
   simp only[G1];omega
  split
  ·exact Bs.zero _
  ·split
   ·unfold lS
    split;· exact Bs.zero _
    split;· exact key _ _
    split;· exact key _ _
    exact Bs.zero _
   ·exact Bs.zero _
 ·unfold wx
  split
  ·refine⟨⟨by simp;have:=h1.v;omega,by simp;have:=h1.e;omega,fun w hw=>?_⟩,by simp only;omega⟩
   obtain⟨u,hu,rfl⟩:=List.mem_map.1 hw
   have hr:=h1.r u hu
   have e:(nY o u).2.1=u.2.1:=by unfold nY;split<;>(try split)<;>rfl
   rw[e];omega
  ·exact Bs.zero _
def ER:List aO→StateT→StateT×(Int×Unit)
 |[],s=>(s,(0,()))
 |o::r,s=>if(oO s o).2.1≠0 then(zS,(oO s o).2) else ER r (oO s o).1
def cy(s:StateT)(l:List aO):StateT×(Int×Unit):=if iD l≠0 then(zS,(iD l,())) else ER l s
theorem Bs.go{l:List aO}:∀{n:Nat} {s:StateT},Bs n s→Bs (n+3*l.length) (ER l s).1:=by
 induction l with
 |nil=>intro n s h;exact h.mono (by simp)
 |cons o r ih =>
  intro n s h
  unfold ER
  split
  ·exact Bs.zero _
  ·exact(ih (h.one o)).mono (by simp;omega)
def ji(s:StateT)(l:List aO):StateT:=if(cy s l).2.1≠0 then s else(cy s l).1
theorem Bs.try{n:Nat}{s:StateT}{l:List aO}(h:Bs n s):Bs (n+3*l.length) (ji s l):=by
 unfold ji
 split
 ·exact h.mono (by omega)
 ·unfold cy
  split
  ·exact Bs.zero _
  ·exact h.go
def lg:Nat→List (List aO)→StateT→StateT
 |0,_,s=>s
 |_+1,[],s=>s
 |n+1,l::r,s=>lg n r (ji s (l.take 8))
def ze(l:List (List aO)):StateT:=lg 30 l zS
theorem Bs.reach:∀(m:Nat) (l:List (List aO)) {n:Nat} {s:StateT},Bs n s→Bs (n+24*m) (lg m l s)
 |0,_,n,s,h=>by simpa[lg] using h
 |m+1,[],n,s,h=>h.mono (by omega)
 |m+1,l::r,n,s,h=>by
  rw[lg]
  have h1:Bs (n+3*(l.take 8).length) (ji s (l.take 8)):=h.try
  have hl:(l.take 8).length≤8:=by simp;omega
  exact(Bs.reach m r (h1.mono (show n+3*(l.take 8).length≤n+24 by omega))).mono (by omega)
theorem Bs.IB(l:List (List aO)):Bs 720 (ze l):=(Bs.reach 30 l (Bs.zero 0)).mono (by omega)
end Go.Vs
