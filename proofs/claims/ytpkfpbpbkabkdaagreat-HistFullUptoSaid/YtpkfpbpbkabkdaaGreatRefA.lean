/- What the document's reference computes, written plainly, the first part. -/
import Derived.Test.YtpkfpbpbkabkdaaGreatEngineD
import Derived.Test.YtpkfpbpbkabkdaaGreatNormalA
import Derived.Test.YtpkfpbpbkabkdaaGreatNormalB
import Derived.Test.YtpkfpbpbkabkdaaGreatNormalC
set_option linter.unusedVariables false
set_option linter.unusedSimpArgs false
namespace Go.Vs
open Go.Proofs
variable {G:(f:FuncId)→(g:aK)→Option (g.A→Option g.B)}
theorem aa{α β:Type}{o:Option α}{f:α→Option β}{a:α}{r:Option β}(h:o=some a)(k:f a=r):o.bind f=r:=by rw[h];exact k
theorem bZ{α:Type}{l:List α}{i:Nat}{x:α}(h:l[i]? = some x):dw l (i:Int)=some x:=by
 have hl:=(List.getElem?_eq_some_iff.1 h).1
 simp[dw,h]
theorem wrap_small{n:Int}(h0 : -9223372036854775808≤n)(h1:n<9223372036854775808):IntKind.wrap .i64 n=n:=by
 unfold IntKind.wrap
 simp[IntKind.bits,IntKind.signed]
 omega
theorem bz{i n:Nat}(h:i<n)(hn:n≤1073741824):IntKind.wrap .i64 ((i:Int)+1)=((i+1:Nat):Int):=by
 rw[wrap_small (by omega) (by omega)];rfl
theorem cg{i n:Nat}(h:i<n):decide ((i:Int)<((n:Nat):Int))=true:=by simpa using h
theorem fits{n m:Nat}(h:n+m≤1073741824):b4 n m=true:=decide_eq_true h
theorem ER(a b:ID):((a.1==b.1)&&(a.2==b.2))=decide (a=b):=by
 obtain⟨a1,a2⟩:=a;obtain⟨b1,b2⟩:=b
 rw[Bool.eq_iff_iff];simp
theorem ES(a b:ab):(((a.1.1==b.1.1)&&(a.1.2==b.1.2))&&(a.2==b.2))=decide (a=b):=by
 obtain⟨⟨a1,a2⟩,a3⟩:=a;obtain⟨⟨b1,b2⟩,b3⟩:=b
 rw[Bool.eq_iff_iff];simp[and_assoc]
theorem ZN(a b:ByteArray):(a==b)=decide (a=b):=by
 obtain⟨a⟩:=a;obtain⟨b⟩:=b
 show(a==b)=_
 rw[Bool.eq_iff_iff];simp
def zD:ab:=((0,0),0)
def dF(x:ID):Bool:=decide (1≤x.1∧x.1≤8∧1≤x.2∧x.2≤1048576)
def fU(a b:ID):Bool:=decide (a.1<b.1∨(a.1=b.1∧a.2<b.2))
def AI(a b:ID):Int:=if a=b then 0 else if fU a b then -1 else 1
def kj(a b:ab):Bool:=fU a.1 b.1 || (decide (a.1=b.1)&&decide (a.2<b.2))
def qT(a b:ab):Int:=if a=b then 0 else if kj a b then -1 else 1
def Sh(d:ab):Bool:=dF d.1&&decide (d.2=0∨d.2=1)
def idx(d:ab):List ab→Int→Int
 |[],_ => -1
 |e::r,i=>if e=d then i else idx d r (i+1)
theorem qz(d:ab):∀(row:List ab) (i:Int),0≤i→(idx d row i = -1∧d∉row)∨(∃k:Nat,idx d row i=i+k∧row[k]? = some d∧d∉row.take k)
 |[],i,_=>.inl ⟨rfl,by simp⟩
 |e::r,i,h=>by
  unfold idx
  by_cases he:e=d
  ·right;exact⟨0,by simp[he],by simp[he],by simp⟩
  ·rw[if_neg he]
   rcases qz d r (i+1) (by omega) with⟨h1,h2⟩|⟨k,h1,h2,h3⟩
   ·exact .inl ⟨h1,by simp[h2,Ne.symm he]⟩
   ·exact .inr ⟨k+1,by rw[h1];omega,by simpa using h2,by simp[h3,Ne.symm he]⟩
theorem tM{d:ab}{row:List ab}:idx d row 0<0↔d∉row:=by
 rcases qz d row 0 (by omega) with⟨h1,h2⟩|⟨k,h1,h2,_⟩
 ·simp[h1,h2]
 ·have:=List.mem_of_getElem? h2
  simp[this];omega
theorem k9{d:ab}{row:List ab}(h:d∈row):∃k:Nat,idx d row 0=k∧row[k]? = some d∧d∉row.take k:=by
 rcases qz d row 0 (by omega) with⟨_,h2⟩|⟨k,h1,h2,h3⟩
 ·exact absurd h h2
 ·exact⟨k,by omega,h2,h3⟩
end Go.Vs
namespace Go.Vs
open Go.Proofs
variable {G:(f:FuncId)→(g:aK)→Option (g.A→Option g.B)}
def iD(row:List ab)(d:ab)(by_:Nat):Option ab:=if d∈row then row[((idx d row 0).toNat+by_)%row.length]? else none
def Ol:Option ab→ab×(Bool×Unit)
 |some y=>(y,(true,()))
 |none=>(zD,(false,()))
theorem ET(a n:Nat):Int.tmod (a:Int) (n:Int)=((a%n:Nat):Int):=by
 rw[Int.tmod_eq_emod_of_nonneg (by omega)];rfl
theorem MK{row:List ab}{d:ab}(h:d∈row):((((row.length:Nat):Int))==0)=false:=by
 have:=List.length_pos_of_mem h
 simp;intro e;subst e;simp at h
def fz(row:List ab):List ab→Nat→Nat→Nat
 |[],_,k=>k
 |x::r,i,k=>if qT x (row.getD k zD)<0 then fz row r (i+1) i else fz row r (i+1) k
def CT(row:List ab)(k:Nat):List ab:=row.drop k++row.take k
def cM(row:List ab):List ab:=CT row (fz row row 0 0)
theorem nT(row:List ab):∀(r:List ab) (i k:Nat),k<row.length→i+r.length=row.length→fz row r i k<row.length
 |[],_,k,hk,_=>hk
 |x::r,i,k,hk,hi=>by
  unfold fz
  simp at hi
  split
  ·exact nT row r (i+1) i (by omega) (by omega)
  ·exact nT row r (i+1) k hk (by omega)
theorem G6(row:List ab)(k:Nat):(CT row k).length=row.length:=by unfold CT;simp;omega
theorem fB(row:List ab):(cM row).length=row.length:=G6 _ _
theorem Pu{row:List ab}{k:Nat}{d:ab}:d∈CT row k↔d∈row:=by
 unfold CT
 rw[List.mem_append,or_comm,←List.mem_append,List.take_append_drop]
theorem EU{row:List ab}{d:ab}:d∈cM row↔d∈row:=Pu
theorem Pv{row:List ab}{k i:Nat}(hk:k≤row.length)(hi:i<row.length):(CT row k)[i]? = row[(k+i)%row.length]? := by
 unfold CT
 by_cases h:k+i<row.length
 ·rw[List.getElem?_append_left (by simp;omega),List.getElem?_drop,Nat.mod_eq_of_lt h]
 ·rw[List.getElem?_append_right (by simp;omega),List.length_drop,List.getElem?_take,if_pos (by omega)]
  congr 1
  have:(k+i)%row.length=k+i-row.length:=by rw[Nat.mod_eq_sub_mod (by omega),Nat.mod_eq_of_lt (by omega)]
  omega
def oI(row:List ab)(after d:ab):List ab :=
 if d∈row then cM row else cM (row.take ((max 0 (idx after row 0)).toNat+1)++(d::row.drop ((max 0 (idx after row 0)).toNat+1)))
def hY(row:List ab)(d:ab):List ab:=cM (row.filter fun e=>decide (e≠d))
def la(row:List ab)(da d:ab):List ab:=cM (if da∈row∧d∉row then row.set (idx da row 0).toNat d else row)
end Go.Vs
namespace Go.Vs
open Go.Proofs
variable {G:(f:FuncId)→(g:aK)→Option (g.A→Option g.B)}
def e0:ByteArray:=⟨#[]⟩
def zI:ID:=(0,0)
def zV:ah:=((0,0),([],(e0,0)))
def zE:aq:=((0,0),(e0,0))
def aM(l:List ah)(x:ID):Option ah:=l.find? fun v=>decide (v.1=x)
def aO(l:List aq)(x:ID):Option aq:=l.find? fun v=>decide (v.1=x)
def cp(d:ak)(x:ID):Option ah:=aM d.1 x
def mO(d:ak)(x:ID):Option aq:=aO d.2 x
def F2(l:List ah)(x:ab):Option ID:=(l.find? fun v=>decide (x∈v.2.1)).map (·.1)
def fa(d:ak)(x:ab):Option ID:=F2 d.1 x
def Pw{α:Type}(z:α):Option α→α×(Bool×Unit)
 |some y=>(y,(true,()))
 |none=>(z,(false,()))
def eZ(v:ah):List ah→List ah
 |[]=>[v]
 |w::r=>if fU v.1 w.1 then v::w::r else w::eZ v r
def eU(v:aq):List aq→List aq
 |[]=>[v]
 |w::r=>if fU v.1 w.1 then v::w::r else w::eU v r
theorem bQ(a:ID):fU a a=false:=by simp[fU]
theorem w6(a b:ID):AI a b<0↔fU a b=true:=by
 unfold AI
 by_cases h:a=b
 ·subst h;simp[bQ]
 ·rw[if_neg h];split<;>simp_all
def eE(l:List ah)(v:ID):List ah:=l.filter fun w=>decide (w.1≠v)
def dK(l:List aq)(v:ID):List aq:=l.filter fun w=>decide (w.1≠v)
def aP(d:ak)(v e:ID):ak:=(eE d.1 v,dK d.2 e)
end Go.Vs
namespace Go.Vs
open Go.Proofs
variable {G:(f:FuncId)→(g:aK)→Option (g.A→Option g.B)}
instance ab8:DecidableEq (List ah):=@instDecidableEqList ah inferInstance
instance decLE:DecidableEq (List aq):=@instDecidableEqList aq inferInstance
instance X5:DecidableEq ak:=instDecidableEqProd
instance VZ:DecidableEq StateT:=instDecidableEqProd
structure Sm(d:ak):Prop where
 v:d.1.length≤50000000
 e:d.2.length≤50000000
 r:∀w∈d.1,w.2.1.length≤50000000
def uX(x:ID)(l:List ab)(w:ah):ah:=if w.1=x then(w.1,(l,w.2.2)) else w
def bV(d:ak)(x:ID)(l:List ab):ak:=(d.1.map (uX x l),d.2)
theorem jN(i:Nat):decide ((0:Int)≤(i:Int))=true:=by simp
def cZ(d:ak)(x:ID):List ab:=((cp d x).getD zV).2.1
theorem IE{α:Type}(z:α)(o:Option α):(Pw z o).2.1=o.isSome:=by cases o<;>rfl
def b7(d:ak)(c:tn)(x:ab):ak:=bV d c.1 (oI (cZ d c.1) c.2 x)
def aC(d:ak)(da x:ab):ak:=bV d ((fa d da).getD zI) (la (cZ d ((fa d da).getD zI)) da x)
def az(d:ak)(x:ab):ak:=bV d ((fa d x).getD zI) (hY (cZ d ((fa d x).getD zI)) x)
def lf(row:List ab)(x:ab):ab:=(iD row x (row.length-1)).getD zD
theorem Px(o:Option ab):(Ol o).1=o.getD zD:=by cases o<;>rfl
def dZ(d:ak)(x:ab):ab :=
 let row:=cZ d ((fa d x).getD zI)
 let y:=lf row x
 let z:=if y.1=x.1 then lf row y else y
 if z.1=x.1 then zD else z
def lg(l:List aF)(d:ab):Option ab:=(l.find? fun g=>decide (g.1=d)).map (·.2)
end Go.Vs
namespace Go.Vs
open Go.Proofs
variable {G:(f:FuncId)→(g:aK)→Option (g.A→Option g.B)}
def qU(g:aF)(l:List aF):List aF:=l.filter fun q=>decide (q.1≠g.1)
def oJ(g:aF):List aF→List aF
 |[]=>[g]
 |e::r=>if qT g.1 e.1≤0 then g::qU g (e::r) else if e.1≠g.1 then e::oJ g r else oJ g r
def bH(l:List aF)(g:aF):List aF:=if(lg l g.1).isSome=false∧400≤l.length then l else oJ g l
def goG(g:aF)(put:Bool)(r:List aF):List aF:=if put then qU g r else oJ g r
def res(d:ak)(gn:List aF):Nat→ab→ab
 |0,_=>zD
 |n+1,x=>if(fa d x).isSome then x else match lg gn x with
  |none=>zD
  |some y=>res d gn n y
def resolve(s:StateT)(x:ab):ab:=res s.1 s.2 (s.2.length+1) x
def zC:tn:=(zI,zD)
def CU(s:StateT)(c:tn)(v:ah):ab:=if resolve s c.2∈v.2.1 then resolve s c.2 else zD
def bL(s:StateT)(c:tn):tn×(Int×Unit):=match cp s.1 c.1 with
 |none=>(zC,(13,()))
 |some v=>((c.1,CU s c v),(0,()))
def ao(x:ab):ab:=(x.1,IntKind.wrap .i64 (1-x.2))
def pP(d:ak)(x:ab):Option ab:=match fa d x with
 |none=>none
 |some a=>iD (cZ d a) x 1
def ML(d:ak)(x:ab):Option ab:=if(fa d x).isSome then pP d (ao x) else none
def uY(d:ak)(x:ab):Nat→ab→List ab→List ab
 |0,_,out=>out
 |n+1,y,out=>if y=x then out else uY d x n ((ML d y).getD zD) (out++[y])
def aW(d:ak)(x:ab):List ab:=match ML d x with
 |none=>[]
 |some y=>uY d x 81 y [x]
theorem BA(d:ak)(x:ab):∀(n:Nat) (y:ab) (out:List ab),(uY d x n y out).length≤out.length+n
 |0,_,out=>Nat.le_refl _
 |n+1,y,out=>by
  unfold uY
  split
  ·omega
  ·have:=BA d x n ((ML d y).getD zD) (out++[y]);simp at this;omega
theorem Ka(d:ak)(x:ab):(aW d x).length≤82:=by
 unfold aW
 cases ML d x with
 |none=>simp
 |some y=>have:=BA d x 81 y [x];simpa using this
def iE:List aq→List ab
 |[]=>[]
 |e::r=>(e.1,0)::(e.1,1)::iE r
theorem pQ:∀l:List aq,(iE l).length=2*l.length
 |[]=>rfl
 |e::r=>by simp[iE,pQ r];omega
def jw(d:ak):List ab→List (List ab)→List ab→List (List ab)
 |[],out,_=>out
 |x::r,out,told=>if x∈told then jw d r out told else jw d r (out++[aW d x]) (told++aW d x)
def cQ(d:ak):List (List ab):=jw d (iE d.2) [] []
end Go.Vs
