/- What the document's reference computes, written plainly, the first part. -/
import Derived.Test.YtpkfpbpbkabkdaaGreatEngineD
import Derived.Test.YtpkfpbpbkabkdaaGreatNormalA
import Derived.Test.YtpkfpbpbkabkdaaGreatNormalB
import Derived.Test.YtpkfpbpbkabkdaaGreatNormalC
set_option linter.unusedVariables false
set_option linter.unusedSimpArgs false
namespace Go.Vs
open Go.Proofs
variable {G:(f:FuncId)→(g:aL)→Option (g.A→Option g.B)}
theorem aa{α β:Type}{o:Option α}{f:α→Option β}{a:α}{r:Option β}(h:o=some a)(k:f a=r):o.bind f=r:=by rw[h];exact k
theorem bN{α:Type}{l:List α}{i:Nat}{x:α}(h:l[i]? = some x):cQ l (i:Int)=some x:=by
 have hl:=(List.getElem?_eq_some_iff.1 h).1
 simp[cQ,h]
theorem wrap_small{n:Int}(h0 : -9223372036854775808≤n)(h1:n<9223372036854775808):IntKind.wrap .i64 n=n:=by
 unfold IntKind.wrap
 simp[IntKind.bits,IntKind.signed]
 omega
theorem aP{i n:Nat}(h:i<n)(hn:n≤1073741824):IntKind.wrap .i64 ((i:Int)+1)=((i+1:Nat):Int):=by
 rw[wrap_small (by omega) (by omega)];rfl
theorem bG{i n:Nat}(h:i<n):decide ((i:Int)<((n:Nat):Int))=true:=by simpa using h
theorem fits{n m:Nat}(h:n+m≤1073741824):bL n m=true:=decide_eq_true h
theorem EH(a b:ID):((a.1==b.1)&&(a.2==b.2))=decide (a=b):=by
 obtain⟨a1,a2⟩:=a;obtain⟨b1,b2⟩:=b
 rw[Bool.eq_iff_iff];simp
theorem EI(a b:ab):(((a.1.1==b.1.1)&&(a.1.2==b.1.2))&&(a.2==b.2))=decide (a=b):=by
 obtain⟨⟨a1,a2⟩,a3⟩:=a;obtain⟨⟨b1,b2⟩,b3⟩:=b
 rw[Bool.eq_iff_iff];simp[and_assoc]
theorem ZB(a b:ByteArray):(a==b)=decide (a=b):=by
 obtain⟨a⟩:=a;obtain⟨b⟩:=b
 show(a==b)=_
 rw[Bool.eq_iff_iff];simp
def zD:ab:=((0,0),0)
def dH(x:ID):Bool:=decide (1≤x.1∧x.1≤8∧1≤x.2∧x.2≤1048576)
def fQ(a b:ID):Bool:=decide (a.1<b.1∨(a.1=b.1∧a.2<b.2))
def AE(a b:ID):Int:=if a=b then 0 else if fQ a b then -1 else 1
def ke(a b:ab):Bool:=fQ a.1 b.1 || (decide (a.1=b.1)&&decide (a.2<b.2))
def qS(a b:ab):Int:=if a=b then 0 else if ke a b then -1 else 1
def RZ(d:ab):Bool:=dH d.1&&decide (d.2=0∨d.2=1)
def idx(d:ab):List ab→Int→Int
 |[],_ => -1
 |e::r,i=>if e=d then i else idx d r (i+1)
theorem qz(d:ab):∀(row:List ab) (i:Int),0≤i→(idx d row i = -1∧d∉row)∨(∃k:Nat,idx d row i=i+k∧row[k]? = some d∧d∉row.take k)
 |[],i,_=>.inl ⟨rfl,by simp⟩
 |e::r,i,h=>by
  unfold idx
  by_cases he:e=d
  ·right;exact⟨0,by simp[he],by simp[he],by simp⟩
  ·rw[if_neg he]
   rcases qz d r (i+1) (by omega) with⟨h1,h2⟩|⟨k,h1,h2,h3⟩
   ·exact .inl ⟨h1,by simp[h2,Ne.symm he]⟩
   ·exact .inr ⟨k+1,by rw[h1];omega,by simpa using h2,by simp[h3,Ne.symm he]⟩
theorem tN{d:ab}{row:List ab}:idx d row 0<0↔d∉row:=by
 rcases qz d row 0 (by omega) with⟨h1,h2⟩|⟨k,h1,h2,_⟩
 ·simp[h1,h2]
 ·have:=List.mem_of_getElem? h2
  simp[this];omega
theorem kZ{d:ab}{row:List ab}(h:d∈row):∃k:Nat,idx d row 0=k∧row[k]? = some d∧d∉row.take k:=by
 rcases qz d row 0 (by omega) with⟨_,h2⟩|⟨k,h1,h2,h3⟩
 ·exact absurd h h2
 ·exact⟨k,by omega,h2,h3⟩
end Go.Vs
namespace Go.Vs
open Go.Proofs
variable {G:(f:FuncId)→(g:aL)→Option (g.A→Option g.B)}
def iB(row:List ab)(d:ab)(by_:Nat):Option ab:=if d∈row then row[((idx d row 0).toNat+by_)%row.length]? else none
def Oj:Option ab→ab×(Bool×Unit)
 |some y=>(y,(true,()))
 |none=>(zD,(false,()))
theorem EJ(a n:Nat):Int.tmod (a:Int) (n:Int)=((a%n:Nat):Int):=by
 rw[Int.tmod_eq_emod_of_nonneg (by omega)];rfl
theorem MJ{row:List ab}{d:ab}(h:d∈row):((((row.length:Nat):Int))==0)=false:=by
 have:=List.length_pos_of_mem h
 simp;intro e;subst e;simp at h
def fm(row:List ab):List ab→Nat→Nat→Nat
 |[],_,k=>k
 |x::r,i,k=>if qS x (row.getD k zD)<0 then fm row r (i+1) i else fm row r (i+1) k
def CQ(row:List ab)(k:Nat):List ab:=row.drop k++row.take k
def cK(row:List ab):List ab:=CQ row (fm row row 0 0)
theorem nW(row:List ab):∀(r:List ab) (i k:Nat),k<row.length→i+r.length=row.length→fm row r i k<row.length
 |[],_,k,hk,_=>hk
 |x::r,i,k,hk,hi=>by
  unfold fm
  simp at hi
  split
  ·exact nW row r (i+1) i (by omega) (by omega)
  ·exact nW row r (i+1) k hk (by omega)
theorem GW(row:List ab)(k:Nat):(CQ row k).length=row.length:=by unfold CQ;simp;omega
theorem fq(row:List ab):(cK row).length=row.length:=GW _ _
theorem Pk{row:List ab}{k:Nat}{d:ab}:d∈CQ row k↔d∈row:=by
 unfold CQ
 rw[List.mem_append,or_comm,←List.mem_append,List.take_append_drop]
theorem EK{row:List ab}{d:ab}:d∈cK row↔d∈row:=Pk
theorem Pn{row:List ab}{k i:Nat}(hk:k≤row.length)(hi:i<row.length):(CQ row k)[i]? = row[(k+i)%row.length]? := by
 unfold CQ
 by_cases h:k+i<row.length
 ·rw[List.getElem?_append_left (by simp;omega),List.getElem?_drop,Nat.mod_eq_of_lt h]
 ·rw[List.getElem?_append_right (by simp;omega),List.length_drop,List.getElem?_take,if_pos (by omega)]
  congr 1
  have:(k+i)%row.length=k+i-row.length:=by rw[Nat.mod_eq_sub_mod (by omega),Nat.mod_eq_of_lt (by omega)]
  omega
def oL(row:List ab)(after d:ab):List ab :=
 if d∈row then cK row else cK (row.take ((max 0 (idx after row 0)).toNat+1)++(d::row.drop ((max 0 (idx after row 0)).toNat+1)))
def hY(row:List ab)(d:ab):List ab:=cK (row.filter fun e=>decide (e≠d))
def k0(row:List ab)(c8 d:ab):List ab:=cK (if c8∈row∧d∉row then row.set (idx c8 row 0).toNat d else row)
end Go.Vs
namespace Go.Vs
open Go.Proofs
variable {G:(f:FuncId)→(g:aL)→Option (g.A→Option g.B)}
def e0:ByteArray:=⟨#[]⟩
def zI:ID:=(0,0)
def zV:aj:=((0,0),([],(e0,0)))
def zE:an:=((0,0),(e0,0))
def aN(l:List aj)(x:ID):Option aj:=l.find? fun v=>decide (v.1=x)
def aQ(l:List an)(x:ID):Option an:=l.find? fun v=>decide (v.1=x)
def ck(d:ak)(x:ID):Option aj:=aN d.1 x
def mO(d:ak)(x:ID):Option an:=aQ d.2 x
def Iz(l:List aj)(x:ab):Option ID:=(l.find? fun v=>decide (x∈v.2.1)).map (·.1)
def fN(d:ak)(x:ab):Option ID:=Iz d.1 x
def Po{α:Type}(z:α):Option α→α×(Bool×Unit)
 |some y=>(y,(true,()))
 |none=>(z,(false,()))
def eX(v:aj):List aj→List aj
 |[]=>[v]
 |w::r=>if fQ v.1 w.1 then v::w::r else w::eX v r
def eR(v:an):List an→List an
 |[]=>[v]
 |w::r=>if fQ v.1 w.1 then v::w::r else w::eR v r
theorem bS(a:ID):fQ a a=false:=by simp[fQ]
theorem wY(a b:ID):AE a b<0↔fQ a b=true:=by
 unfold AE
 by_cases h:a=b
 ·subst h;simp[bS]
 ·rw[if_neg h];split<;>simp_all
def fw(l:List aj)(v:ID):List aj:=l.filter fun w=>decide (w.1≠v)
def dG(l:List an)(v:ID):List an:=l.filter fun w=>decide (w.1≠v)
def bF(d:ak)(v e:ID):ak:=(fw d.1 v,dG d.2 e)
end Go.Vs
namespace Go.Vs
open Go.Proofs
variable {G:(f:FuncId)→(g:aL)→Option (g.A→Option g.B)}
instance abU:DecidableEq (List aj):=@instDecidableEqList aj inferInstance
instance decLE:DecidableEq (List an):=@instDecidableEqList an inferInstance
instance XU:DecidableEq ak:=instDecidableEqProd
instance VH:DecidableEq StateT:=instDecidableEqProd
structure Sm(d:ak):Prop where
 v:d.1.length≤50000000
 e:d.2.length≤50000000
 r:∀w∈d.1,w.2.1.length≤50000000
def uU(x:ID)(l:List ab)(w:aj):aj:=if w.1=x then(w.1,(l,w.2.2)) else w
def bW(d:ak)(x:ID)(l:List ab):ak:=(d.1.map (uU x l),d.2)
theorem jP(i:Nat):decide ((0:Int)≤(i:Int))=true:=by simp
def cX(d:ak)(x:ID):List ab:=((ck d x).getD zV).2.1
theorem IA{α:Type}(z:α)(o:Option α):(Po z o).2.1=o.isSome:=by cases o<;>rfl
def b6(d:ak)(c:tq)(x:ab):ak:=bW d c.1 (oL (cX d c.1) c.2 x)
def aB(d:ak)(c8 x:ab):ak:=bW d ((fN d c8).getD zI) (k0 (cX d ((fN d c8).getD zI)) c8 x)
def aA(d:ak)(x:ab):ak:=bW d ((fN d x).getD zI) (hY (cX d ((fN d x).getD zI)) x)
def k9(row:List ab)(x:ab):ab:=(iB row x (row.length-1)).getD zD
theorem Pp(o:Option ab):(Oj o).1=o.getD zD:=by cases o<;>rfl
def dX(d:ak)(x:ab):ab :=
 let row:=cX d ((fN d x).getD zI)
 let y:=k9 row x
 let z:=if y.1=x.1 then k9 row y else y
 if z.1=x.1 then zD else z
def la(l:List aG)(d:ab):Option ab:=(l.find? fun g=>decide (g.1=d)).map (·.2)
end Go.Vs
namespace Go.Vs
open Go.Proofs
variable {G:(f:FuncId)→(g:aL)→Option (g.A→Option g.B)}
def qT(g:aG)(l:List aG):List aG:=l.filter fun q=>decide (q.1≠g.1)
def oM(g:aG):List aG→List aG
 |[]=>[g]
 |e::r=>if qS g.1 e.1≤0 then g::qT g (e::r) else if e.1≠g.1 then e::oM g r else oM g r
def bJ(l:List aG)(g:aG):List aG:=if(la l g.1).isSome=false∧400≤l.length then l else oM g l
def goG(g:aG)(put:Bool)(r:List aG):List aG:=if put then qT g r else oM g r
def res(d:ak)(gn:List aG):Nat→ab→ab
 |0,_=>zD
 |n+1,x=>if(fN d x).isSome then x else match la gn x with
  |none=>zD
  |some y=>res d gn n y
def resolve(s:StateT)(x:ab):ab:=res s.1 s.2 (s.2.length+1) x
def zC:tq:=(zI,zD)
def CR(s:StateT)(c:tq)(v:aj):ab:=if resolve s c.2∈v.2.1 then resolve s c.2 else zD
def bO(s:StateT)(c:tq):tq×(Int×Unit):=match ck s.1 c.1 with
 |none=>(zC,(13,()))
 |some v=>((c.1,CR s c v),(0,()))
def ar(x:ab):ab:=(x.1,IntKind.wrap .i64 (1-x.2))
def pR(d:ak)(x:ab):Option ab:=match fN d x with
 |none=>none
 |some a=>iB (cX d a) x 1
def MK(d:ak)(x:ab):Option ab:=if(fN d x).isSome then pR d (ar x) else none
def uV(d:ak)(x:ab):Nat→ab→List ab→List ab
 |0,_,out=>out
 |n+1,y,out=>if y=x then out else uV d x n ((MK d y).getD zD) (out++[y])
def aW(d:ak)(x:ab):List ab:=match MK d x with
 |none=>[]
 |some y=>uV d x 81 y [x]
theorem Bw(d:ak)(x:ab):∀(n:Nat) (y:ab) (out:List ab),(uV d x n y out).length≤out.length+n
 |0,_,out=>Nat.le_refl _
 |n+1,y,out=>by
  unfold uV
  split
  ·omega
  ·have:=Bw d x n ((MK d y).getD zD) (out++[y]);simp at this;omega
theorem J2(d:ak)(x:ab):(aW d x).length≤82:=by
 unfold aW
 cases MK d x with
 |none=>simp
 |some y=>have:=Bw d x 81 y [x];simpa using this
def iC:List an→List ab
 |[]=>[]
 |e::r=>(e.1,0)::(e.1,1)::iC r
theorem pS:∀l:List an,(iC l).length=2*l.length
 |[]=>rfl
 |e::r=>by simp[iC,pS r];omega
def jx(d:ak):List ab→List (List ab)→List ab→List (List ab)
 |[],out,_=>out
 |x::r,out,told=>if x∈told then jx d r out told else jx d r (out++[aW d x]) (told++aW d x)
def dM(d:ak):List (List ab):=jx d (iC d.2) [] []
end Go.Vs
