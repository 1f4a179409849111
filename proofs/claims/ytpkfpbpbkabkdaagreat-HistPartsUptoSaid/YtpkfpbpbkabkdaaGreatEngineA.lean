/- The value semantics of the loaded code: its definitions, what abstract values say of memory, and what single steps leave. -/
import Derived.Control
import Derived.Calls
import Derived.Orders
import GoSem.Machine.Frame
import Derived.Laws.AppendOwn
import GoSem.Core.Utf8
import Derived.Below
import Derived.Laws.OwnMore
import Derived.Laws.Rows
import Derived.Deep.Draws
import Derived.Laws.CopyRow
import Derived.Laws.Cells
import Derived.Laws.Sem
import Derived.Maps.AppendAt
import Derived.ArgAppend
import Derived.WalkKit
namespace Go.Vs
inductive K where
 |int (k:IntKind)|bool|str|sl (k:K)|pair (a b:K)|one (k:K)|mp (kk vk:K)
 deriving DecidableEq
def K.T:K→Type
 |.int _=>Int
 |.bool=>Bool
 |.str=>ByteArray
 |.sl k=>List k.T
 |.pair a b=>a.T×b.T
 |.one k=>k.T
 |.mp kk vk=>List (kk.T×vk.T)
def K.sz:K→Nat
 |.pair a b=>a.sz+b.sz
 |.one k=>k.sz
 |_=>1
def pR(P:Program):Nat→TypeId→Option K
 |0,_=>none
 |d+1,t =>
  match P.underlying t with
  |some (.int k)=>some (.int k)
  |some .bool=>some .bool
  |some .string=>some .str
  |some (.slice e)=>(pR P d e).map .sl
  |some (.map a b)=>match pR P d a,pR P d b with
   |some x,some y=>some (.mp x y)
   |_,_=>none
  |some (.struct fs) =>
   match (fs.toList.map fun f=>pR P d f.type).reverse with
   |[]=>none
   |[k]=>k.map .one
   |last::rest=>rest.foldl (fun acc k=>match k,acc with|some k,some a=>some (.pair k a)|_,_=>none) last
  |_=>none
def K.flat:K→Bool
 |.sl _=>false
 |.mp _ _=>false
 |.pair a b=>a.flat&&b.flat
 |.one k=>k.flat
 |_=>true
def K.isAgg:K→Bool
 |.pair _ _=>true
 |.one _=>true
 |_=>false
inductive AV where
 |no
 |bool (b:Bool)
 |int (k:IntKind) (n:Int)
 |str (s:ByteArray)
 |kN
 |fJ
 |ref (id s i off:Nat)
 |fp (k:K) (x:k.T) (off:Nat)
 |sl (ex:Bool) (k:K) (xs:List k.T)
 |mp (kk vk:K) (es:List (kk.T×vk.T))
 |bF (id:Nat)
 |fn (f:FuncId) (cap:List AV)
 |agg (cs:List AV)
 |mI (vs:List AV)
def AV.isAgg:AV→Bool
 |.agg _=>true
 |_=>false
def AV.cells:AV→List AV
 |.agg cs=>cs
 |v=>[v]
def enc:(k:K)→k.T→List AV
 |.int ik,n=>[.int ik n]
 |.bool,b=>[.bool b]
 |.str,s=>[.str s]
 |.sl k,xs=>[.sl false k xs]
 |.mp kk vk,es=>[.mp kk vk es]
 |.pair a b,x=>enc a x.1++enc b x.2
 |.one k,x=>enc k x
def DY(ik:IntKind):List AV→Option (Int×List AV)
 |.int XA n::r=>if XA=ik then some (n,r) else none
 |_=>none
def yf:List AV→Option (Bool×List AV)
 |.bool b::r=>some (b,r)
 |_=>none
def DZ:List AV→Option (ByteArray×List AV)
 |.str s::r=>some (s,r)
 |_=>none
def Kn(k:K):List AV→Option (List k.T×List AV)
 |.sl _ k' xs::r=>if h:k'=k then some (h▸xs,r) else none
 |.fJ::r=>some ([],r)
 |_=>none
def Ko(kk vk:K):List AV→Option (List (kk.T×vk.T)×List AV)
 |.mp Kp Sf es::r=>if h:Kp=kk∧Sf=vk then some (h.1▸h.2▸es,r) else none
 |_=>none
def dec:(k:K)→List AV→Option (k.T×List AV)
 |.int ik,cs=>DY ik cs
 |.bool,cs=>yf cs
 |.str,cs=>DZ cs
 |.sl k,cs=>Kn k cs
 |.mp kk vk,cs=>Ko kk vk cs
 |.pair a b,cs =>
  match dec a cs with
  |some (x,r)=>match dec b r with
   |some (y,r')=>some ((x,y),r')
   |none=>none
  |none=>none
 |.one k,cs=>dec k cs
def dB(k:K)(cs:List AV):Option k.T :=
 match dec k cs with
 |some (x,[])=>some x
 |_=>none
def b8:(k:K)→k.T→AV
 |.pair a b,x=>.agg (enc (.pair a b) x)
 |.one k,x=>.agg (enc (.one k) x)
 |.int ik,n=>.int ik n
 |.bool,b=>.bool b
 |.str,s=>.str s
 |.sl k,xs=>.sl false k xs
 |.mp kk vk,es=>.mp kk vk es
inductive OK where
 |row (ty:TypeId) (k:K)|map (kk vk:K)|iter (kk vk:K)|nc
 deriving DecidableEq
abbrev OK.T:OK→Type
 |.row _ k=>List k.T
 |.map kk vk=>List (kk.T×vk.T)
 |.iter kk vk=>Option (kk.T×vk.T)×List (kk.T×vk.T)
 |.nc=>ByteArray×Nat
inductive Ob where
 |box (ty:TypeId) (cs:List AV)
 |own (ok:OK) (x:ok.T)
abbrev Heap:=List (Nat×Ob)
def Heap.get:Heap→Nat→Option Ob
 |[],_=>none
 |(i,o)::r,n=>if i=n then some o else Heap.get r n
def Heap.del:Heap→Nat→Heap
 |[],_=>[]
 |(i,o)::r,n=>if i=n then Heap.del r n else(i,o)::Heap.del r n
def Heap.set(h:Heap)(n:Nat)(o:Ob):Heap:=(n,o)::h.del n
def cE(h:Heap):AV→AV
 |.bF id=>match h.get id with
  |some (.own (.row _ k) xs)=>.sl false k xs
  |some (.own (.map kk vk) es)=>.mp kk vk es
  |_=>.no
 |v=>v
def drop1(h:Heap):AV→Heap
 |.bF id=>h.del id
 |_=>h
def cz(h:Heap):List AV→Heap
 |[]=>h
 |c::r=>cz (drop1 h c) r
structure St where
 tmps:List (Nat×AV)
 heap:Heap
def look:List (Nat×AV)→Nat→AV
 |[],_=>.no
 |(i,v)::r,n=>if i=n then v else look r n
def St.put(s:St)(d:Option Tmp)(v:AV):St :=
 match d with
 |some d=>{ s with tmps:=(d,v)::s.tmps }
 |none=>s
def vw:Value→AV
 |.bool b=>.bool b
 |.int k n=>.int k n
 |.string s=>.str s
 |.pointer a=>if a=none then .kN else .no
 |.slice a n c=>if a=none∧n=0∧c=0 then .fJ else .no
 |.func fn first cap=>match fn with
  |.func f=>if first.size=0∧cap.size=0 then .fn f [] else .no
  |_=>.no
 |_=>.no
def sP(v:Value):AV :=
 match v with
 |.agg cs=>.agg (cs.toList.map vw)
 |v=>vw v
def ρ(s:List (Nat×AV)):Operand→AV
 |.tmp t=>look s t
 |.const v=>sP v
 |.global _=>.no
 |.func f=>.fn f []
inductive bE where
 |val (v:AV)
 |new (v:AV) (os:Heap)
 |wr (v:AV) (h:Heap)
def bE.v:bE→AV
 |.val v=>v
 |.new v _=>v
 |.wr v _=>v
def bE.h(h:Heap):bE→Heap
 |.val _=>h
 |.new _ os=>os++h
 |.wr _ h'=>h'
inductive CK where
 |val (k:K)
 |own (ok:OK)
inductive PK where
 |val (k:K)
 |ref
 |own
 |Fp (f:FuncId) (n:Nat)
 |agg (n:Nat)
inductive RK where
 |val (k:K)
 |own (ok:OK)
 |eC (b:Nat) (alts:List (Nat×Nat×Nat))
 |agg (c:List CK)
inductive BK where
 |box (ty:TypeId) (dh:List CK)
 |own (ok:OK)
def BK.dh:BK→List CK
 |.box _ c=>c
 |.own _=>[]
def CK.T:CK→Type
 |.val k=>k.T
 |.own ok=>ok.T
def pS:List CK→Type
 |[]=>Unit
 |c::r=>c.T×pS r
abbrev BK.T:BK→Type
 |.box _ c=>pS c
 |.own ok=>ok.T
def vx:List BK→Type
 |[]=>Unit
 |b::r=>b.T×vx r
def Fy:List K→Type
 |[]=>Unit
 |k::r=>k.T×Fy r
def RK.T:RK→Type
 |.val k=>k.T
 |.own ok=>ok.T
 |.eC _ alts=>Option (Fin alts.length×Nat)
 |.agg c=>pS c
def lq:List RK→Type
 |[]=>Unit
 |r::l=>r.T×lq l
def kz:List PK→List K
 |[]=>[]
 |.val k::r=>k::kz r
 |_::r=>kz r
structure aJ where
 ps:List PK
 bs:List BK
 rs:List RK
 x:Option (Heap→Nat→List AV→Option (Bool×bE)):=none
abbrev aJ.A(g:aJ):Type:=Fy (kz g.ps)×vx g.bs
abbrev aJ.B(g:aJ):Type:=lq g.rs×vx g.bs
def RK.plain:RK→Bool
 |.val _=>true
 |.own ..=>true
 |.eC ..=>false
 |.agg c=>decide (c.length≤16)
def RK.flat:RK→Bool
 |.val k=>k.flat
 |.own ..=>false
 |.eC ..=>true
 |.agg _=>false
end Go.Vs
namespace Go.Vs
section
variable (P:Program)
def IC:TypeDesc→Bool
 |.struct _=>true
 |.array _ _=>true
 |_=>false
def CD(t:TypeId):Option Bool:=(P.underlying t).map IC
def gF(t:TypeId)(f:Nat):Option (Nat×TypeId) :=
 match P.underlying t with
 |some (.struct fs)=>(fs[f]?).map fun x=>(x.offset,x.type)
 |_=>none
def wR(t:TypeId):Option TypeId :=
 match P.underlying t with
 |some (.slice e)=>some e
 |_=>none
def yV(t:TypeId):Option (List AV):=(P.info? t).bind fun i=>i.zero.bind fun z=>if z.cells.toList.all (·.oneCell') then some (sP z).cells else none
def dQ(t:TypeId)(cs:List AV):Option AV :=
 match CD P t with
 |some true=>if P.cellsOf t≤cs.length then some (.agg (cs.take (P.cellsOf t))) else none
 |some false=>match cs with
  |c::_=>some c
  |[]=>none
 |none=>none
def dO{α:Type}(cs:List α):Nat→List α→List α
 |_,[]=>cs
 |off,v::r=>dO (cs.set off v) (off+1) r
def CE(place:Nat→Option (Nat×Nat))(cs:List AV):List (Nat×AV)→Option (List AV)
 |[]=>some cs
 |(i,v)::r =>
  match place i with
  |none=>none
  |some (off,size)=>if v.cells.length≠size∨off+v.cells.length>cs.length then none else CE place (dO cs off v.cells) r
def eP(op:BinOp)(k:IntKind)(a b:Int):Int :=
 k.wrap ((match op with
  |.and=>BitVec.ofInt k.bits a &&& BitVec.ofInt k.bits b
  |.or=>BitVec.ofInt k.bits a ||| BitVec.ofInt k.bits b
  |.xor=>BitVec.ofInt k.bits a ^^^ BitVec.ofInt k.bits b
  |_=>BitVec.ofInt k.bits a &&& ~~~(BitVec.ofInt k.bits b)).toNat:Int)
def X3(k:IntKind)(a b:Int):Int:=k.wrap (a*2 ^ (min b.toNat k.bits))
def kO(k:IntKind)(a b:Int):Int:=a.fdiv (2 ^ (min b.toNat k.bits))
def Vv(op:BinOp)(k:IntKind)(a b:Int):Option AV :=
 match op with
 |.add=>some (.int k (k.wrap (a+b)))
 |.sub=>some (.int k (k.wrap (a-b)))
 |.mul=>some (.int k (k.wrap (a*b)))
 |.eql=>some (.bool (a==b))
 |.neq=>some (.bool (a != b))
 |.lss=>some (.bool (decide (a<b)))
 |.leq=>some (.bool (decide (a≤b)))
 |.gtr=>some (.bool (decide (a>b)))
 |.geq=>some (.bool (decide (a≥b)))
 |.and=>some (.int k (eP .and k a b))
 |.or=>some (.int k (eP .or k a b))
 |.xor=>some (.int k (eP .xor k a b))
 |.andNot=>some (.int k (eP .andNot k a b))
 |_=>none
def X4(op:BinOp)(a b:ByteArray):Option AV :=
 match op with
 |.eql=>some (.bool (a==b))
 |.neq=>some (.bool (!(a==b)))
 |_=>none
def qO:(k:K)→k.T→k.T→Bool
 |.int _,x,y=>(show Int from x)==y
 |.bool,x,y=>(show Bool from x)==y
 |.str,x,y=>(show ByteArray from x)==y
 |.sl _,_,_=>false
 |.mp _ _,_,_=>false
 |.pair a b,x,y=>qO a x.1 y.1&&qO b x.2 y.2
 |.one k,x,y=>qO k x y
def sQ(kk:K){α:Type}(x:kk.T)(es:List (kk.T×α)):Option Nat:=es.findIdx? fun e=>qO kk x e.1
def iL(kk:K){α:Type}(x:kk.T)(es:List (kk.T×α)):Option α:=(sQ kk x es).bind fun i=>(es[i]?).map (·.2)
def mb(kk:K){α:Type}(x:kk.T)(v:α)(es:List (kk.T×α)):List (kk.T×α):=match sQ kk x es with
 |some i=>es.set i (x,v)
 |none=>es++[(x,v)]
def NG(kk:K){α:Type}(x:kk.T)(es:List (kk.T×α)):List (kk.T×α):=match sQ kk x es with
 |some i=>es.eraseIdx i
 |none=>es
def kG:(k:K)→k.T
 |.int _=>(0:Int)
 |.bool=>false
 |.str=>ByteArray.empty
 |.sl k=>([]:List k.T)
 |.pair a b=>(kG a,kG b)
 |.one k=>kG k
 |.mp kk vk=>([]:List (kk.T×vk.T))
def NH:K→Value→Bool
 |.int ik,.int XA n=>decide (XA=ik∧n=0)
 |.bool,.bool b => !b
 |.str,.string s=>decide (s=ByteArray.empty)
 |.sl _,.slice a n c=>decide (a=none∧n=0∧c=0)
 |_,_=>false
def Kq(t:TypeId)(k:K):Bool:=match P.info? t with
 |some i=>match i.zero with
  |some z=>NH k z
  |none=>false
 |none=>false
def Kr(Eqs:TypeId→Option K)(t:TypeId)(k:K):Bool:=k.flat&&(match k,P.underlying t with
 |.int ik,some (.int XA)=>decide (XA=ik)
 |.bool,some .bool=>true
 |.str,some .string=>true
 |k,_=>k.isAgg&&decide (Eqs t=some k))
def mapOf(Eqs:TypeId→Option K)(t:TypeId):Option (K×K):=match P.underlying t with
 |some (.map a b)=>match pR P 8 a,pR P 8 b with
  |some kk,some vk=>if Kr P Eqs a kk&&Kq P b vk then some (kk,vk) else none
  |_,_=>none
 |_=>none
def aX{α:Type}(xs:List α)(i:Int):Option α:=if 0≤i then xs[i.toNat]? else none
def fB:Nat:=1073741824
def aL(n m:Nat):Bool:=decide (n+m≤fB)
def ng(n:Nat)(lo hi:Option AV):Option (Int×Int) :=
 match lo,hi with
 |none,none=>some (0,(n:Int))
 |some (.int .i64 l),none=>some (l,(n:Int))
 |none,some (.int .i64 h)=>some (0,h)
 |some (.int .i64 l),some (.int .i64 h)=>some (l,h)
 |_,_=>none
def aK(n:Nat)(l h:Int):Bool:=decide (0≤l)&&(decide (l≤h)&&decide (h≤(n:Int)))
def cut{α:Type}(xs:List α)(l h:Int):List α:=(xs.take h.toNat).drop l.toNat
def Vw(s:ByteArray)(l h:Int):ByteArray:=s.extract l.toNat h.toNat
variable {R:Type}
def fF(k:K)(h:Heap)(v:AV):Option k.T:=if k.isAgg=v.isAgg then dB k (v.cells.map (cE h)) else none
def rowOf(h:Heap)(v:AV)(k:K):Option (List k.T) :=
 match cE h v with
 |.sl _ k' xs=>if e:k'=k then some (e▸xs) else none
 |.fJ=>some []
 |_=>none
def D0(e:TypeId)(k:K):Bool :=
 match P.info? e with
 |some i=>(match i.zero with
  |some z=>decide (i.size=k.sz)&&(decide (z.cells.size=k.sz)&&decide (i.bytes≤65536))
  |none=>false)
 |none=>false
def nh(h:Heap)(id:Nat)(t:TypeId)(s x:AV)(K:bE→Option R):Option R :=
 match wR P t with
 |none=>none
 |some e =>
  match pR P 8 e with
  |none=>none
  |some kk =>
   match rowOf h x kk,D0 P e kk with
   |some ys,true =>
    match s with
    |.fJ=>cond (aL 0 ys.length) (K (.new (.bF id) [(id,.own (.row e kk) ys)])) none
    |.bF cK =>
     match h.get cK with
     |some (.own (.row e' k') xs) =>
      if c:e'=e∧k'=kk then cond (aL xs.length ys.length) (K (.wr (.bF id) ((h.del cK).set id (.own (.row e kk) (c.2▸xs++ys))))) none else none
     |_=>none
    |.sl ex k' xs =>
     if c:k'=kk then cond (ex&&((!ys.isEmpty || xs.isEmpty)&&aL xs.length ys.length)) (K (.new (.bF id) [(id,.own (.row e kk) (c▸xs++ys))])) none else none
    |_=>none
   |_,_=>none
def vz:AV→Bool
 |.no=>false
 |.agg _=>false
 |.mI _=>false
 |_=>true
def IE(id:Nat):List AV→Bool
 |[]=>true
 |.bF i::r => !(i==id)&&IE id r
 |_::r=>IE id r
def stored(h:Heap)(vs:List AV):List AV×Heap:=(vs.map (cE h),cz h vs)
def qP(h:Heap)(t:TypeId)(a v:AV)(K:bE→Option R):Option R :=
 if v.cells.length=P.cellsOf t∧(P.info? t).isSome∧v.cells.all vz then
  match a with
  |.ref id s i off =>
   match h.get id with
   |some (.box ty cs)=>if i=0∧off+v.cells.length≤cs.length then K (.wr .no (h.set id (.box ty (dO cs off v.cells)))) else none
   |some (.own (.row ty kk) xs) =>
    (xs[i]?).bind fun x =>
     if s=kk.sz∧off+v.cells.length≤kk.sz∧IE id v.cells then
      match dB kk (dO (enc kk x) off (stored h v.cells).1) with
      |some y=>K (.wr .no ((stored h v.cells).2.set id (.own (.row ty kk) (xs.set i y))))
      |none=>none
     else none
   |_=>none
  |_=>none
 else none
def lr(h:Heap)(t:TypeId)(a:AV)(K:bE→Option R):Option R :=
 match a with
 |.ref id s i off =>
  match h.get id with
  |some (.box _ cs)=>if i=0 then(match dQ P t (cs.drop off) with|some v=>K (.val v)|none=>none) else none
  |some (.own (.row _ kk) xs)=>if s=kk.sz then(xs[i]?).bind fun x=>match dQ P t ((enc kk x).drop off) with|some v=>K (.val v)|none=>none else none
  |_=>none
 |.fp kk x off=>match dQ P t ((enc kk x).drop off) with|some v=>K (.val v)|none=>none
 |_=>none
def dt(h:Heap)(t:TypeId)(x i:AV)(K:bE→Option R):Option R :=
 match wR P t with
 |none=>none
 |some e =>
  match x,i with
  |.sl _ kk xs,.int _ n=>if P.cellsOf e=kk.sz then(aX xs n).bind fun y=>K (.val (.fp kk y 0)) else none
  |.bF id,.int _ n =>
   match h.get id with
   |some (.own (.row _ kk) xs)=>if P.cellsOf e=kk.sz then cond (decide (0≤n)&&decide (n<(xs.length:Int))) (K (.val (.ref id kk.sz n.toNat 0))) none else none
   |_=>none
  |_,_=>none
def vA(x:AV)(lo hi mx:Option AV)(K:bE→Option R):Option R :=
 match x,mx with
 |.str s,none =>
  match ng s.size lo hi with
  |some (l,u)=>cond (aK s.size l u) (K (.val (.str (Vw s l u)))) none
  |none=>none
 |_,_=>none
def oc(_:Heap)(sz:Nat)(x:AV)(lo hi mx:Option AV)(K:bE→Option R):Option R :=
 match x with
 |.fJ =>
  match ng 0 lo hi,mx with
  |some (l,u),none=>cond (aK 0 l u) (K (.val .fJ)) none
  |_,_=>none
 |.sl _ kk xs =>
  if sz=kk.sz then
   match ng xs.length lo hi with
   |some (l,u) =>
    match mx with
    |none=>cond (aK xs.length l u) (K (.val (.sl false kk (cut xs l u)))) none
    |some (.int .i64 m)=>cond (aK xs.length l u&&(hi.isSome&&decide (m=u))) (K (.val (.sl true kk (cut xs l u)))) none
    |_=>none
   |none=>none
  else none
 |_=>none
def Vx(t:TypeId)(x:AV):Bool :=
 match P.underlying t,x with
 |some .string,.str _=>true
 |some (.slice _),.str _=>false
 |some (.slice _),_=>true
 |_,_=>false
def IF(t:TypeId):Bool :=
 match P.underlying t with
 |some (.map _ _)=>true
 |_=>false
def CF(h:Heap)(x:AV)(K:bE→Option R):Option R :=
 match cE h x with
 |.str s=>K (.val (.int .i64 (s.size:Int)))
 |.sl _ _ xs=>K (.val (.int .i64 (xs.length:Int)))
 |.fJ=>K (.val (.int .i64 0))
 |_=>none
def vB(h:Heap)(x:AV)(K:bE→Option R):Option R :=
 match cE h x with
 |.mp _ _ es=>K (.val (.int .i64 (es.length:Int)))
 |_=>none
def k9(Eqs:TypeId→Option K)(id:Nat)(t:TypeId)(K:bE→Option R):Option R :=
 match mapOf P Eqs t with
 |some (kk,vk)=>K (.new (.bF id) [(id,.own (.map kk vk) [])])
 |none=>none
def ni(Eqs:TypeId→Option K)(h:Heap)(t:TypeId)(m i:AV)(ok:Bool)(K:bE→Option R):Option R :=
 match mapOf P Eqs t,cE h m with
 |some (kk,vk),.mp Kp Sf es =>
  if c:Kp=kk∧Sf=vk then
   match fF kk h i with
   |some x=>K (.val (cond ok (.mI [b8 vk ((iL kk x (c.1▸c.2▸es:List (kk.T×vk.T))).getD (kG vk)),.bool (iL kk x (c.1▸c.2▸es:List (kk.T×vk.T))).isSome]) (b8 vk ((iL kk x (c.1▸c.2▸es:List (kk.T×vk.T))).getD (kG vk)))))
   |none=>none
  else none
 |_,_=>none
def ij(Eqs:TypeId→Option K)(h:Heap)(t:TypeId)(m i v:AV)(K:bE→Option R):Option R :=
 match mapOf P Eqs t,m with
 |some (kk,vk),.bF id =>
  match h.get id with
  |some (.own (.map Kp Sf) es) =>
   if c:Kp=kk∧Sf=vk then
    match fF kk h i,fF vk h v,(v.cells.all fun c=>match c with | .bF j => !(j==id)|_=>true) with
    |some x,some y,true=>K (.wr (.mI []) ((cz h v.cells).set id (.own (.map kk vk) (mb kk x y (c.1▸c.2▸es:List (kk.T×vk.T))))))
    |_,_,_=>none
   else none
  |_=>none
 |_,_=>none
def nj(Eqs:TypeId→Option K)(h:Heap)(t:TypeId)(m i:AV)(K:bE→Option R):Option R :=
 match mapOf P Eqs t,m with
 |some (kk,vk),.bF id =>
  match h.get id with
  |some (.own (.map Kp Sf) es) =>
   if c:Kp=kk∧Sf=vk then
    match fF kk h i with
    |some x=>K (.wr (.mI []) (h.set id (.own (.map kk vk) (NG kk x (c.1▸c.2▸es:List (kk.T×vk.T))))))
    |none=>none
   else none
  |_=>none
 |_,_=>none
def nk(id:Nat)(t:TypeId)(x:AV)(K:bE→Option R):Option R :=
 match P.underlying t,x with
 |some .string,.str s=>K (.new (.bF id) [(id,.own .nc (s,0))])
 |_,_=>none
def od(s:ByteArray)(p:Nat):Int:=(Utf8.decode s p).1
def yW(s:ByteArray)(p:Nat):Nat:=(Utf8.decode s p).2
def qQ(h:Heap)(x:AV)(K:bE→Option R):Option R :=
 match x with
 |.bF id=>match h.get id with
  |some (.own .nc x)=>cond (decide (x.2<x.1.size)) (K (.wr (.mI [.bool true,.int .i64 (x.2:Int),.int .i32 (od x.1 x.2)]) (h.set id (.own .nc (x.1,x.2+yW x.1 x.2))))) (K (.val (.mI [.bool false])))
  |_=>none
 |_=>none
def qR(h:Heap)(x:AV)(K:bE→Option R):Option R :=
 match x with
 |.bF id=>match h.get id with
  |some (.own (.iter kk vk) (some c,_))=>K (.val (.mI [b8 kk c.1,b8 vk c.2]))
  |_=>none
 |_=>none
def D1:TypeDesc→Bool
 |.bool=>true
 |_=>false
def vC:TypeDesc→Bool
 |.pointer _=>true
 |_=>false
def wS(Eqs:TypeId→Option K)(op:BinOp)(t:TypeId)(x y:AV)(K:bE→Option R):Option R :=
 match x,y with
 |.int k a,.int k' b =>
  match op with
  |.shl=>cond (decide (b<0)) none (K (.val (.int k (X3 k a b))))
  |.shr=>cond (decide (b<0)) none (K (.val (.int k (kO k a b))))
  |op =>
  if k=k' then
   match op with
   |.quo=>cond (b==0) none (K (.val (.int k (k.wrap (a.tdiv b)))))
   |.rem=>cond (b==0) none (K (.val (.int k (a.tmod b))))
   |op=>match Vv op k a b with
    |some v=>K (.val v)
    |none=>none
  else none
 |.str a,.str b=>match X4 op a b with
  |some v=>K (.val v)
  |none=>none
 |.bool a,.bool b =>
  match op,(P.underlying t).map D1 with
  |.eql,some true=>K (.val (.bool (a==b)))
  |.neq,some true=>K (.val (.bool (!(a==b))))
  |_,_=>none
 |.agg a,.agg b =>
  match Eqs t with
  |none=>none
  |some k =>
   match op,dB k a,dB k b with
   |.eql,some x,some y=>K (.val (.bool (qO k x y)))
   |.neq,some x,some y=>K (.val (.bool (!(qO k x y))))
   |_,_,_=>none
 |.kN,.kN =>
  match op,(P.underlying t).map vC with
  |.eql,some true=>K (.val (.bool true))
  |.neq,some true=>K (.val (.bool false))
  |_,_=>none
 |.ref ..,.kN =>
  match op,(P.underlying t).map vC with
  |.eql,some true=>K (.val (.bool false))
  |.neq,some true=>K (.val (.bool true))
  |_,_=>none
 |_,_=>none
def Ug(b:Bool)(x y:AV):AV :=
 match x,y with
 |.bool p,.bool q=>.bool (cond b p q)
 |x,y=>cond b x y
end
def dN(h:Heap)(ok:OK)(c:AV):Option ok.T :=
 match c with
 |.fJ=>match ok with
  |.row _ _=>some []
  |_=>none
 |.bF id=>match h.get id with
  |some (.own XB x)=>if e:XB=ok then some (e▸x) else none
  |_=>none
 |_=>none
def og:AV→List Nat
 |.bF id=>[id]
 |_=>[]
def cF:(dh:List CK)→Heap→List AV→Option (pS dh)
 |[],_,[]=>some ()
 |.val k::r,h,cs =>
  match dB k ((cs.take k.sz).map (cE h)),cF r h (cs.drop k.sz) with
  |some x,some y=>some (x,y)
  |_,_=>none
 |.own ok::r,h,c::cs =>
  match dN h ok c,cF r h cs with
  |some x,some y=>some (x,y)
  |_,_=>none
 |_,_,_=>none
def o8:List CK→List AV→List AV
 |.val k::r,cs=>cs.take k.sz++o8 r (cs.drop k.sz)
 |.own _::r,_::cs=>o8 r cs
 |_,_=>[]
def fC:List CK→List AV→List Nat
 |.val k::r,cs=>fC r (cs.drop k.sz)
 |.own _::r,c::cs=>og c++fC r cs
 |_,_=>[]
def aA:(dh:List CK)→Nat→pS dh→List AV
 |[],_,_=>[]
 |.val k::r,n,x=>enc k x.1++aA r (n+1) x.2
 |.own _::r,n,x=>.bF n::aA r (n+1) x.2
def aT:(dh:List CK)→Nat→pS dh→Heap
 |[],_,_=>[]
 |.val _::r,n,x=>aT r (n+1) x.2
 |.own ok::r,n,x=>(n,.own ok x.1)::aT r (n+1) x.2
def CG(h:Heap)(id:Nat)(ty:TypeId):Option (List AV) :=
 match h.get id with
 |some (.box xO cs)=>if xO=ty then some cs else none
 |_=>none
def o9:(b:BK)→Heap→Nat→Option b.T
 |.box ty c,h,i=>match CG h i ty with
  |some cs=>cF c h cs
  |none=>none
 |.own ok,h,i=>dN h ok (.bF i)
def cU:(bs:List BK)→Heap→List Nat→Option (vx bs)
 |[],_,[]=>some ()
 |b::r,h,i::is =>
  match o9 b h i,cU r h is with
  |some x,some y=>some (x,y)
  |_,_=>none
 |_,_,_=>none
def iM:(b:BK)→Nat→Nat→b.T→Heap
 |.box ty c,i,n,x=>(i,.box ty (aA c n x))::aT c n x
 |.own ok,i,_,x=>[(i,.own ok x)]
def bu:(bs:List BK)→List Nat→Nat→vx bs→Heap
 |b::r,i::is,n,x=>iM b i n x.1++bu r is (n+16) x.2
 |_,_,_,_=>[]
def yX:BK→Heap→Nat→List AV
 |.box _ c,h,i=>match h.get i with
  |some (.box _ cs)=>o8 c cs
  |_=>[]
 |.own _,_,_=>[]
def fL:List BK→Heap→List Nat→List AV
 |b::r,h,i::is=>yX b h i++fL r h is
 |_,_,_=>[]
def jS:BK→Heap→Nat→List Nat
 |.box _ c,h,i=>i::(match h.get i with
  |some (.box _ cs)=>fC c cs
  |_=>[])
 |.own _,_,i=>[i]
def cV:List BK→Heap→List Nat→List Nat
 |b::r,h,i::is=>jS b h i++cV r h is
 |_,_,_=>[]
def gG(h:Heap):List Nat→Heap
 |[]=>h
 |i::r=>gG (h.del i) r
def CH:AV→Option Nat
 |.ref id _ 0 0=>some id
 |_=>none
def ju:List AV→Option (List Nat)
 |[]=>some []
 |v::r=>match CH v,ju r with
  |some i,some is=>some (i::is)
  |_,_=>none
def oi:List AV→Option (List Nat)
 |[]=>some []
 |.bF i::r=>match oi r with
  |some is=>some (i::is)
  |none=>none
 |_=>none
def cx:List PK→List AV→Option (List Nat)
 |[],[]=>some []
 |.val _::ps,_::vs=>cx ps vs
 |.ref::ps,v::vs=>match CH v,cx ps vs with
  |some i,some is=>some (i::is)
  |_,_=>none
 |.own::ps,.bF i::vs=>match cx ps vs with
  |some is=>some (i::is)
  |none=>none
 |.Fp f n::ps,.fn f' cap::vs =>
  if f'=f∧cap.length=n then match ju cap,cx ps vs with
   |some a,some b=>some (a++b)
   |_,_=>none
  else none
 |.agg n::ps,.agg cs::vs =>
  if cs.length=n then match oi cs,cx ps vs with
   |some a,some b=>some (a++b)
   |_,_=>none
  else none
 |_,_=>none
def ed:(ps:List PK)→Heap→List AV→Option (Fy (kz ps))
 |[],_,[]=>some ()
 |.val k::ps,h,v::vs =>
  match fF k h v,ed ps h vs with
  |some x,some y=>some (x,y)
  |_,_=>none
 |.ref::ps,h,_::vs=>ed ps h vs
 |.own::ps,h,_::vs=>ed ps h vs
 |.Fp _ _::ps,h,_::vs=>ed ps h vs
 |.agg _::ps,h,_::vs=>ed ps h vs
 |_,_,_=>none
def de:List PK→List AV→List AV
 |.val _::ps,v::vs=>v.cells++de ps vs
 |_::ps,_::vs=>de ps vs
 |_,_=>[]
def aO:(ps:List PK)→(ids:List Nat)→Nat→Fy (kz ps)→List (Nat×AV)
 |[],_,_,_=>[]
 |.val k::ps,ids,s,x=>(s,b8 k x.1)::aO ps ids (s+1) x.2
 |.ref::ps,i::ids,s,x=>(s,.ref i 0 0 0)::aO ps ids (s+1) x
 |.ref::ps,[],s,x=>(s,.no)::aO ps [] (s+1) x
 |.own::ps,i::ids,s,x=>(s,.bF i)::aO ps ids (s+1) x
 |.own::ps,[],s,x=>(s,.no)::aO ps [] (s+1) x
 |.Fp f n::ps,ids,s,x=>(s,.fn f ((ids.take n).map fun i=>.ref i 0 0 0))::aO ps (ids.drop n) (s+1) x
 |.agg n::ps,ids,s,x=>(s,.agg ((ids.take n).map .bF))::aO ps (ids.drop n) (s+1) x
def mh:List CK→Nat→Nat
 |.val k::r,c+1=>k.sz+mh r c
 |.own _::r,c+1=>1+mh r c
 |_,_=>0
def fG:List CK→Nat→Bool
 |.own (.row _ _)::_,0=>true
 |_::r,c+1=>fG r c
 |_,_=>false
def NI(id:Nat):Option AV→Bool
 |some (.bF me)=>me==id
 |_=>false
def wT(c:List CK)(cs:List AV)(id s off:Nat)(a:Nat×Nat×Nat):Bool :=
 NI id (cs[mh c a.1]?)&&(decide (s=a.2.1)&&(decide (off=a.2.2)&&fG c a.1))
def mJ(bs:List BK)(h:Heap)(ids:List Nat)(b:Nat)(alts:List (Nat×Nat×Nat))(v:AV):Option (Option (Fin alts.length×Nat)) :=
 match v with
 |.kN=>some none
 |.ref id s i off =>
  (match ids[b]?,bs[b]? with
  |some bi,some bk=>(match h.get bi with
   |some (.box _ cs)=>(match (List.finRange alts.length).find? (fun a=>wT bk.dh cs id s off (alts.get a)) with
    |some a=>some (some (a,i))
    |none=>none)
   |_=>none)
  |_,_=>none)
 |_=>none
def yY(c:List CK)(h:Heap)(v:AV):Option (pS c) :=
 match v with
 |.agg cs=>cF c h cs
 |_=>none
def bG(bs:List BK):(rs:List RK)→Heap→List Nat→List AV→Option (lq rs)
 |[],_,_,[]=>some ()
 |.val k::r,h,ids,v::vs =>
  match fF k h v,bG bs r h ids vs with
  |some x,some y=>some (x,y)
  |_,_=>none
 |.own ok::r,h,ids,v::vs =>
  match dN h ok v,bG bs r h ids vs with
  |some x,some y=>some (x,y)
  |_,_=>none
 |.eC b alts::r,h,ids,v::vs =>
  match mJ bs h ids b alts v,bG bs r h ids vs with
  |some x,some y=>some (x,y)
  |_,_=>none
 |.agg c::r,h,ids,v::vs =>
  match yY c h v,bG bs r h ids vs with
  |some x,some y=>some (x,y)
  |_,_=>none
 |_,_,_,_=>none
def fM:List RK→List AV→List AV
 |.val _::r,v::vs=>v.cells++fM r vs
 |.agg c::r,v::vs=>o8 c v.cells++fM r vs
 |_::r,_::vs=>fM r vs
 |_,_=>[]
def dH:List RK→List AV→List Nat
 |.own _::r,v::vs=>og v++dH r vs
 |.agg c::r,v::vs=>fC c v.cells++dH r vs
 |_::r,_::vs=>dH r vs
 |_,_=>[]
def tM(b n:Nat)(alts:List (Nat×Nat×Nat)):Option (Fin alts.length×Nat)→AV
 |none=>.kN
 |some (a,i)=>.ref (n+16*b+(alts.get a).1) (alts.get a).2.1 i (alts.get a).2.2
def aP:(rs:List RK)→(ids:List Nat)→(n m:Nat)→lq rs→List AV
 |[],_,_,_,_=>[]
 |.val k::r,ids,n,m,x=>b8 k x.1::aP r ids n (m+1) x.2
 |.agg c::r,ids,n,m,x=>.agg (aA c m x.1)::aP r ids n (m+1) x.2
 |.own _::r,ids,n,m,x=>.bF m::aP r ids n (m+1) x.2
 |.eC b alts::r,ids,n,m,x=>tM b n alts x.1::aP r ids n (m+1) x.2
def ai:(rs:List RK)→(m:Nat)→lq rs→Heap
 |[],_,_=>[]
 |.own ok::r,m,x=>(m,.own ok x.1)::ai r (m+1) x.2
 |.agg c::r,m,x=>aT c m x.1++ai r (m+1) x.2
 |.val _::r,m,x=>ai r (m+1) x.2
 |.eC _ _::r,m,x=>ai r (m+1) x.2
def eQ:List AV→AV
 |[v]=>v
 |vs=>.mI vs
def cc:List CK→Nat→List Nat
 |[],_=>[]
 |.val _::r,n=>cc r (n+1)
 |.own _::r,n=>n::cc r (n+1)
def bW:List BK→List Nat→Nat→List Nat
 |b::r,i::is,n=>i::(cc b.dh n++bW r is (n+16))
 |_,_,_=>[]
def bw:List RK→Nat→List Nat
 |[],_=>[]
 |.own _::r,m=>m::bw r (m+1)
 |.agg c::r,m=>cc c m++bw r (m+1)
 |.val _::r,m=>bw r (m+1)
 |.eC _ _::r,m=>bw r (m+1)
def aM(n:Nat):List Nat:=(List.range n).map fun i=>1000+20*i
def pT(g:aJ):List Nat:=bW g.bs (aM g.bs.length) 2000++bw g.rs 3000
def Fz:List AV→Bool
 |[]=>true
 |.bF _::_=>false
 |_::r=>Fz r
def pU:List AV→Bool
 |[]=>true
 |v::r=>Fz v.cells&&pU r
def b4:List Nat→Bool
 |[]=>true
 |i::r => !(r.contains i)&&b4 r
def vD(kept:List Nat)(kx:List AV):Bool:=b4 kept&&kept.all fun i=>IE i kx
section
variable (P:Program) (Eqs:TypeId→Option K) (Sg:FuncId→Option aJ) (F:(f:FuncId)→(g:aJ)→g.A→Option g.B)
variable {R:Type}
def sR(f:FuncId):List AV→FuncId
 |[]=>f
 |.fn g _::_=>f+1000*(g+1)
 |_::r=>sR f r
def yZ:List AV→Bool
 |[]=>false
 |.bF _::_=>true
 |.agg cs::r=>(cs.any fun c=>match c with | .bF _=>true|_=>false) || yZ r
 |_::r=>yZ r
def keyOf(f:FuncId)(vs:List AV):FuncId:=if yZ vs&&(Sg (sR f vs+500000)).isSome then sR f vs+500000 else sR f vs
def Cb(bs:List BK)(r:RK):Bool:=match r with
 |.eC b alts=>match bs[b]? with
  |some bk=>(alts.all fun a=>fG bk.dh a.1)&&decide ((alts.map fun a=>(a.1,a.2.2)).Nodup)
  |none=>false
 |.agg c=>decide (c.length≤16)
 |_=>true
def pV(bs:List BK)(rs:List RK):Bool:=rs.all (Cb bs)
def NJ(f:FuncId)(g:aJ):Bool:=pV g.bs g.rs&&( (decide (g.bs.length≤8)&&(g.bs.all fun b=>decide (b.dh.length≤16)))&&((decide (g.rs.length≤100)&&decide (f<1000))&&b4 (pT g)))
def pW{α R:Type}(o:Option α)(a:Option R)(f:α→Option R):Option R:=match o with
 |none=>a
 |some x=>f x
def X5{R:Type}(n:Nat)(a:Fin n)(f:Fin n→Option R):Option R:=(List.finRange n).foldr (fun j r=>cond (a.val==j.val) (f j) r) none
def jv{R:Type}:(rs:List RK)→lq rs→(lq rs→Option R)→Option R
 |[],_,K=>K ()
 |.eC _ alts::r,x,K=>pW x.1 (jv r x.2 fun z=>K (none,z)) (fun p=>X5 alts.length p.1 fun a=>jv r x.2 fun z=>K (some (a,p.2),z))
 |.val _::r,x,K=>jv r x.2 fun z=>K (x.1,z)
 |.own _::r,x,K=>jv r x.2 fun z=>K (x.1,z)
 |.agg _::r,x,K=>jv r x.2 fun z=>K (x.1,z)
def iO(h:Heap)(id:Nat)(f:FuncId)(vs:List AV)(K:bE→Option R):Option R :=
 match Sg (keyOf Sg f vs) with
 |none=>none
 |some g=>match g.x with
 |some u=>if f<1000 then(u h id vs).bind fun p=>cond p.1 (K p.2) none else none
 |none =>
  match cx g.ps vs,NJ f g with
  |some is,true =>
   if is.isEmpty&&g.rs.all RK.plain then
   match ed g.ps h vs,cU g.bs h [],g.rs.all RK.plain with
   |some x,some b,true =>
    (F (keyOf Sg f vs) g (x,b)).bind fun y =>
     cond (g.rs.all RK.flat || pU vs)
      (K (.new (eQ (aP g.rs [] id (id+128) y.1)) (ai g.rs (id+128) y.1)))
      (K (.wr (eQ (aP g.rs [] id (id+128) y.1)) (ai g.rs (id+128) y.1++cz h (de g.ps vs))))
   |_,_,_=>none
   else
   match ed g.ps h vs,cU g.bs h is,vD (cV g.bs h is) (de g.ps vs++fL g.bs h is)&&b4 (bW g.bs is id++bw g.rs (id+128)) with
   |some x,some b,true =>
    (F (keyOf Sg f vs) g (x,b)).bind fun y=>jv g.rs y.1 fun z =>
     K (.wr (eQ (aP g.rs is id (id+128) z))
      (bu g.bs is id y.2++(ai g.rs (id+128) z++gG (cz h (de g.ps vs++fL g.bs h is)) (cV g.bs h is))))
   |_,_,_=>none
  |_,_=>none
def pX{α:Type}(xs:List α)(i:Int)(ys:List α):Bool:=decide (0≤i)&&(decide (i≤xs.length)&&(decide (ys.length=1)&&aL xs.length ys.length))
def fN{α:Type}(xs:List α)(i:Int)(ys:List α):List α:=xs.take i.toNat++(ys++xs.drop i.toNat)
def jo{α:Type}(xs:List α)(i j:Int):Bool:=decide (0≤i)&&(decide (i<j)&&(decide (j≤xs.length)&&aL xs.length 0))
def di{α:Type}(xs:List α)(i j:Int):List α:=xs.take i.toNat++xs.drop j.toNat
def y0(n:Int):Bool:=decide (0≤n)&&decide (n≤fB)
def NK(ty:TypeId)(k:K)(h:Heap)(id:Nat):List AV→Option (Bool×bE)
 |[.bF o,.int .i64 i,.bF j]=>match dN h (.row ty k) (.bF o),dN h (.row ty k) (.bF j) with
  |some xs,some ys=>if o=j then none else some (pX xs i ys,.wr (.bF id) ((id,.own (.row ty k) (fN xs i ys))::h.del o))
  |_,_=>none
 |_=>none
def Sh(ty:TypeId)(k:K)(h:Heap)(id:Nat):List AV→Option (Bool×bE)
 |[.bF o,.int .i64 i,.int .i64 j]=>match dN h (.row ty k) (.bF o) with
  |some xs=>some (jo xs i j,.wr (.bF id) ((id,.own (.row ty k) (di xs i j))::h.del o))
  |none=>none
 |_=>none
def NL(ty:TypeId)(k:K)(_:Heap)(id:Nat):List AV→Option (Bool×bE)
 |[.fJ,.int .i64 n]=>some (y0 n,.new (.bF id) [(id,.own (.row ty k) [])])
 |_=>none
def vE(id:Nat)(t:TypeId)(vs:List AV)(K:bE→Option R):Option R :=
 K (.new (.ref id vs.length 0 0) [(id,.box t vs)])
def Uh:AV→Bool
 |.no=>false
 |_=>true
def qS(t:TypeId)(parts:List (Nat×AV))(K:bE→Option R):Option R :=
 match yV P t,P.underlying t with
 |some z,some (.struct fs) =>
  match CE (fun i=>(fs[i]?).map fun f=>(f.offset,P.cellsOf f.type)) z parts,fs.toList.all (fun f=>(P.info? f.type).isSome)&&parts.all (fun p=>Uh p.2) with
  |some cs,true=>K (.val (.agg cs))
  |_,_=>none
 |_,_=>none
def pY(k:K)(h:Heap):Nat→List (Nat×AV)→Option (List k.T)
 |_,[]=>some []
 |i,(j,v)::r =>
  if j=i then match dB k (v.cells.map (cE h)),pY k h (i+1) r with
   |some x,some xs=>some (x::xs)
   |_,_=>none
  else none
def tN(h:Heap)(id:Nat)(t:TypeId)(n:Nat)(parts:List (Nat×AV))(K:bE→Option R):Option R :=
 match wR P t with
 |none=>none
 |some e =>
  match pR P 8 e with
  |none=>none
  |some k =>
   match pY k h 0 parts,D0 P e k with
   |none,_=>none
   |some _,false=>none
   |some xs,true =>
    if parts.length=n∧n*k.sz≤1048576 then
     cond (pU (parts.map (·.2))) (K (.new (.bF id) [(id,.own (.row e k) xs)])) (K (.wr (.bF id) ((id,.own (.row e k) xs)::cz h (parts.flatMap (·.2.cells)))))
    else none
def Si:bE→bE
 |.new (.bF _) [(_,.own (.row _ k) xs)]=>.new (.sl true k xs) []
 |e=>e
def vF(kx:Bool)(h:Heap)(id:Nat)(t:TypeId)(n:Nat)(parts:List (Nat×AV))(K:bE→Option R):Option R :=
 tN P h id t n parts fun e=>K (if kx then Si e else e)
def zc(src dst:TypeId)(x:AV)(K:bE→Option R):Option R :=
 match P.underlying src,P.underlying dst,x with
 |some (.int _),some (.int k),.int _ n=>K (.val (.int k (k.wrap n)))
 |some .string,some .string,.str s=>K (.val (.str s))
 |_,_,_=>none
def LF(mx:Bool)(vs:List AV)(K:bE→Option R):Option R :=
 match vs with
 |[.int k a,.int k' b]=>if k=k' then K (.val (.int k (cond mx (max a b) (min a b)))) else none
 |_=>none
def Ui(t id:Nat):Bool:=(Sg (900000+t)).isSome&&(Sg (2000003+1000*(id / 256-128))).isSome
def cM(id:Nat)(h:Heap)(s:List (Nat×AV))(o:Oper)(K:bE→Option R):Option R :=
 match o.op with
 |.move x | .assign x=>K (.val (ρ s x))
 |.pick c a b=>match ρ s c with
  |.bool t=>K (.val (Ug t (ρ s a) (ρ s b)))
  |_=>none
 |.box t x=>if(ρ s x).cells.all vz then vE id t (ρ s x).cells K else none
 |.alloc t=>match yV P t with
  |some z=>vE id t z K
  |none=>none
 |.build t ps=>qS P t (ps.toList.map fun p=>(p.1,ρ s p.2)) K
 |.buildSlice t n ps=>vF P (Ui Sg t id) h id t n (ps.toList.map fun p=>(p.1,ρ s p.2)) K
 |.load t a=>lr P h t (ρ s a) K
 |.store t a v=>qP P h t (ρ s a) (ρ s v) K
 |.nilCheck x=>match ρ s x with
  |.ref id s i off=>K (.val (.ref id s i off))
  |.fp k x off=>K (.val (.fp k x off))
  |.fn f cap=>K (.val (.fn f cap))
  |_=>none
 |.binOp op t x y _=>wS P Eqs op t (ρ s x) (ρ s y) K
 |.unOp .not _ x=>match ρ s x with
  |.bool b=>K (.val (.bool (!b)))
  |_=>none
 |.convert src dst x=>zc P src dst (ρ s x) K
 |.makeFunc (.func f) first cap=>if first.size=0 then K (.val (.fn f (cap.toList.map (ρ s)))) else none
 |.slice t x lo hi mx=>match P.underlying t with
  |some .string=>vA (ρ s x) (lo.map (ρ s)) (hi.map (ρ s)) (mx.map (ρ s)) K
  |some (.slice e)=>if(P.info? e).isSome then oc h (P.cellsOf e) (ρ s x) (lo.map (ρ s)) (hi.map (ρ s)) (mx.map (ρ s)) K else none
  |_=>none
 |.fieldAddr t x f=>match gF P t f,ρ s x with
  |some (n,ft),.ref id s i off=>if P.cellsOf ft=0 then none else K (.val (.ref id s i (off+n)))
  |some (n,ft),.fp k x off=>if P.cellsOf ft=0 then none else K (.val (.fp k x (off+n)))
  |_,_=>none
 |.field t x f=>match gF P t f,ρ s x with
  |some (n,ft),.agg cs=>match dQ P ft (cs.drop n) with
   |some v=>K (.val v)
   |none=>none
  |_,_=>none
 |.indexAddr t x i=>dt P h t (ρ s x) (ρ s i) K
 |.index t x i=>match P.underlying t,ρ s x,ρ s i with
  |some .string,.str b,.int _ n=>(if 0≤n then b[n.toNat]? else none).bind fun c=>K (.val (.int .u8 (c.toNat:Int)))
  |_,_,_=>none
 |.makeMap t none=>k9 P Eqs id t K
 |.lookup t m i ok=>ni P Eqs h t (ρ s m) (ρ s i) ok K
 |.mapUpdate t m i v=>ij P Eqs h t (ρ s m) (ρ s i) (ρ s v) K
 |.range t x=>nk P id t (ρ s x) K
 |.next x true=>qQ h (ρ s x) K
 |.entry x=>qR h (ρ s x) K
 |.extract t i=>match ρ s t with
  |.mI vs=>match vs[i]? with
   |some v=>K (.val v)
   |none=>none
  |_=>none
 |.call c =>
  match c.callee with
  |.value f=>match ρ s f with
   |.fn f cap=>iO Sg F h id f (c.args.toList.map (ρ s)++cap) K
   |_=>none
  |.builtin .len=>match c.args.toList,c.argTypes.toList with
   |[x],[t]=>if IF P t then vB h (ρ s x) K else if Vx P t (ρ s x) then CF h (ρ s x) K else none
   |_,_=>none
  |.builtin .append=>match c.args.toList,c.argTypes.toList with
   |[x,y],[t,t']=>if t'=t then nh P h id t (ρ s x) (ρ s y) K else none
   |_,_=>none
  |.builtin .delete=>match c.args.toList,c.argTypes.toList with
   |[m,x],t::_=>nj P Eqs h t (ρ s m) (ρ s x) K
   |_,_=>none
  |.builtin .max=>LF true (c.args.toList.map (ρ s)) K
  |.builtin .min=>LF false (c.args.toList.map (ρ s)) K
  |_=>none
 |_=>none
def mK:Op→Bool
 |.move _ | .assign _ | .extract .. | .unOp .. | .pick .. | .fieldAddr .. | .nilCheck _ | .makeFunc .. | .build .. | .slice ..=>true
 |.binOp op ..=>match op with
  |.eql | .neq=>false
  |_=>true
 |_=>false
def makes:Op→Bool
 |.box .. | .alloc _ | .buildSlice .. | .makeMap .. | .range ..=>true
 |.call c=>match c.callee with
  |.builtin .append | .value _=>true
  |_=>false
 |_=>false
def opId(rid i:Nat):Nat:=((rid+1)*128+i)*256
def tO(ops:Array Oper)(b:Array Nat):Bool :=
 (List.range ops.size).all fun i=>match ops[i]? with
  |some o=>(o.after.toList.all fun e => !Region.binds .any e || decide (e.on<i)) &&
   b.getD i 0==o.after.toList.foldl (fun s e=>if Region.binds .any e then s ||| 2 ^ e.on ||| b.getD e.on 0 else s) 0
  |none=>false
def zd(ops:Array Oper)(b:Array Nat):Bool :=
 (List.range ops.size).all fun j=>(List.range j).all fun i =>
  (b.getD j 0).testBit i || (match ops[i]?,ops[j]? with
   |some x,some y=>x.apart ops y
   |_,_=>false)
def iP:Op→Option Operand
 |.load _ x=>some x
 |.indexAddr _ x _=>some x
 |_=>none
def D2:Op→Bool
 |.store ..=>true
 |.call c=>match c.callee with
  |.value _=>true
  |_=>false
 |_=>false
def tP(ops:Array Oper)(i j:Nat):Bool :=
 match (ops[j]?).bind (iP ·.op) with
 |some (.tmp d)=>(List.range ops.size).all fun m => !(decide (min i j≤m)&&decide (m<max i j)) || (match (ops[m]?).bind (·.dst) with|some d'=>d' != d|none=>true)
 |some _=>true
 |none=>false
def tQ:AV→List Nat
 |.ref id _ _ _=>[id]
 |.bF id=>[id]
 |_=>[]
def Vy(ops:Array Oper)(b:Array Nat)(i:Nat)(tmps:List (Nat×AV)):List Nat :=
 (List.range ops.size).flatMap fun j=>if j==i || (b.getD j 0).testBit i || (b.getD i 0).testBit j then[] else match (ops[j]?).bind (iP ·.op) with
  |some x=>tQ (ρ tmps x)
  |none=>[]
def gH(ops:Array Oper)(b:Array Nat)(i:Nat)(tmps:List (Nat×AV))(o:Oper):List Nat:=if D2 o.op then Vy ops b i tmps else[]
def IG(ops:Array Oper)(b:Array Nat)(i:Nat):Bool :=
 (List.range ops.size).all fun j =>
  j==i || (b.getD j 0).testBit i || (b.getD i 0).testBit j || (match ops[j]? with|some o=>mK o.op|none=>true) || ((match ops[i]? with|some o=>D2 o.op|none=>false)&&tP ops i j)
def ahead(rid:Nat)(IH:Nat)(h:Heap):Heap:=h.filter fun p=>(p.1 / 32768 != rid+1) || IH.testBit (p.1 / 256%128)
def gZ(n:Nat)(o:Oper):Bool :=
 match o.dst with
 |some d=>decide (d<n)
 |none=>true
end
def pZ(rid bits id:Nat):Bool:=(id / 32768 != rid+1) || bits.testBit (id / 256%128)
mutual
def rX(rid bits:Nat):AV→Bool
 |.ref id _ _ _=>pZ rid bits id
 |.bF id=>pZ rid bits id
 |.fn _ cap=>ze rid bits cap
 |.agg cs=>ze rid bits cs
 |.mI vs=>ze rid bits vs
 |.no=>true
 |.bool _=>true
 |.int _ _=>true
 |.str _=>true
 |.kN=>true
 |.fJ=>true
 |.fp _ _ _=>true
 |.sl _ _ _=>true
 |.mp _ _ _=>true
def ze(rid bits:Nat):List AV→Bool
 |[]=>true
 |v::r=>rX rid bits v&&ze rid bits r
end
def wU(rid bits:Nat):Heap→Bool
 |[]=>true
 |(id,.box _ cs)::r=>pZ rid bits id&&ze rid bits cs&&wU rid bits r
 |(id,.own _ _)::r=>pZ rid bits id&&wU rid bits r
def gu(draw:Bool)(rid:Nat)(ops:Array Oper)(b:Array Nat)(i IH:Nat):bE→Bool
 |.wr v h=>(!draw || IG ops b i)&&rX rid (IH ||| 2 ^ i) v&&wU rid (IH ||| 2 ^ i) h
 |.new v os=>rX rid (IH ||| 2 ^ i) v&&(os.all fun p=>p.1 / 256==(rid+1)*128+i)&&wU rid (IH ||| 2 ^ i) os
 |.val v=>rX rid IH v
def eV(ft:List Nat)(hp h:Heap):Heap:=(ft.filterMap fun i=>(hp.get i).map fun o=>(i,o))++h
def gx(ft:List Nat)(hp:Heap):bE→bE
 |.wr v h=>.wr v (eV ft hp h)
 |.val v=>.val v
 |.new v os=>.new v os
mutual
def p4(ft:List Nat):AV→Bool
 |.ref id _ _ _ => !(ft.contains id)
 |.bF id => !(ft.contains id)
 |.fn _ cap=>sS ft cap
 |.agg cs=>sS ft cs
 |.mI vs=>sS ft vs
 |.no=>true
 |.bool _=>true
 |.int _ _=>true
 |.str _=>true
 |.kN=>true
 |.fJ=>true
 |.fp _ _ _=>true
 |.sl _ _ _=>true
 |.mp _ _ _=>true
def sS(ft:List Nat):List AV→Bool
 |[]=>true
 |v::r=>p4 ft v&&sS ft r
end
def sV(ft:List Nat):Heap→Bool
 |[]=>true
 |(id,.box _ cs)::r => !(ft.contains id)&&(sS ft cs&&sV ft r)
 |(id,.own _ _)::r => !(ft.contains id)&&sV ft r
def mL(ft:List Nat):bE→Bool
 |.wr v h=>p4 ft v&&sV ft h
 |_=>true
section
variable (P:Program) (Eqs:TypeId→Option K) (Sg:FuncId→Option aJ) (F:(f:FuncId)→(g:aJ)→g.A→Option g.B)
variable {R:Type}
noncomputable def p6(n:Nat)(f:Nat→Option R):Option R:=open Classical in if h:∃r,∀j,j<n→f j=some r then some (Classical.choose h) else none
def xQ(m:Nat)(d:AV):AV→AV
 |.bF i=>if i=m then d else .bF i
 |v=>v
def om(id:Nat)(st:St)(o:Oper):Option St :=
 match o.op with
 |.range t x=>match P.underlying t,ρ st.tmps x with
  |some (.map _ _),.bF m=>match st.heap.get m with
   |some (.own (.map kk vk) es)=>some (({ tmps:=st.tmps.map fun p=>(p.1,xQ m (.mp kk vk es) p.2),heap:=(id,.own (.iter kk vk) (none,es))::st.heap.del m }:St).put o.dst (.bF id))
   |_=>none
  |_,_=>none
 |_=>none
def tR(o:Oper):Option Operand :=
 match o.op with
 |.next x false=>some x
 |_=>none
noncomputable def kP(h:Heap)(x:AV)(K:AV→Heap→Option R):Option R :=
 match x with
 |.bF id=>match h.get id with
  |some (.own (.iter kk vk) p)=>cond p.2.isEmpty (K (.mI [.bool false]) h) (p6 p.2.length fun j=>(p.2[j]?).bind fun c=>K (.mI [.bool true,b8 kk c.1,b8 vk c.2]) (h.set id (.own (.iter kk vk) (some c,p.2.eraseIdx j))))
  |_=>none
 |_=>none
def isNil(o:Oper):Option (Operand×Bool) :=
 match o.op with
 |.binOp op t x (.const v) _=>match op,P.underlying t,vw v with
  |.eql,some (.slice _),.fJ=>some (x,true)
  |.neq,some (.slice _),.fJ=>some (x,false)
  |_,_,_=>none
 |_=>none
noncomputable def tS(h:Heap)(x:AV)(want:Bool)(K:AV→Option R):Option R :=
 match cE h x with
 |.fJ=>K (.bool want)
 |.sl _ _ xs=>cond xs.isEmpty (p6 2 fun j=>K (.bool ((j==0)==want))) (K (.bool (!want)))
 |_=>none
noncomputable def bA(rid:Nat)(draw:Bool)(ops:Array Oper)(b:Array Nat):List (Nat×Oper)→St→(St→Option R)→Option R
 |[],st,K=>K st
 |(i,o)::r,st,K =>
  let run (st:St):Option R :=
   match (if draw then none else om P (opId rid i) st o) with
   |some dX=>bA rid draw ops b r dX K
   |none =>
   match (if draw then none else tR o) with
   |some x=>kP st.heap (ρ st.tmps x) fun v h=>bA rid draw ops b r (({ st with heap:=h }:St).put o.dst v) K
   |none =>
   match (if draw then none else isNil P o) with
   |some (x,want)=>tS st.heap (ρ st.tmps x) want fun v=>bA rid draw ops b r (st.put o.dst v) K
   |none =>
   if draw then
    cM P Eqs Sg F (opId rid i) (gG (ahead rid (b.getD i 0) st.heap) (gH ops b i st.tmps o)) st.tmps o fun e =>
     if gu true rid ops b i (b.getD i 0) (gx (gH ops b i st.tmps o) (ahead rid (b.getD i 0) st.heap) e)&&mL (gH ops b i st.tmps o) e then
      bA rid draw ops b r ({ st with heap:=match gx (gH ops b i st.tmps o) (ahead rid (b.getD i 0) st.heap) e with | .wr _ h=>h|e=>e.h st.heap }.put o.dst e.v) K else none
   else
    cM P Eqs Sg F (opId rid i) st.heap st.tmps o fun e =>
     if gu false rid ops b i (2 ^ i-1) e then bA rid draw ops b r ({ st with heap:=match e with | .wr _ h=>h|e=>e.h st.heap }.put o.dst e.v) K else none
  let skip (st:St):Option R:=bA rid draw ops b r (st.put o.dst (.mI [])) K
  match o.guard with
  |none=>run st
  |some (j,want) =>
   match (ops[j]?).bind (·.dst) with
   |none=>none
   |some d =>
    match look st.tmps d with
    |.bool t=>cond t (if want then run (st.put (some d) (.bool true)) else skip (st.put (some d) (.bool true))) (if want then skip (st.put (some d) (.bool false)) else run (st.put (some d) (.bool false)))
    |.mI _=>skip st
    |_=>none
end
mutual
def bB(rid:Nat):AV→AV
 |.ref id s i off=>if id / 32768=rid+1 then .no else .ref id s i off
 |.bF id=>if id / 32768=rid+1 then .no else .bF id
 |.fn f cap=>.fn f (lu rid cap)
 |.agg cs=>.agg (lu rid cs)
 |.mI vs=>.mI (lu rid vs)
 |.no=>.no
 |.bool b=>.bool b
 |.int k n=>.int k n
 |.str s=>.str s
 |.kN=>.kN
 |.fJ=>.fJ
 |.fp k x off=>.fp k x off
 |.sl ex k xs=>.sl ex k xs
 |.mp kk vk es=>.mp kk vk es
def lu(rid:Nat):List AV→List AV
 |[]=>[]
 |v::r=>bB rid v::lu rid r
end
def zg(rid:Nat):Ob→Ob
 |.box ty cs=>.box ty (lu rid cs)
 |.own ok x=>.own ok x
def kH(draw:Bool)(rid:Nat)(ops:Array Oper)(st:St):St :=
 if draw || ops.any (makes ·.op) then
  { tmps:=st.tmps.map fun p=>(p.1,bB rid p.2),heap:=(st.heap.filter fun p=>p.1 / 32768 != rid+1).map fun p=>(p.1,zg rid p.2) }
 else st
section
variable (P:Program) (Eqs:TypeId→Option K) (Sg:FuncId→Option aJ) (F:(f:FuncId)→(g:aJ)→g.A→Option g.B)
variable {R:Type}
noncomputable def g6(n rid:Nat)(ops:Array Oper)(draw:Bool)(st:St)(K:St→Option R):Option R :=
 let b:=if draw then Region.before ops else #[]
 if(ops.all fun o=>gZ n o)&&(!draw || (tO ops b&&(zd ops b&&b4 (ops.toList.filterMap (·.dst)))))&&decide (ops.size≤128) then
  bA P Eqs Sg F rid draw ops b (ops.toList.zipIdx.map fun p=>(p.2,p.1)) (kH draw rid ops st) K
 else none
inductive Src where
 |slot (s:Nat)
 |cap (s j:Nat)
structure Shape where
 xR:List (Nat×K)
 boxes:List (Src×Nat×BK)
 rows:List (Nat×Nat×OK)
 fns:List (Nat×FuncId×List Nat)
def Shape.ks(sh:Shape):List K:=sh.xR.map (·.2)
def Shape.bs(sh:Shape):List BK:=sh.boxes.map (·.2.2)
def II:List OK→Type
 |[]=>Unit
 |k::r=>k.T×II r
abbrev Shape.T(sh:Shape):Type:=Fy sh.ks×vx sh.bs×II (sh.rows.map (·.2.2))
def p7(st:St):(l:List (Nat×K))→Option (Fy (l.map (·.2)))
 |[]=>some ()
 |(s,k)::r =>
  match fF k st.heap (look st.tmps s),p7 st r with
  |some x,some y=>some (x,y)
  |_,_=>none
def Uj(st:St):Src→Option Nat
 |.slot s=>CH (look st.tmps s)
 |.cap s j=>match look st.tmps s with
  |.fn _ cap=>match cap[j]? with
   |some v=>CH v
   |none=>none
  |_=>none
def D3(st:St):List (Src×Nat×BK)→Option (List Nat)
 |[]=>some []
 |p::r=>match Uj st p.1,D3 st r with
  |some i,some is=>some (i::is)
  |_,_=>none
def mM(st:St):(l:List (Nat×Nat×OK))→Option (II (l.map (·.2.2)))
 |[]=>some ()
 |(s,_,ok)::r =>
  match dN st.heap ok (look st.tmps s),mM st r with
  |some x,some y=>some (x,y)
  |_,_=>none
def yg(st:St)(sh:Shape)(ids:List Nat):List AV:=(sh.xR.flatMap fun p=>(look st.tmps p.1).cells)++fL sh.bs st.heap ids
def FA(st:St)(sh:Shape)(ids:List Nat):List Nat:=cV sh.bs st.heap ids++sh.rows.flatMap fun p=>og (look st.tmps p.1)
def nm(st:St)(m:Nat):List (Nat×Nat×OK)→Bool
 |[]=>false
 |(s,id,_)::r=>(id==m&&(match look st.tmps s with | .bF i=>i==m|_=>false)) || nm st m r
def qT(sh:Shape):List Nat:=bW sh.bs (sh.boxes.map (·.2.1)) 9000++sh.rows.map (·.2.1)
def Ks(st:St)(ids:List (Nat×Nat)):List (Nat×FuncId×List Nat)→Bool
 |[]=>true
 |(s,f,Cc)::r =>
  (match look st.tmps s with
  |.fn f' cap=>decide (f'=f)&&(match ju cap with|some is=>decide (is.map (fun i=>(ids.find? (·.1==i)).map (·.2))=Cc.map some)|none=>false)
  |_=>false)&&Ks st ids r
def cy(sh:Shape)(st:St):Option sh.T :=
 match D3 st sh.boxes with
 |none=>none
 |some ids =>
  match p7 st sh.xR,cU sh.bs st.heap ids,mM st sh.rows,vD (FA st sh ids) (yg st sh ids)&&(b4 (qT sh)&&((qT sh).all (fun m=>decide (2000≤m) || ((ids.zip (sh.boxes.map (·.2.1))).any fun p=>p.1==m&&p.2==m) || nm st m sh.rows)&&Ks st (ids.zip (sh.boxes.map (·.2.1))) sh.fns)) with
  |some x,some y,some z,true=>some (x,y,z)
  |_,_,_,_=>none
def qa:(l:List (Nat×K))→Fy (l.map (·.2))→List (Nat×AV)
 |[],_=>[]
 |(s,k)::r,x=>(s,b8 k x.1)::qa r x.2
def jw:List (Src×Nat×BK)→List (Nat×AV)
 |[]=>[]
 |(.slot s,id,_)::r=>(s,.ref id 0 0 0)::jw r
 |(.cap _ _,_,_)::r=>jw r
def yh(l:List (Nat×FuncId×List Nat)):List (Nat×AV):=l.map fun p=>(p.1,.fn p.2.1 (p.2.2.map fun i=>.ref i 0 0 0))
def qb:(l:List (Nat×Nat×OK))→II (l.map (·.2.2))→Heap
 |[],_=>[]
 |(_,id,ok)::r,x=>(id,.own ok x.1)::qb r x.2
def an(sh:Shape)(x:sh.T):St :=
  { tmps:=qa sh.xR x.1++(jw sh.boxes++(yh sh.fns++sh.rows.map fun p=>(p.1,.bF p.2.1))),
    heap:=bu sh.bs (sh.boxes.map (·.2.1)) 9000 x.2.1++qb sh.rows x.2.2 }
def qU:Code→Nat
 |.region id _ _=>id
 |.seq a _=>qU a
 |.block _ a=>qU a
 |.loop a=>qU a
 |.scope a=>qU a
 |_=>0
def NM(s:Nat)(st:St):St:=match look st.tmps s with
 |.bF m=>match st.heap.get m with
  |some (.own (.row _ k) xs)=>{ tmps:=st.tmps.map fun p=>(p.1,xQ m (.sl false k xs) p.2),heap:=st.heap.del m }
  |_=>st
 |_=>st
def FB(o:Option Shape)(st:St):St:=match o with
 |some sh=>sh.rows.foldl (fun st p=>NM p.1 st) st
 |none=>st
noncomputable def az(n:Nat)(ann:Nat→Option Shape)(J:(sh:Shape)→List Item→sh.T→Option R)(ret:St→Option R):Nat→List Item→St→Option R
 |0,_,_=>none
 |_+1,[],st=>ret st
 |m+1,.inBlock _::k,st=>az n ann J ret m k st
 |m+1,.inScope _::k,st=>az n ann J ret m k st
 |_+1,.inLoop c::k,st =>
  match ann (qU c) with
  |none=>none
  |some sh=>match cy sh st with
   |some x=>J sh (.inLoop c::k) x
   |none=>none
 |m+1,.code c::k,st =>
  match c with
  |.skip | .label _=>az n ann J ret m k st
  |.seq a b=>az n ann J ret m (.code a::.code b::k) st
  |.cond c a b=>match ρ st.tmps c with
   |.bool t=>cond t (az n ann J ret m (.code a::k) st) (az n ann J ret m (.code b::k) st)
   |_=>none
  |.block id c=>az n ann J ret m (.code c::.inBlock id::k) st
  |.scope c=>az n ann J ret m (.code c::.inScope c::k) st
  |.loop c=>az n ann J ret m (.inLoop c::k) st
  |.exit id=>match exitTo id k with
   |some k'=>az n ann J ret m k' st
   |none=>none
  |.ret=>ret st
  |.region id ops draw=>g6 P Eqs Sg F n id ops draw (FB (ann (500000+id)) st) fun dX=>az n ann J ret m k dX
  |_=>none
 |_,_,_=>none
def wV(h:Heap)(tmps:List (Nat×AV))(rvs:List ResultVar):Option (List AV) :=
 match rvs with
 |[]=>some []
 |.tmp t::r=>match wV h tmps r with
  |some vs=>some (look tmps t::vs)
  |none=>none
 |.cell a t::r=>match look tmps a with
  |.ref id _ 0 off=>(match h.get id with
   |some (.box _ cs)=>(match dQ P t (cs.drop off),wV h tmps r with
    |some v,some vs=>some (v::vs)
    |_,_=>none)
   |_=>none)
  |_=>none
def qc(g:aJ)(fn:Func)(st:St):Option g.B :=
 match wV P st.heap st.tmps fn.results.toList with
 |none=>none
 |some vs =>
  match bG g.bs g.rs st.heap (aM g.bs.length) vs,cU g.bs st.heap (aM g.bs.length),
   vD (cV g.bs st.heap (aM g.bs.length)++dH g.rs vs) (fM g.rs vs++fL g.bs st.heap (aM g.bs.length))&&b4 (pT g) with
  |some x,some y,true=>some (x,y)
  |_,_,_=>none
def entry(g:aJ)(x:g.A):St :=
 { tmps:=aO g.ps (aM g.bs.length) 0 x.1,heap:=bu g.bs (aM g.bs.length) 2000 x.2 }
def fuel:Nat:=100000
end
section
variable (P:Program) (Eqs:TypeId→Option K) (Sg:FuncId→Option aJ) (An:FuncId→Nat→Option Shape) (G:(f:FuncId)→(g:aJ)→Option (g.A→Option g.B))
variable (F:(f:FuncId)→(g:aJ)→g.A→Option g.B)
def body(f:FuncId):Option (Func×Code):=(P.funcs[f]?).bind fun fn=>fn.body.map fun c=>(fn,c)
noncomputable def mf(f:FuncId)(g:aJ)(fn:Func):Nat→(sh:Shape)→List Item→sh.T→Option g.B
 |0,_,_,_=>none
 |n+1,sh,.inLoop c::k,x=>az P Eqs Sg F fn.ntmps (An f) (mf f g fn n) (qc P g fn) fuel (.code c::.inLoop c::k) (an sh x)
 |_+1,_,_,_=>none
noncomputable def IJ(f:FuncId)(g:aJ)(n:Nat)(x:g.A):Option g.B :=
 match body P (f%1000) with
 |none=>none
 |some (fn,c)=>if decide (g.ps.length≤fn.ntmps)&&decide (g.bs.length≤8) then az P Eqs Sg F fn.ntmps (An f) (mf P Eqs Sg An F f g fn n) (qc P g fn) fuel [.code c] (entry g x) else none
end
section
variable (P:Program) (Eqs:TypeId→Option K) (Sg:FuncId→Option aJ) (An:FuncId→Nat→Option Shape) (G:(f:FuncId)→(g:aJ)→Option (g.A→Option g.B))
noncomputable def Fn:Nat→(f:FuncId)→(g:aJ)→g.A→Option g.B
 |0,f,g,x=>match G f g with
  |some u=>u x
  |none=>none
 |m+1,f,g,x=>match G f g with
  |some u=>u x
  |none=>IJ P Eqs Sg An (Fn m) f g m x
end
end Go.Vs
namespace Go.Vs
def qd:Code→List Item→List (List Item)
 |.seq a b,k=>qd a (.code b::k)++qd b k
 |.cond _ a b,k=>qd a k++qd b k
 |.block id c,k=>qd c (.inBlock id::k)
 |.scope c,k=>qd c (.inScope c::k)
 |.loop c,k=>(.inLoop c::k)::qd c (.inLoop c::k)
 |_,_=>[]
def aN(P:Program)(f:FuncId)(j:Nat):List Item :=
 match body P f with
 |some (_,c)=>(qd c []).getD j []
 |none=>[]
def round:List Item→List Item
 |.inLoop c::k=>.code c::.inLoop c::k
 |k=>k
end Go.Vs
namespace Go.Vs
theorem tT(a:Addr)(n m:Nat):(a.add n).add m=a.add (n+m):=by
 unfold Addr.add
 by_cases h1:n=0<;>by_cases h2:m=0<;>simp[h1,h2,Nat.add_assoc]
theorem CI(a:Addr):a.add 0=a:=by simp[Addr.add]
theorem ct(a:Addr)(n:Nat):(a.add n).block=a.block:=by unfold Addr.add;split<;>rfl
theorem cg(g i n:Nat):(⟨g,i,none⟩:Addr).add n=⟨g,i+n,none⟩:=by unfold Addr.add;split<;>simp_all
def cp(Z:Nat→Prop)(w w':World):Prop:=∀b,Z b→w'.heap[b]? = w.heap[b]?
theorem cp.refl(Z:Nat→Prop)(w:World):cp Z w w:=fun _ _=>rfl
theorem cp.trans{Z:Nat→Prop}{w w1 w2:World}(h:cp Z w w1)(k:cp Z w1 w2):cp Z w w2:=fun b hb=>(k b hb).trans (h b hb)
theorem cp.cell{Z:Nat→Prop}{w w':World}(h:cp Z w w'){a:Addr}(ha:Z a.block):w'.cell? a=w.cell? a:=World.cell?_of_block (h _ ha)
def ac5{α:Type}(r:α→List Value→Prop)(Z:Nat→Prop)(sz:Nat)(w:World)(xs:List α)(v:Value):Prop :=
 ∃A c,v=.slice A xs.length c∧xs.length≤c∧(A=none→c=0) ∧
  ∀(i:Nat) (x:α),xs[i]? = some x→∃a us,A=some a∧Z a.block∧r x us∧∀(j:Nat) u,us[j]? = some u→w.cell? (a.add (i*sz+j))=some u
def D4{α β:Type}(ra:α→List Value→Prop)(rb:β→List Value→Prop)(pa pb:Bool)(es:List (α×β))(bT:List MapEntry):Prop :=
 es.length=bT.length∧∀(i:Nat) (x:α×β) (e:MapEntry),es[i]? = some x→bT[i]? = some e →
  (ra x.1 e.key.cells.toList∧(pa=true→∃vs,e.key=.agg vs)∧(pa=false→e.key.cells=#[e.key]))∧rb x.2 e.val.cells.toList∧(pb=true→∃vs,e.val=.agg vs)∧(pb=false→e.val.cells=#[e.val])
def aD(Z:Nat→Prop)(w:World):(k:K)→k.T→List Value→Prop
 |.int ik,n,vs=>vs=[.int ik n]
 |.bool,b,vs=>vs=[.bool b]
 |.str,s,vs=>vs=[.string s]
 |.sl k,xs,vs=>∃v,vs=[v]∧ac5 (aD Z w k) Z k.sz w xs v
 |.pair a b,x,vs=>∃us ws,vs=us++ws∧aD Z w a x.1 us∧aD Z w b x.2 ws
 |.one k,x,vs=>aD Z w k x vs
 |.mp kk vk,es,vs=>∃A,vs=[.map A]∧((A=none∧es=[])∨∃m bT clock,A=some m∧Z m∧w.heap[m]? = some (.map bT clock)∧D4 (aD Z w kk) (aD Z w vk) kk.isAgg vk.isAgg es bT.toList)
variable {Z Z':Nat→Prop} {w w':World}
theorem aD.len:∀{k:K} {x:k.T} {vs:List Value},aD Z w k x vs→vs.length=k.sz
 |.int _,_,_,h=>by simp only[aD]at h;subst h;rfl
 |.bool,_,_,h=>by simp only[aD]at h;subst h;rfl
 |.str,_,_,h=>by simp only[aD]at h;subst h;rfl
 |.sl _,_,_,h=>by simp only[aD]at h;obtain⟨v,rfl,_⟩:=h;rfl
 |.pair a b,x,_,h=>by
  simp only[aD]at h
  obtain⟨us,ws,rfl,h1,h2⟩:=h
  rw[List.length_append,aD.len h1,aD.len h2];rfl
 |.one k,x,_,h=>by
  simp only[aD]at h
  exact aD.len (k:=k) h
 |.mp _ _,_,_,h=>by simp only[aD]at h;obtain⟨A,rfl,_⟩:=h;rfl
theorem K.g8:∀k:K,0<k.sz
 |.int _=>Nat.one_pos
 |.bool=>Nat.one_pos
 |.str=>Nat.one_pos
 |.sl _=>Nat.one_pos
 |.pair a _=>Nat.lt_of_lt_of_le (K.g8 a) (Nat.le_add_right _ _)
 |.one k=>K.g8 k
 |.mp _ _=>Nat.one_pos
theorem aD.one:∀{k:K} {x:k.T} {vs:List Value},aD Z w k x vs→∀u∈vs,u.oneCell'=true
 |.int _,_,_,h=>by simp only[aD]at h;subst h;simp[Value.oneCell']
 |.bool,_,_,h=>by simp only[aD]at h;subst h;simp[Value.oneCell']
 |.str,_,_,h=>by simp only[aD]at h;subst h;simp[Value.oneCell']
 |.sl _,_,_,h=>by simp only[aD]at h;obtain⟨v,rfl,A,c,rfl,_⟩:=h;simp[Value.oneCell']
 |.pair a b,x,_,h=>by
  simp only[aD]at h
  obtain⟨us,ws,rfl,h1,h2⟩:=h
  intro u hu
  rcases List.mem_append.1 hu with hu|hu
  ·exact aD.one h1 u hu
  ·exact aD.one h2 u hu
 |.one k,x,_,h=>by
  simp only[aD]at h
  exact aD.one (k:=k) h
 |.mp _ _,_,_,h=>by simp only[aD]at h;obtain⟨A,rfl,_⟩:=h;simp[Value.oneCell']
theorem D4.imp{α β:Type}{ra ra':α→List Value→Prop}{rb rb':β→List Value→Prop}{pa pb:Bool}(ha:∀x vs,ra x vs→ra' x vs)(hb:∀x vs,rb x vs→rb' x vs){es:List (α×β)}{bT:List MapEntry}(h:D4 ra rb pa pb es bT):D4 ra' rb' pa pb es bT :=
 ⟨h.1,fun i x e h1 h2=>by obtain⟨⟨a,b⟩,c,d⟩:=h.2 i x e h1 h2;exact⟨⟨ha _ _ a,b⟩,hb _ _ c,d⟩⟩
theorem aD.mono(hz:∀b,Z b→Z' b)(hs:cp Z w w'):∀{k:K} {x:k.T} {vs:List Value},aD Z w k x vs→aD Z' w' k x vs
 |.int _,_,_,h=>h
 |.bool,_,_,h=>h
 |.str,_,_,h=>h
 |.sl k,xs,_,h=>by
  simp only[aD]at h ⊢
  obtain⟨v,rfl,A,c,rfl,hl,hn,he⟩:=h
  refine⟨_,rfl,A,c,rfl,hl,hn,fun i x hx=>?_⟩
  obtain⟨a,us,ha,X6,hr,hc⟩:=he i x hx
  refine⟨a,us,ha,hz _ X6,aD.mono hz hs hr,fun j u hu=>?_⟩
  rw[hs.cell (by rw[ct];exact X6)]
  exact hc j u hu
 |.pair a b,x,_,h=>by
  simp only[aD]at h ⊢
  obtain⟨us,ws,rfl,h1,h2⟩:=h
  exact⟨us,ws,rfl,aD.mono hz hs h1,aD.mono hz hs h2⟩
 |.one k,x,_,h=>by
  simp only[aD]at h ⊢
  exact aD.mono hz hs (k:=k) h
 |.mp kk vk,es,_,h=>by
  simp only[aD]at h ⊢
  obtain⟨A,rfl,h⟩:=h
  refine⟨A,rfl,h.imp (fun h=>h) fun⟨m,bT,clock,h1,h2,h3,h4⟩=>⟨m,bT,clock,h1,hz _ h2,(hs m h2).trans h3,h4.imp (fun _ _ h=>aD.mono hz hs h) (fun _ _ h=>aD.mono hz hs h)⟩⟩
def Sj:Value→Nat
 |.pointer (some a)=>a.block
 |.slice (some a) _ _=>a.block
 |_=>0
def ob:Value→Option Nat
 |.pointer (some a)=>some a.block
 |.slice (some a) _ c=>if c=0 then none else some a.block
 |.map (some m)=>some m
 |_=>none
mutual
def av(Z:Nat→Prop)(ψ:Nat→Value)(h:Nat→Option Ob)(w:World):AV→Value→Prop
 |.no,_=>True
 |.bool b,v=>v=.bool b
 |.int k n,v=>v=.int k n
 |.str s,v=>v=.string s
 |.kN,v=>v=.pointer none
 |.fJ,v=>v=.slice none 0 0
 |.ref id s i off,v=>∃a,v=.pointer (some a)∧(h id≠none→a=⟨Sj (ψ id),i*s+off,none⟩)
 |.fp k x off,v=>∃a us,v=.pointer (some a)∧Z a.block∧aD Z w k x us∧∀(j:Nat) u,us[off+j]? = some u→w.cell? (a.add j)=some u
 |.sl ex k xs,v=>aD Z w (.sl k) xs [v]∧(ex=true→∃A c,v=.slice A c c)
 |.mp kk vk es,v=>aD Z w (.mp kk vk) es [v]
 |.bF id,v=>(v.cells=#[v]∧v.oneCell'=true)∧(h id≠none→v=ψ id)
 |.fn f cap,v=>∃vs,v=.func (.func f) #[] vs∧ak Z ψ h w cap vs.toList
 |.agg cs,v=>∃vs,v=.agg vs∧ak Z ψ h w cs vs.toList
 |.mI cs,v=>∃vs,v=.tuple vs∧ak Z ψ h w cs vs.toList
def ak(Z:Nat→Prop)(ψ:Nat→Value)(h:Nat→Option Ob)(w:World):List AV→List Value→Prop
 |[],vs=>vs=[]
 |a::r,vs=>∃v us,vs=v::us∧av Z ψ h w a v∧ak Z ψ h w r us
end
mutual
def aE(p:Nat→Prop):AV→Prop
 |.ref id _ _ _=>p id
 |.bF id=>p id
 |.fn _ cap=>ax p cap
 |.agg cs=>ax p cs
 |.mI vs=>ax p vs
 |.no=>True
 |.bool _=>True
 |.int _ _=>True
 |.str _=>True
 |.kN=>True
 |.fJ=>True
 |.fp _ _ _=>True
 |.sl _ _ _=>True
 |.mp _ _ _=>True
def ax(p:Nat→Prop):List AV→Prop
 |[]=>True
 |v::r=>aE p v∧ax p r
end
section
variable {Z Z':Nat→Prop} {w w':World} {ψ ψ':Nat→Value} {h h':Nat→Option Ob} {p:Nat→Prop}
mutual
theorem av.move(hz:∀b,Z b→Z' b)(hs:cp Z w w')(hh:∀id,p id→h' id≠none→h id≠none∧ψ' id=ψ id):∀{a:AV} {v:Value},aE p a→av Z ψ h w a v→av Z' ψ' h' w' a v
 |.no,_,_,_=>by simp only[av]
 |.bool b,_,_,hr=>by simpa only[av] using hr
 |.int k n,_,_,hr=>by simpa only[av] using hr
 |.str s,_,_,hr=>by simpa only[av] using hr
 |.kN,_,_,hr=>by simpa only[av] using hr
 |.fJ,_,_,hr=>by simpa only[av] using hr
 |.ref id s i off,_,hm,hr=>by
  simp only[av,aE]at hr hm ⊢
  obtain⟨a,rfl,ha⟩:=hr
  refine⟨a,rfl,fun hn=>?_⟩
  obtain⟨h1,h2⟩:=hh id hm hn
  rw[h2];exact ha h1
 |.fp k x off,_,_,hr=>by
  simp only[av]at hr ⊢
  obtain⟨a,us,rfl,X6,hk,hc⟩:=hr
  refine⟨a,us,rfl,hz _ X6,hk.mono hz hs,fun j u hu=>?_⟩
  rw[hs.cell (by rw[ct];exact X6)]
  exact hc j u hu
 |.sl ex k xs,_,_,hr=>by
  simp only[av]at hr ⊢
  exact⟨aD.mono hz hs hr.1,hr.2⟩
 |.mp kk vk es,_,_,hr=>by
  simp only[av]at hr ⊢
  exact aD.mono hz hs hr
 |.bF id,_,hm,hr=>by
  simp only[av,aE]at hr hm ⊢
  refine⟨hr.1,fun hn=>?_⟩
  obtain⟨h1,h2⟩:=hh id hm hn
  rw[h2];exact hr.2 h1
 |.fn f cap,_,hm,hr=>by
  simp only[av,aE]at hr hm ⊢
  obtain⟨vs,rfl,hl⟩:=hr
  exact⟨vs,rfl,ak.move hz hs hh hm hl⟩
 |.agg cs,_,hm,hr=>by
  simp only[av,aE]at hr hm ⊢
  obtain⟨vs,rfl,hl⟩:=hr
  exact⟨vs,rfl,ak.move hz hs hh hm hl⟩
 |.mI cs,_,hm,hr=>by
  simp only[av,aE]at hr hm ⊢
  obtain⟨vs,rfl,hl⟩:=hr
  exact⟨vs,rfl,ak.move hz hs hh hm hl⟩
theorem ak.move(hz:∀b,Z b→Z' b)(hs:cp Z w w')(hh:∀id,p id→h' id≠none→h id≠none∧ψ' id=ψ id):∀{a:List AV} {v:List Value},ax p a→ak Z ψ h w a v→ak Z' ψ' h' w' a v
 |[],_,_,hr=>by simpa only[ak] using hr
 |a::r,_,hm,hr=>by
  simp only[ak,ax]at hr hm ⊢
  obtain⟨v,us,rfl,h1,h2⟩:=hr
  exact⟨v,us,rfl,av.move hz hs hh hm.1 h1,ak.move hz hs hh hm.2 h2⟩
end
mutual
theorem aE.top:∀a:AV,aE (fun _=>True) a
 |.no=>by simp only[aE]
 |.bool b=>by simp only[aE]
 |.int k n=>by simp only[aE]
 |.str s=>by simp only[aE]
 |.kN=>by simp only[aE]
 |.fJ=>by simp only[aE]
 |.ref id s i off=>by simp only[aE]
 |.fp k x off=>by simp only[aE]
 |.sl ex k xs=>by simp only[aE]
 |.mp kk vk es=>by simp only[aE]
 |.bF id=>by simp only[aE]
 |.fn f cap=>by simp only[aE];exact ax.top cap
 |.agg cs=>by simp only[aE];exact ax.top cs
 |.mI cs=>by simp only[aE];exact ax.top cs
theorem ax.top:∀a:List AV,ax (fun _=>True) a
 |[]=>by simp only[ax]
 |a::r=>by simp only[ax];exact⟨aE.top a,ax.top r⟩
end
theorem av.less(hz:∀b,Z b→Z' b)(hs:cp Z w w')(hh:∀id,h' id≠none→h id≠none∧ψ' id=ψ id){a:AV}{v:Value}(hr:av Z ψ h w a v):av Z' ψ' h' w' a v :=
 av.move (p:=fun _=>True) hz hs (fun id _ hn=>hh id hn) (aE.top a) hr
theorem ak.less(hz:∀b,Z b→Z' b)(hs:cp Z w w')(hh:∀id,h' id≠none→h id≠none∧ψ' id=ψ id){a:List AV}{v:List Value}(hr:ak Z ψ h w a v):ak Z' ψ' h' w' a v :=
 ak.move (p:=fun _=>True) hz hs (fun id _ hn=>hh id hn) (ax.top a) hr
theorem ak.length:∀{a:List AV} {v:List Value},ak Z ψ h w a v→a.length=v.length
 |[],_,hr=>by simp only[ak]at hr;subst hr;rfl
 |a::r,_,hr=>by
  simp only[ak]at hr
  obtain⟨v,us,rfl,_,h2⟩:=hr
  simp[ak.length h2]
theorem ak.get:∀{a:List AV} {v:List Value} (i:Nat) {x:AV},ak Z ψ h w a v→a[i]? = some x→∃u,v[i]? = some u∧av Z ψ h w x u
 |[],_,i,x,_,hx=>by simp at hx
 |a::r,_,0,x,hr,hx=>by
  simp only[ak]at hr
  obtain⟨v,us,rfl,h1,h2⟩:=hr
  simp only[List.getElem?_cons_zero,Option.some.injEq]at hx;subst hx
  exact⟨v,rfl,h1⟩
 |a::r,_,i+1,x,hr,hx=>by
  simp only[ak]at hr
  obtain⟨v,us,rfl,h1,h2⟩:=hr
  obtain⟨u,hu,hr⟩:=ak.get i h2 (by simpa using hx)
  exact⟨u,by simpa using hu,hr⟩
theorem ak.append:∀{a b:List AV} {v u:List Value},ak Z ψ h w a v→ak Z ψ h w b u→ak Z ψ h w (a++b) (v++u)
 |[],b,_,u,hr,hb=>by simp only[ak]at hr;subst hr;exact hb
 |a::r,b,_,u,hr,hb=>by
  simp only[ak]at hr
  obtain⟨v,us,rfl,h1,h2⟩:=hr
  simp only[List.cons_append,ak]
  exact⟨v,us++u,rfl,h1,ak.append h2 hb⟩
theorem ak.split:∀{a b:List AV} {v:List Value},ak Z ψ h w (a++b) v→∃us ws,v=us++ws∧ak Z ψ h w a us∧ak Z ψ h w b ws
 |[],b,v,hr=>⟨[],v,rfl,by simp only[ak],hr⟩
 |a::r,b,v,hr=>by
  simp only[List.cons_append,ak]at hr
  obtain⟨x,us,rfl,h1,h2⟩:=hr
  obtain⟨iF,ws,rfl,h3,h4⟩:=ak.split h2
  exact⟨x::iF,ws,rfl,by simp only[ak];exact⟨x,iF,rfl,h1,h3⟩,h4⟩
theorem ak.drop(n:Nat){a:List AV}{v:List Value}(hr:ak Z ψ h w a v):ak Z ψ h w (a.drop n) (v.drop n):=by
 by_cases hn:n≤a.length
 ·have qV:ak Z ψ h w (a.take n++a.drop n) v:=by rw[List.take_append_drop];exact hr
  obtain⟨us,ws,rfl,h1,h2⟩:=ak.split qV
  have hl:=h1.length
  rw[List.length_take,Nat.min_eq_left hn]at hl
  rw[hl,List.drop_left];rw[←hl];exact h2
 ·have:=hr.length
  rw[List.drop_eq_nil_of_le (by omega),List.drop_eq_nil_of_le (by omega)];simp only[ak]
theorem ak.take(n:Nat){a:List AV}{v:List Value}(hr:ak Z ψ h w a v):ak Z ψ h w (a.take n) (v.take n):=by
 by_cases hn:n≤a.length
 ·have qV:ak Z ψ h w (a.take n++a.drop n) v:=by rw[List.take_append_drop];exact hr
  obtain⟨us,ws,rfl,h1,h2⟩:=ak.split qV
  have hl:=h1.length
  rw[List.length_take,Nat.min_eq_left hn]at hl
  conv=>rhs;rw[hl,List.take_left]
  exact h1
 ·have:=hr.length
  rw[List.take_of_length_le (by omega),List.take_of_length_le (by omega)];exact hr
theorem ak.set:∀{a:List AV} {v:List Value} (i:Nat) {x:AV} {u:Value},ak Z ψ h w a v→av Z ψ h w x u→ak Z ψ h w (a.set i x) (v.set i u)
 |[],_,i,x,u,hr,_=>by simp only[ak]at hr;subst hr;simp only[List.set_nil,ak]
 |a::r,_,0,x,u,hr,hx=>by
  simp only[ak]at hr
  obtain⟨v,us,rfl,h1,h2⟩:=hr
  simp only[List.set_cons_zero,ak];exact⟨u,us,rfl,hx,h2⟩
 |a::r,_,i+1,x,u,hr,hx=>by
  simp only[ak]at hr
  obtain⟨v,us,rfl,h1,h2⟩:=hr
  simp only[List.set_cons_succ,ak];exact⟨v,_,rfl,h1,ak.set i h2 hx⟩
theorem fZ:∀{k:K} {x:k.T} {vs:List Value},aD Z w k x vs→ak Z ψ h w (enc k x) vs
 |.int _,_,_,hr=>by simp only[aD]at hr;subst hr;simp[enc,ak,av]
 |.bool,_,_,hr=>by simp only[aD]at hr;subst hr;simp[enc,ak,av]
 |.str,_,_,hr=>by simp only[aD]at hr;subst hr;simp[enc,ak,av]
 |.sl k,xs,_,hr=>by
  have qV:=hr
  simp only[aD]at qV
  obtain⟨v,rfl,_⟩:=qV
  simp only[enc,ak,av]
  exact⟨v,[],rfl,⟨hr,by simp⟩,rfl⟩
 |.pair a b,x,_,hr=>by
  simp only[aD]at hr
  obtain⟨us,ws,rfl,h1,h2⟩:=hr
  simp only[enc]
  exact ak.append (fZ h1) (fZ h2)
 |.one k,x,_,hr=>by
  simp only[aD]at hr
  simp only[enc]
  exact fZ (k:=k) hr
 |.mp kk vk,es,_,hr=>by
  have qV:=hr
  simp only[aD]at qV
  obtain⟨A,rfl,_⟩:=qV
  simp only[enc,ak,av]
  exact⟨_,[],rfl,hr,rfl⟩
theorem NO{k:K}{v:Value}(hr:av Z ψ h w .fJ v):aD Z w (.sl k) [] [v]:=by
 simp only[av]at hr
 subst hr
 simp only[aD]
 exact⟨_,rfl,none,0,rfl,Nat.le_refl _,fun _=>rfl,fun i x hx=>by simp at hx⟩
theorem yi:∀{k:K} {cs:List AV} {x:k.T} {r:List AV} {vs:List Value},dec k cs=some (x,r)→ak Z ψ h w cs vs→∃us ws,vs=us++ws∧aD Z w k x us∧ak Z ψ h w r ws
 |.int ik,cs,x,r,vs,hd,hr=>by
  simp only[dec]at hd
  unfold DY at hd
  split at hd
  ·split at hd
   ·rename_i he
    subst he
    cases hd
    simp only[ak,av]at hr
    obtain⟨v,us,rfl,rfl,h2⟩:=hr
    exact⟨[_],us,rfl,by simp only[aD],h2⟩
   ·cases hd
  ·cases hd
 |.bool,cs,x,r,vs,hd,hr=>by
  simp only[dec]at hd
  unfold yf at hd
  split at hd
  ·cases hd
   simp only[ak,av]at hr
   obtain⟨v,us,rfl,rfl,h2⟩:=hr
   exact⟨[_],us,rfl,by simp only[aD],h2⟩
  ·cases hd
 |.str,cs,x,r,vs,hd,hr=>by
  simp only[dec]at hd
  unfold DZ at hd
  split at hd
  ·cases hd
   simp only[ak,av]at hr
   obtain⟨v,us,rfl,rfl,h2⟩:=hr
   exact⟨[_],us,rfl,by simp only[aD],h2⟩
  ·cases hd
 |.sl k,cs,x,r,vs,hd,hr=>by
  simp only[dec]at hd
  unfold Kn at hd
  split at hd
  ·split at hd
   ·rename_i he
    subst he
    cases hd
    simp only[ak]at hr
    obtain⟨v,us,rfl,h1,h2⟩:=hr
    simp only[av]at h1
    exact⟨[_],us,rfl,h1.1,h2⟩
   ·cases hd
  ·cases hd
   simp only[ak]at hr
   obtain⟨v,us,rfl,h1,h2⟩:=hr
   exact⟨[_],us,rfl,NO h1,h2⟩
  ·cases hd
 |.pair a b,cs,x,r,vs,hd,hr=>by
  simp only[dec]at hd
  split at hd
  ·rename_i x1 r1 h1
   split at hd
   ·rename_i y1 r2 h2
    cases hd
    obtain⟨us,ws,rfl,k1,k2⟩:=yi h1 hr
    obtain⟨iF,ws',rfl,k3,k4⟩:=yi h2 k2
    exact⟨us++iF,ws',by rw[List.append_assoc],by simp only[aD];exact⟨us,iF,rfl,k1,k3⟩,k4⟩
   ·cases hd
  ·cases hd
 |.one k,cs,x,r,vs,hd,hr=>by
  simp only[dec]at hd
  obtain⟨us,ws,e,k1,k2⟩:=yi (k:=k) hd hr
  exact⟨us,ws,e,by simp only[aD];exact k1,k2⟩
 |.mp kk vk,cs,x,r,vs,hd,hr=>by
  simp only[dec]at hd
  unfold Ko at hd
  split at hd
  ·split at hd
   ·rename_i he
    obtain⟨rfl,rfl⟩:=he
    cases hd
    simp only[ak]at hr
    obtain⟨v,us,rfl,h1,h2⟩:=hr
    simp only[av]at h1
    exact⟨[_],us,rfl,h1,h2⟩
   ·cases hd
  ·cases hd
theorem dC{k:K}{cs:List AV}{x:k.T}{vs:List Value}(hd:dB k cs=some x)(hr:ak Z ψ h w cs vs):aD Z w k x vs:=by
 unfold dB at hd
 split at hd
 ·rename_i x' h1
  cases hd
  obtain⟨us,ws,rfl,k1,k2⟩:=yi h1 hr
  simp only[ak]at k2
  subst k2
  rw[List.append_nil];exact k1
 ·cases hd
theorem lx{k:K}{x:k.T}{v:Value}(hr:aD Z w k x v.cells.toList)(hp:k.isAgg=true→∃vs,v=.agg vs)(hn:k.isAgg=false→v.cells=#[v]):av Z ψ h w (b8 k x) v:=by
 cases k with
 |int ik=>rw[hn rfl]at hr;simp only[aD]at hr;simp only[b8,av];simpa using hr
 |bool=>rw[hn rfl]at hr;simp only[aD]at hr;simp only[b8,av];simpa using hr
 |str=>rw[hn rfl]at hr;simp only[aD]at hr;simp only[b8,av];simpa using hr
 |sl k=>rw[hn rfl]at hr;simp only[b8,av];exact⟨hr,by simp⟩
 |mp kk vk=>rw[hn rfl]at hr;simp only[b8,av];exact hr
 |pair a b =>
  obtain⟨vs,rfl⟩:=hp rfl
  simp only[b8,av]
  exact⟨vs,rfl,fZ hr⟩
 |one k =>
  obtain⟨vs,rfl⟩:=hp rfl
  simp only[b8,av]
  exact⟨vs,rfl,fZ hr⟩
end
end Go.Vs
namespace Go.Vs
theorem Heap.g9{n m:Nat}(bq:m≠n):∀h:Heap,(h.del n).get m=h.get m
 |[]=>rfl
 |(i,o)::r=>by
  simp only[Heap.del]
  split
  ·rename_i hi
   rw[Heap.g9 bq r]
   simp only[Heap.get]
   rw[if_neg (by omega)]
  ·simp only[Heap.get]
   split
   ·rfl
   ·exact Heap.g9 bq r
theorem Heap.gh(n:Nat):∀h:Heap,(h.del n).get n=none
 |[]=>rfl
 |(i,o)::r=>by
  simp only[Heap.del]
  split
  ·exact Heap.gh n r
  ·rename_i hi
   simp only[Heap.get]
   rw[if_neg hi];exact Heap.gh n r
theorem Heap.D5(h:Heap)(n:Nat)(o:Ob):(h.set n o).get n=some o:=by simp[Heap.set,Heap.get]
theorem Heap.IK{n m:Nat}(bq:m≠n)(h:Heap)(o:Ob):(h.set n o).get m=h.get m:=by
 simp only[Heap.set,Heap.get]
 rw[if_neg (by omega)]
 exact Heap.g9 bq h
theorem Heap.tU{n m:Nat}{h:Heap}{o:Ob}(hg:(h.del n).get m=some o):h.get m=some o∧m≠n:=by
 by_cases bq:m=n
 ·subst bq;rw[Heap.gh]at hg;cases hg
 ·rw[Heap.g9 bq]at hg;exact⟨hg,bq⟩
theorem Heap.get_append(a b:Heap)(n:Nat):(a++b).get n=(match a.get n with|some o=>some o|none=>b.get n):=by
 induction a with
 |nil=>rfl
 |cons p r ih =>
  obtain⟨i,o⟩:=p
  simp only[List.cons_append,Heap.get]
  split
  ·rfl
  ·exact ih
def mN(Z:Nat→Prop)(w:World)(k:K)(xs:List k.T)(vs:List Value):Prop :=
 ∀(i:Nat) (x:k.T),xs[i]? = some x→aD Z w k x ((vs.drop (i*k.sz)).take k.sz)
abbrev Hp:=Nat→Option Ob
def dx(w:World)(e:TypeId)(size:Nat)(v:Value)(n:Nat)(vs:List Value):Prop :=
  vs.length=n*size ∧
  ((n=0∧∃A,v=.slice A 0 0) ∨
   ∃g cap cur,v=.slice (some ⟨g,0,none⟩) n cap∧0<cap∧w.heap[g]? = some (.cells cur e (0,0))∧n≤cap∧cap≤maxLen∧cur.size=cap*size∧cur.toList.take (n*size)=vs)
theorem dx.of{w:World}{base e size n:Nat}{v:Value}{vs:List Value}(h:w.ownsRow base e size v n vs):dx w e size v n vs:=by
 obtain⟨h1,h2⟩:=h
 refine⟨h1,?_⟩
 rcases h2 with⟨rfl,h2⟩|⟨g,cap,cur,rfl,_,h3,h4,h5,h6,h7⟩
 ·exact .inl ⟨h2,none,rfl⟩
 ·by_cases hc:cap=0
  ·subst hc
   have:n=0:=by omega
   subst this
   exact .inl ⟨rfl,_,rfl⟩
  ·exact .inr ⟨g,cap,cur,rfl,by omega,h3,h4,h5,h6,h7⟩
theorem dx.slice{w:World}{e size n:Nat}{v:Value}{vs:List Value}(h:dx w e size v n vs):∃A c,v=.slice A n c:=by
 rcases h.2 with⟨h0,A,rfl⟩|⟨g,cap,cur,rfl,_⟩
 ·subst h0;exact⟨A,0,rfl⟩
 ·exact⟨_,_,rfl⟩
theorem dx.one{w:World}{e size n:Nat}{v:Value}{vs:List Value}(h:dx w e size v n vs):v.cells=#[v]∧v.oneCell'=true:=by
 obtain⟨A,c,rfl⟩:=h.slice
 exact⟨rfl,by simp[Value.oneCell']⟩
theorem dx.kept{w w':World}{e size n:Nat}{v:Value}{vs:List Value}(ho:dx w e size v n vs)(hk:∀g,ob v=some g→w'.heap[g]? = w.heap[g]?):dx w' e size v n vs:=by
 obtain⟨h1,h2⟩:=ho
 refine⟨h1,?_⟩
 rcases h2 with h2|⟨g,cap,cur,rfl,hc,hh,r⟩
 ·exact .inl h2
 ·exact .inr ⟨g,cap,cur,rfl,hc,(hk g (by simp only[ob];rw[if_neg (by omega)])).trans hh,r⟩
def jq(Z:Nat→Prop)(w:World):(ok:OK)→Value→ok.T→Prop
 |.row ty k,v,xs=>∃vs,dx w ty k.sz v xs.length vs∧mN Z w k xs vs
 |.map kk vk,v,es=>∃m bT clock,v=.map (some m)∧w.heap[m]? = some (.map bT clock)∧D4 (aD Z w kk) (aD Z w vk) kk.isAgg vk.isAgg es bT.toList∧bT.toList.Pairwise (fun a b=>a.born≠b.born)∧∀e∈bT.toList,e.born<clock
 |.iter kk vk,v,x=>∃r m since seen bT clock,v=.pointer (some ⟨r,0,none⟩)∧w.heap[r]? = some (.mapIter (some m) since seen clock)∧Z m∧w.heap[m]? = some (.map bT clock) ∧
   bT.toList.Pairwise (fun a b=>a.born≠b.born)∧since=clock∧(∀e∈bT.toList,e.born<clock)∧D4 (aD Z w kk) (aD Z w vk) kk.isAgg vk.isAgg x.2 (bT.toList.filter fun e => !seen.contains e.born) ∧
   (match x.1 with|none=>True|some c=>∃e∈bT.toList,seen.back? = some e.born∧D4 (aD Z w kk) (aD Z w vk) kk.isAgg vk.isAgg [c] [e])
 |.nc,v,x=>∃r,v=.pointer (some ⟨r,0,none⟩)∧w.heap[r]? = some (.stringIter x.1 x.2)
theorem jq.lt{Z:Nat→Prop}{w:World}:∀{ok:OK} {v:Value} {x:ok.T} {b:Nat},jq Z w ok v x→ob v=some b→b<w.heap.size
 |.row ty k,v,xs,b,h,hb=>by
  obtain⟨vs,⟨_,h⟩,_⟩:=h
  rcases h with⟨_,A,rfl⟩|⟨g,cap,cur,rfl,hc,h2,_⟩
  ·cases A<;>simp[ob]at hb
  ·simp only[ob]at hb
   rw[if_neg (by omega)]at hb
   cases hb
   exact(Array.getElem?_eq_some_iff.1 h2).1
 |.map _ _,v,_,b,h,hb=>by
  obtain⟨m,bT,clock,rfl,h2,_⟩:=h
  simp only[ob,Option.some.injEq]at hb;subst hb
  exact(Array.getElem?_eq_some_iff.1 h2).1
 |.iter _ _,v,_,b,h,hb=>by
  obtain⟨r,m,since,seen,bT,clock,rfl,h2,_⟩:=h
  simp only[ob,Option.some.injEq]at hb;subst hb
  exact(Array.getElem?_eq_some_iff.1 h2).1
 |.nc,v,_,b,h,hb=>by
  obtain⟨r,rfl,h2⟩:=h
  simp only[ob,Option.some.injEq]at hb;subst hb
  exact(Array.getElem?_eq_some_iff.1 h2).1
theorem jq.one{Z:Nat→Prop}{w:World}:∀{ok:OK} {v:Value} {x:ok.T},jq Z w ok v x→v.cells=#[v]∧v.oneCell'=true
 |.row ty k,v,xs,h=>by
  obtain⟨vs,h,_⟩:=h
  obtain⟨A,c,rfl⟩:=h.slice
  exact⟨rfl,by simp[Value.oneCell']⟩
 |.map _ _,v,_,h=>by obtain⟨m,bT,clock,rfl,_⟩:=h;exact⟨rfl,by simp[Value.oneCell']⟩
 |.iter _ _,v,_,h=>by obtain⟨r,m,since,seen,bT,clock,rfl,_⟩:=h;exact⟨rfl,by simp[Value.oneCell']⟩
 |.nc,v,_,h=>by obtain⟨r,rfl,_⟩:=h;exact⟨rfl,by simp[Value.oneCell']⟩
theorem jq.kept{Z Z':Nat→Prop}{w w':World}(hz:∀b,Z b→Z' b)(sm:cp Z w w'):∀{ok:OK} {v:Value} {x:ok.T},(∀g,ob v=some g→w'.heap[g]? = w.heap[g]?)→jq Z w ok v x→jq Z' w' ok v x
 |.row ty k,v,xs,hk,h=>by
  obtain⟨vs,h1,h2⟩:=h
  exact⟨vs,h1.kept hk,fun i x hx=>(h2 i x hx).mono hz sm⟩
 |.map _ _,v,_,hk,h=>by
  obtain⟨m,bT,clock,rfl,h2,h3,h4⟩:=h
  exact⟨m,bT,clock,rfl,(hk m rfl).trans h2,h3.imp (fun _ _ h=>h.mono hz sm) (fun _ _ h=>h.mono hz sm),h4⟩
 |.iter _ _,v,x,hk,h=>by
  obtain⟨r,m,since,seen,bT,clock,rfl,h2,h3,h4,h5,h6,h7,h8,h9⟩:=h
  refine⟨r,m,since,seen,bT,clock,rfl,(hk r rfl).trans h2,hz _ h3,(sm m h3).trans h4,h5,h6,h7,h8.imp (fun _ _ h=>h.mono hz sm) (fun _ _ h=>h.mono hz sm),?_⟩
  split
  ·trivial
  ·rename_i c hc
   rw[hc]at h9
   obtain⟨e,he,mO,xS⟩:=h9
   exact⟨e,he,mO,xS.imp (fun _ _ h=>h.mono hz sm) (fun _ _ h=>h.mono hz sm)⟩
 |.nc,v,_,hk,h=>by
  obtain⟨r,rfl,h2⟩:=h
  exact⟨r,rfl,(hk r rfl).trans h2⟩
structure Good(Z:Nat→Prop)(ψ:Nat→Value)(h:Hp)(w:World)(B0:Nat)(O:Nat→Prop):Prop where
 box:∀id ty cs,h id=some (.box ty cs)→∃g vs,ψ id=.pointer (some ⟨g,0,none⟩)∧w.heap[g]? = some (.cells vs ty (0,0))∧ak Z ψ h w cs vs.toList∧∀u∈vs.toList,u.oneCell'=true
 row:∀id ok x,h id=some (.own ok x)→jq Z w ok (ψ id) x
 live:∀id g,h id≠none→ob (ψ id)=some g→¬Z g∧(B0≤g∨O g)
 apart:∀id me g,h id≠none→h me≠none→ob (ψ id)=some g→ob (ψ me)=some g→id=me
 jx:∀b,Z b→b<w.heap.size
variable {Z Z':Nat→Prop} {ψ ψ':Nat→Value} {h h':Hp} {w w':World} {B0:Nat} {O:Nat→Prop}
theorem Good.sub(g:Good Z ψ h w B0 O)(hs:∀id o,h' id=some o→h id=some o):Good Z ψ h' w B0 O:=by
 have hn:∀id,h' id≠none→h id≠none:=fun id hn=>by
  obtain⟨o,ho⟩:=Option.ne_none_iff_exists'.1 hn
  rw[hs id o ho];simp
 refine⟨fun id ty cs hb=>?_,fun id ok x hb=>g.row id ok x (hs _ _ hb),fun id b h1 h2=>g.live id b (hn id h1) h2,fun id me b h1 h2 h3 h4=>g.apart id me b (hn _ h1) (hn _ h2) h3 h4,g.jx⟩
 obtain⟨b,vs,h1,h2,h3,h4⟩:=g.box id ty cs (hs _ _ hb)
 exact⟨b,vs,h1,h2,ak.less (fun _ h=>h) (cp.refl _ _) (fun id bL=>⟨hn id bL,rfl⟩) h3,h4⟩
theorem Good.freeze(g:Good Z ψ h w B0 O)(hs:∀id o,h' id=some o→h id=some o)(hz:∀b,Z b→Z' b)
  (Nr:∀b,Z' b→Z b∨∃id,h id≠none∧h' id=none∧ob (ψ id)=some b):Good Z' ψ h' w B0 O:=by
 have hn:∀id,h' id≠none→h id≠none:=fun id hn=>by
  obtain⟨o,ho⟩:=Option.ne_none_iff_exists'.1 hn
  rw[hs id o ho];simp
 have lt:∀id b,h id≠none→ob (ψ id)=some b→b<w.heap.size:=by
  intro id b h1 h2
  obtain⟨o,ho⟩:=Option.ne_none_iff_exists'.1 h1
  cases o with
  |box ty cs =>
   obtain⟨gg,vs,e1,e2,_⟩:=g.box id ty cs ho
   rw[e1]at h2;simp only[ob,Option.some.injEq]at h2;subst h2
   exact(Array.getElem?_eq_some_iff.1 e2).1
  |own ok x=>exact(g.row id ok x ho).lt h2
 refine⟨fun id ty cs hb=>?_,fun id ok x hb=>?_,fun id b h1 h2=>⟨fun X7=>?_,(g.live id b (hn id h1) h2).2⟩,fun id me b h1 h2 h3 h4=>g.apart id me b (hn _ h1) (hn _ h2) h3 h4,fun b hb=>?_⟩
 ·obtain⟨b,vs,h1,h2,h3,h4⟩:=g.box id ty cs (hs _ _ hb)
  exact⟨b,vs,h1,h2,ak.less hz (cp.refl _ _) (fun id bL=>⟨hn id bL,rfl⟩) h3,h4⟩
 ·exact(g.row id ok x (hs _ _ hb)).kept hz (cp.refl _ _) (fun _ _=>rfl)
 ·rcases Nr b X7 with h3|⟨me,h3,h4,h5⟩
  ·exact(g.live id b (hn id h1) h2).1 h3
  ·have:=g.apart id me b (hn id h1) h3 h2 h5
   subst this;exact h1 h4
 ·rcases Nr b hb with h3|⟨me,h3,h4,h5⟩
  ·exact g.jx b h3
  ·exact lt me b h3 h5
theorem tV{ty:TypeId}{k:K}{xs:List k.T}{v:Value}{vs:List Value}(ho:dx w ty k.sz v xs.length vs)(hv:mN Z w k xs vs)(hz:∀b,Z b→Z' b)(hb:∀b,ob v=some b→Z' b) :
  aD Z' w (.sl k) xs [v]:=by
 simp only[aD]
 refine⟨v,rfl,?_⟩
 obtain⟨hl,e⟩:=ho
 rcases e with⟨h0,A,rfl⟩|⟨g,cap,cur,rfl,IL,hh,hc,_,hs,ac7⟩
 ·have:xs=[]:=List.eq_nil_of_length_eq_zero h0
  subst this
  exact⟨A,0,rfl,Nat.le_refl _,fun _=>rfl,fun i x hx=>by simp at hx⟩
 ·refine⟨some ⟨g,0,none⟩,cap,rfl,hc,fun e=>(by cases e),fun i x hx=>?_⟩
  have hi:i<xs.length:=(List.getElem?_eq_some_iff.1 hx).1
  refine⟨⟨g,0,none⟩,_,rfl,hb g (by simp only[ob];rw[if_neg (by omega)]),(hv i x hx).mono hz (cp.refl _ _),fun j u hu=>?_⟩
  rw[cg,Nat.zero_add]
  simp only[World.cell?,hh]
  rw[List.getElem?_take]at hu
  split at hu
  ·rename_i hj
   rw[List.getElem?_drop]at hu
   rw[←ac7,List.getElem?_take]at hu
   split at hu
   ·simpa using hu
   ·cases hu
  ·cases hu
theorem CJ{hh:Heap}{a:AV}{v:Value}(g:Good Z ψ hh.get w B0 O)(hz:∀b,Z b→Z' b)(hb:∀id b,a=.bF id→hh.get id≠none→ob (ψ id)=some b→Z' b)(hr:av Z ψ hh.get w a v):av Z' ψ hh.get w (cE hh a) v:=by
 unfold cE
 split
 ·rename_i id
  split
  ·rename_i ty k xs hg
   simp only[av]at hr
   have hv:=hr.2 (by rw[hg];simp)
   subst hv
   obtain⟨vs,h1,h2⟩:=g.row id (.row ty k) xs hg
   simp only[av]
   exact⟨tV h1 h2 hz (fun b Vz=>hb id b rfl (by rw[hg];simp) Vz),by simp⟩
  ·rename_i kk vk es hg
   simp only[av]at hr
   have hv:=hr.2 (by rw[hg];simp)
   subst hv
   obtain⟨m,bT,clock,h1,h2,h3,_⟩:=g.row id (.map kk vk) es hg
   simp only[av,aD]
   refine⟨some m,by rw[h1],.inr ⟨m,bT,clock,rfl,hb id m rfl (by rw[hg];simp) (by rw[h1];rfl),h2,h3.imp (fun _ _ h=>h.mono hz (cp.refl _ _)) (fun _ _ h=>h.mono hz (cp.refl _ _))⟩⟩
  ·simp only[av]
 ·exact hr.less hz (cp.refl _ _) (fun id bL=>⟨bL,rfl⟩)
theorem np{hh:Heap}(g:Good Z ψ hh.get w B0 O)(hz:∀b,Z b→Z' b):∀{cs:List AV} {vs:List Value},(∀id b,AV.bF id∈cs→hh.get id≠none→ob (ψ id)=some b→Z' b)→ak Z ψ hh.get w cs vs→ak Z' ψ hh.get w (cs.map (cE hh)) vs
 |[],_,_,hr=>by simpa only[ak,List.map_nil] using hr
 |a::r,_,hb,hr=>by
  simp only[ak,List.map_cons]at hr ⊢
  obtain⟨v,us,rfl,h1,h2⟩:=hr
  exact⟨v,us,rfl,CJ g hz (fun id b e=>hb id b (by rw[e];simp)) h1,np g hz (fun id b e=>hb id b (List.mem_cons_of_mem _ e)) h2⟩
theorem LG(hh:Heap)(a:AV):∀id o,(drop1 hh a).get id=some o→hh.get id=some o:=by
 intro id o hg
 unfold drop1 at hg
 split at hg
 ·exact(Heap.tU hg).1
 ·exact hg
theorem dR:∀(cs:List AV) (hh:Heap),∀id o,(cz hh cs).get id=some o→hh.get id=some o
 |[],_,_,_,hg=>hg
 |c::r,hh,id,o,hg=>LG hh c id o (dR r (drop1 hh c) id o hg)
theorem zh:∀(cs:List AV) (hh:Heap) (id:Nat),AV.bF id∈cs→(cz hh cs).get id=none
 |[],_,_,hm=>by simp at hm
 |c::r,hh,id,hm=>by
  simp only[cz]
  rcases List.mem_cons.1 hm with rfl|hm
  ·cases hg:(cz (drop1 hh (.bF id)) r).get id with
   |none=>rfl
   |some o =>
    have:=dR r _ id o hg
    simp only[drop1,Heap.gh]at this;cases this
  ·exact zh r _ id hm
theorem oo:∀(cs:List AV) (hh:Heap) (id:Nat),AV.bF id∉cs→(cz hh cs).get id=hh.get id
 |[],_,_,_=>rfl
 |c::r,hh,id,hm=>by
  simp only[cz]
  rw[oo r _ id (fun h=>hm (List.mem_cons_of_mem _ h))]
  unfold drop1
  split
  ·rename_i me
   exact Heap.g9 (fun e=>hm (by rw[e];simp)) hh
  ·rfl
def pQ(Z:Nat→Prop)(ψ:Nat→Value)(h:Hp)(cs:List AV):Nat→Prop:=fun b=>Z b∨∃id,AV.bF id∈cs∧h id≠none∧ob (ψ id)=some b
theorem hM{hh:Heap}(g:Good Z ψ hh.get w B0 O)(cs:List AV):Good (pQ Z ψ hh.get cs) ψ (cz hh cs).get w B0 O :=
 g.freeze (dR cs hh) (fun _ hb=>.inl hb) (fun b hb=>by
  rcases hb with hb|⟨id,h1,h2,h3⟩
  ·exact .inl hb
  ·exact .inr ⟨id,h2,zh cs hh id h1,h3⟩)
end Go.Vs
namespace Go.Vs
def Own(ψ:Nat→Value)(h:Hp)(b:Nat):Prop:=∃id,h id≠none∧ob (ψ id)=some b
structure cW(ψ:Nat→Value)(h:Hp)(w w':World):Prop where
 os:w'.os=w.os
 tape:w'.tape=w.tape
 output:w'.output=w.output
 size:w.heap.size≤w'.heap.size
 block:∀b,b<w.heap.size→¬Own ψ h b→w'.heap[b]? = w.heap[b]?
structure Next(Z:Nat→Prop)(ψ:Nat→Value)(h:Hp)(w:World)(B0:Nat)(O:Nat→Prop)(N:Nat→Prop)(Z':Nat→Prop)(ψ':Nat→Value)(h':Hp)(w':World):Prop where
 fD:∀b,Z b→Z' b
 dY:∀b,Z' b→Z b∨Own ψ h b∨w.heap.size≤b
 keep:cW ψ h w w'
 ids:∀id,h' id≠none→(h id≠none∧ψ' id=ψ id)∨N id
 dL:Good Z' ψ' h' w' B0 O
variable {Z Z':Nat→Prop} {ψ ψ':Nat→Value} {h h':Hp} {w w':World} {B0:Nat} {O:Nat→Prop} {N:Nat→Prop}
theorem cW.refl(ψ:Nat→Value)(h:Hp)(w:World):cW ψ h w w:=⟨rfl,rfl,rfl,Nat.le_refl _,fun _ _ _=>rfl⟩
theorem cW.same(k:cW ψ h w w')(g:Good Z ψ h w B0 O):cp Z w w':=fun b hb=>k.block b (g.jx b hb) (fun⟨id,h1,h2⟩=>(g.live id b h1 h2).1 hb)
theorem Next.same(n:Next Z ψ h w B0 O N Z' ψ' h' w')(g:Good Z ψ h w B0 O):cp Z w w':=n.keep.same g
theorem Next.refl(g:Good Z ψ h w B0 O):Next Z ψ h w B0 O N Z ψ h w :=
 ⟨fun _ h=>h,fun _ h=>.inl h,cW.refl _ _ _,fun _ bL=>.inl ⟨bL,rfl⟩,g⟩
theorem Next.rep(n:Next Z ψ h w B0 O N Z' ψ' h' w')(g:Good Z ψ h w B0 O){a:AV}{v:Value}(hm:aE (fun id=>¬N id) a)(hr:av Z ψ h w a v):av Z' ψ' h' w' a v :=
 hr.move n.fD (n.same g) (fun id hp bL=>(n.ids id bL).resolve_right hp) hm
theorem Good.bM(g:Good Z ψ h w B0 O){b:Nat}(ho:Own ψ h b):b<w.heap.size:=by
 obtain⟨id,h1,h2⟩:=ho
 obtain⟨o,ho⟩:=Option.ne_none_iff_exists'.1 h1
 cases o with
 |box ty cs =>
  obtain⟨gg,vs,e1,e2,_⟩:=g.box id ty cs ho
  rw[e1]at h2;simp only[ob,Option.some.injEq]at h2;subst h2
  exact(Array.getElem?_eq_some_iff.1 e2).1
 |own ok x=>exact(g.row id ok x ho).lt h2
theorem Good.more(g:Good Z ψ h w B0 O)(k:cW ψ h w w')(rY:∀b,Own ψ h b→w'.heap[b]? = w.heap[b]?)
  (hold:∀id,¬N id→h' id=h id∧ψ' id=ψ id)
  (bg:∀id ty cs,h id=some (.box ty cs)→ax (fun i=>¬N i) cs)
  (NP:∀id ty cs,N id→h' id=some (.box ty cs)→∃g vs,ψ' id=.pointer (some ⟨g,0,none⟩)∧w'.heap[g]? = some (.cells vs ty (0,0))∧ak Z ψ' h' w' cs vs.toList∧∀u∈vs.toList,u.oneCell'=true)
  (nq:∀id ok x,N id→h' id=some (.own ok x)→jq Z w' ok (ψ' id) x)
  (zi:∀id b,N id→h' id≠none→ob (ψ' id)=some b→w.heap.size≤b)
  (IM:∀id me b,N id→N me→h' id≠none→h' me≠none→ob (ψ' id)=some b→ob (ψ' me)=some b→id=me) (hB:B0≤w.heap.size) :
  Next Z ψ h w B0 O N Z ψ' h' w':=by
 have rP:∀id,h' id≠none→(h id≠none∧ψ' id=ψ id)∨N id:=fun id bL=>by
  by_cases hn:N id
  ·exact .inr hn
  ·obtain⟨e1,e2⟩:=hold id hn
   exact .inl ⟨by rwa [e1]at bL,e2⟩
 have sm:cp Z w w':=k.same g
 have wW:∀id b,¬N id→h' id≠none→ob (ψ' id)=some b→Own ψ h b:=fun id b hn h1 h2=>by
  obtain⟨e1,e2⟩:=hold id hn
  exact⟨id,by rwa [e1]at h1,by rwa [e2]at h2⟩
 refine⟨fun _ h=>h,fun _ h=>.inl h,k,rP,⟨fun id ty cs hb=>?_,fun id ok x hb=>?_,fun id b h1 h2=>?_,fun id me b h1 h2 h3 h4=>?_,fun b hb=>Nat.lt_of_lt_of_le (g.jx b hb) k.size⟩⟩
 ·by_cases hn:N id
  ·exact NP id ty cs hn hb
  ·obtain⟨e1,e2⟩:=hold id hn
   rw[e1]at hb
   obtain⟨gg,vs,h1,h2,h3,h4⟩:=g.box id ty cs hb
   have ho:Own ψ h gg:=⟨id,by rw[hb];simp,by rw[h1];rfl⟩
   exact⟨gg,vs,by rw[e2,h1],(rY gg ho).trans h2,h3.move (fun _ h=>h) sm (fun i hp bL=>(rP i bL).resolve_right hp) (bg id ty cs hb),h4⟩
 ·by_cases hn:N id
  ·exact nq id ok x hn hb
  ·obtain⟨e1,e2⟩:=hold id hn
   rw[e1]at hb
   rw[e2]
   exact(g.row id ok x hb).kept (fun _ h=>h) sm (fun gg LH=>rY gg ⟨id,by rw[hb];simp,LH⟩)
 ·by_cases hn:N id
  ·have:=zi id b hn h1 h2
   exact⟨fun hz=>by have:=g.jx b hz;omega,.inl (by omega)⟩
  ·obtain⟨e1,e2⟩:=hold id hn
   rw[e1]at h1;rw[e2]at h2
   exact g.live id b h1 h2
 ·by_cases hn:N id<;>by_cases IN:N me
  ·exact IM id me b hn IN h1 h2 h3 h4
  ·have:=zi id b hn h1 h3
   have:=g.bM (wW me b IN h2 h4);omega
  ·have:=zi me b IN h2 h4
   have:=g.bM (wW id b hn h1 h3);omega
  ·obtain⟨e1,e2⟩:=hold id hn
   obtain⟨e3,e4⟩:=hold me IN
   rw[e1]at h1;rw[e2]at h3;rw[e3]at h2;rw[e4]at h4
   exact g.apart id me b h1 h2 h3 h4
end Go.Vs
namespace Go.Vs
variable {P:Program} {Z Z':Nat→Prop} {ψ ψ':Nat→Value} {h h':Hp} {w w':World} {B0:Nat} {O:Nat→Prop} {N:Nat→Prop}
theorem qW{α:Type}:∀(vs cs:List α) (off:Nat),off+vs.length≤cs.length→dO cs off vs=cs.take off++vs++cs.drop (off+vs.length)
 |[],cs,off,_=>by simp[dO]
 |v::r,cs,off,hl=>by
  simp only[List.length_cons]at hl
  simp only[dO]
  rw[qW r (cs.set off v) (off+1) (by rw[List.length_set];omega)]
  have h1:(cs.set off v).take (off+1)=cs.take off++[v]:=by
   rw[List.take_set,List.take_succ_eq_append_getElem (by omega),List.set_append_right _ _ (by rw[List.length_take];omega)]
   rw[List.length_take,Nat.min_eq_left (by omega)]
   simp
  have h2:(cs.set off v).drop (off+1+r.length)=cs.drop (off+(r.length+1)):=by
   rw[List.drop_set_of_lt (by omega)];congr 1;omega
  rw[h1,h2,List.append_assoc,List.append_assoc,List.append_assoc];rfl
theorem fO{t:TypeId}{b:Bool}(hb:CD P t=some b):(isAgg t).run P w=.ok b w:=by
 unfold CD at hb
 obtain⟨d,hd,rfl⟩:=Option.map_eq_some_iff.1 hb
 simp only[isAgg,Sem.run_bind,run_underlying hd,Result.andThen_ok]
 cases d<;>rfl
theorem rZ{t:TypeId}{d:TypeDesc}(hd:P.underlying t=some d):∃i,P.info? t=some i:=by
 unfold Program.underlying at hd
 split at hd
 ·rename_i heq;exact⟨_,heq⟩
 ·rename_i heq;exact⟨_,heq⟩
 ·cases hd
theorem du{t:TypeId}{i:TypeInfo}(hi:P.info? t=some i):(sizeOf t).run P w=.ok (P.cellsOf t) w:=by
 simp[sizeOf,typeInfo,hi,Program.cellsOf]
theorem wX{t:TypeId}{b:Bool}(hb:CD P t=some b):∃i,P.info? t=some i:=by
 unfold CD at hb
 obtain⟨d,hd,rfl⟩:=Option.map_eq_some_iff.1 hb
 exact rZ hd
theorem jy{t:TypeId}{cs:List AV}{us:List Value}{a:Addr}{x:AV}(hr:ak Z ψ h w cs us)(hc:∀(j:Nat) u,us[j]? = some u→w.cell? (a.add j)=some u)(hx:dQ P t cs=some x) :
  ∃V,(Instr.loadAt t (.pointer (some a))).run P w=.ok V w∧av Z ψ h w x V:=by
 unfold dQ at hx
 have hlen:=hr.length
 split at hx
 ·rename_i hb
  split at hx
  ·rename_i hl
   cases hx
   obtain⟨i,hi⟩:=wX hb
   refine⟨.agg (us.take (P.cellsOf t)).toArray,?_,by simp only[av];exact⟨_,rfl,by simpa using hr.take (P.cellsOf t)⟩⟩
   have aF:(us.take (P.cellsOf t)).length=P.cellsOf t:=by rw[List.length_take];omega
   have hld:=run_loadCells_list (P:=P) w a (us.take (P.cellsOf t)) (fun j v hv=>hc j v (by
    rw[List.getElem?_take]at hv;split at hv
    ·exact hv
    ·cases hv))
   rw[aF]at hld
   simp[Instr.loadAt,Instr.sureAddr,loadVar,fO hb,du hi,hld]
  ·cases hx
 ·rename_i hb
  split at hx
  ·rename_i c r
   cases hx
   simp only[ak]at hr
   obtain⟨v,iF,rfl,h1,h2⟩:=hr
   refine⟨v,?_,h1⟩
   have:=hc 0 v rfl
   rw[CI]at this
   simp[Instr.loadAt,Instr.sureAddr,loadVar,fO hb,this]
  ·cases hx
 ·cases hx
theorem kA{t:TypeId}{i:TypeInfo}(hi:P.info? t=some i)(g off:Nat)(V:Value)(cur:Array Value)(ty:TypeId)(hg:w.heap[g]? = some (.cells cur ty (0,0)))(hs:V.cells.size=P.cellsOf t)
  (hl:off+V.cells.size≤cur.size) (h1:∀v∈V.cells.toList,v.oneCell'=true) :
  (Instr.storeAt t (.pointer (some ⟨g,off,none⟩)) V).run P w=.ok () (w.setRow g (cur.toList.take off++V.cells.toList++cur.toList.drop (off+V.cells.size)).toArray):=by
 have tW:=run_storeCells_at P g off ty V.cells.toList 0 cur w hg (by simpa using hl) h1
 simp only[Nat.add_zero,Array.length_toList]at tW
 simp[Instr.storeAt,Instr.sureAddr,storeVar,du hi,hs,tW]
end Go.Vs
namespace Go.Vs
variable {P:Program} {Z Z':Nat→Prop} {ψ ψ':Nat→Value} {h h':Hp} {w w':World} {B0:Nat} {O:Nat→Prop} {N:Nat→Prop}
def dM{α:Type}(f:Nat→α)(i:Nat)(v:α):Nat→α:=fun j=>if j=i then v else f j
theorem bh{α:Type}(f:Nat→α)(i:Nat)(v:α):dM f i v i=v:=by simp[dM]
theorem cZ{α:Type}(f:Nat→α){i j:Nat}(v:α)(bq:j≠i):dM f i v j=f j:=by simp[dM,bq]
theorem cW.alloc(ψ:Nat→Value)(h:Hp)(w:World)(o:Obj):cW ψ h w (w.alloc o) :=
 ⟨rfl,rfl,rfl,by rw[World.size_alloc];omega,fun b hb _=>heap_alloc_old w o hb⟩
theorem tX(g:Good Z ψ h w B0 O)(hB:B0≤w.heap.size)(id:Nat)(ty:TypeId){cs:List AV}{vs:Array Value}(hN:N id)(hr:ak Z ψ h w cs vs.toList)(h1:∀u∈vs.toList,u.oneCell'=true)
  (bg:∀i ty cs,h i=some (.box ty cs)→ax (fun i=>i≠id) cs) (hm:ax (fun i=>i≠id) cs) :
  Next Z ψ h w B0 O N Z (dM ψ id (.pointer (some ⟨w.heap.size,0,none⟩))) (dM h id (some (.box ty cs))) (w.alloc (.cells vs ty)):=by
 have n:Next Z ψ h w B0 O (·=id) Z (dM ψ id (.pointer (some ⟨w.heap.size,0,none⟩))) (dM h id (some (.box ty cs))) (w.alloc (.cells vs ty)):=by
  refine g.more (cW.alloc _ _ _ _) (fun b hb=>heap_alloc_old w _ (g.bM hb)) (fun i hi=>⟨cZ _ _ hi,cZ _ _ hi⟩) (fun i xO cs' hb=>?_) (fun i xO cs' hi hb=>?_) (fun i ok x hi hb=>?_) (fun i b hi bq hb=>?_) (fun i i' b hi sW _ _ _ _=>by subst hi;exact sW.symm) hB
  ·exact bg i xO cs' hb
  ·subst hi
   rw[bh]at hb;cases hb
   refine⟨w.heap.size,vs,bh _ _ _,heap_alloc_new _ _,?_,h1⟩
   refine hr.move (fun _ h=>h) ((cW.alloc ψ h w _).same g) (fun j hj bq=>?_) hm
   rw[cZ _ _ hj]at bq
   exact⟨bq,cZ _ _ hj⟩
  ·subst hi;rw[bh]at hb;cases hb
  ·subst hi;rw[bh]at hb;simp only[ob,Option.some.injEq]at hb;omega
 exact⟨n.fD,n.dY,n.keep,fun i hi=>(n.ids i hi).imp (fun h=>h) (fun e=>by subst e;exact hN),n.dL⟩
theorem NQ{h:Hp}{id:Nat}{o:Ob}(bL:h id≠none):∀i,dM h id (some o) i≠none→h i≠none:=fun i hi=>by
 by_cases e:i=id
 ·subst e;exact bL
 ·rwa [cZ _ _ e]at hi
theorem Good.write(g:Good Z ψ h w B0 O)(id:Nat)(bL:h id≠none)(k:cW ψ h w w')(NR:∀b,ob (ψ id)≠some b→b<w.heap.size→w'.heap[b]? = w.heap[b]?)(o':Ob)
  (NP:∀ty cs,o'=.box ty cs→∃gg vs,ψ id=.pointer (some ⟨gg,0,none⟩)∧w'.heap[gg]? = some (.cells vs ty (0,0))∧ak Z ψ h w' cs vs.toList∧∀u∈vs.toList,u.oneCell'=true)
  (nq:∀ok x,o'=.own ok x→jq Z w' ok (ψ id) x) :
  Next Z ψ h w B0 O N Z ψ (dM h id (some o')) w':=by
 have hs:=NQ (o:=o') bL
 have sm:=k.same g
 refine⟨fun _ h=>h,fun _ h=>.inl h,k,fun i hi=>.inl ⟨hs i hi,rfl⟩,⟨fun i ty cs hb=>?_,fun i ok x hb=>?_,fun i b h1 h2=>g.live i b (hs i h1) h2,fun i i' b h1 h2 h3 h4=>g.apart i i' b (hs i h1) (hs i' h2) h3 h4,fun b hb=>Nat.lt_of_lt_of_le (g.jx b hb) k.size⟩⟩
 ·by_cases e:i=id
  ·subst e
   rw[bh]at hb;cases hb
   obtain⟨gg,vs,h1,h2,h3,h4⟩:=NP _ _ rfl
   exact⟨gg,vs,h1,h2,h3.less (fun _ h=>h) (cp.refl _ _) (fun j hj=>⟨hs j hj,rfl⟩),h4⟩
  ·rw[cZ _ _ e]at hb
   obtain⟨gg,vs,h1,h2,h3,h4⟩:=g.box i ty cs hb
   refine⟨gg,vs,h1,?_,h3.less (fun _ h=>h) sm (fun j hj=>⟨hs j hj,rfl⟩),h4⟩
   rw[NR gg (fun hh=>e (g.apart i id gg (by rw[hb];simp) bL (by rw[h1];rfl) hh)) (Array.getElem?_eq_some_iff.1 h2).1]
   exact h2
 ·by_cases e:i=id
  ·subst e
   rw[bh]at hb;cases hb
   exact nq _ _ rfl
  ·rw[cZ _ _ e]at hb
   exact(g.row i ok x hb).kept (fun _ h=>h) sm (fun gg LH=>NR gg (fun hh=>e (g.apart i id gg (by rw[hb];simp) bL LH hh)) (g.bM ⟨i,by rw[hb];simp,LH⟩))
theorem cW.setRow{gg:Nat}(ho:Own ψ h gg)(arr:Array Value):cW ψ h w (w.setRow gg arr) :=
 ⟨rfl,rfl,rfl,by simp[World.setRow],fun b _ hb=>by
  have:gg≠b:=fun e=>hb (e▸ho)
  simp[World.setRow,Array.getElem?_modify,this]⟩
theorem setRow_other{gg b:Nat}(arr:Array Value)(bq:gg≠b):(w.setRow gg arr).heap[b]? = w.heap[b]? := by
 simp[World.setRow,Array.getElem?_modify,bq]
theorem zj(g:Good Z ψ h w B0 O){id:Nat}{ty:TypeId}{cs vs:List AV}(hb:h id=some (.box ty cs)){t:TypeId}{i:TypeInfo}(hi:P.info? t=some i){off:Nat}{V:Value}
  (hv:ak Z ψ h w vs V.cells.toList) (h1:∀u∈V.cells.toList,u.oneCell'=true) (hs:V.cells.size=P.cellsOf t) (hl:off+vs.length≤cs.length) {a:Addr} (ha:a=⟨Sj (ψ id),off,none⟩) :
  ∃w',(Instr.storeAt t (.pointer (some a)) V).run P w=.ok () w'∧Next Z ψ h w B0 O N Z ψ (dM h id (some (.box ty (dO cs off vs)))) w':=by
 obtain⟨gg,arr,e1,e2,e3,e4⟩:=g.box id ty cs hb
 have hlen:=hv.length
 have NS:=e3.length
 simp only[Array.length_toList]at hlen NS
 have bL:h id≠none:=by rw[hb];simp
 have ho:Own ψ h gg:=⟨id,bL,by rw[e1];rfl⟩
 rw[e1]at ha
 simp only[Sj]at ha
 subst ha
 refine⟨_,kA hi gg off V arr ty e2 hs (by omega) h1,?_⟩
 have kk:=cW.setRow (w:=w) ho ((arr.toList.take off++V.cells.toList++arr.toList.drop (off+V.cells.size)).toArray)
 refine g.write id bL kk (fun b hb _=>setRow_other _ (fun e=>hb (by rw[e1];simp[ob,e]))) _ (fun xO cs' he=>?_) (fun _ _ he=>by cases he)
 cases he
 refine⟨gg,_,e1,setRow_heap w gg arr _ ty _ e2,?_,?_⟩
 ·rw[qW _ _ _ hl]
  have h5:ak Z ψ h w (cs.take off++vs++cs.drop (off+vs.length)) (arr.toList.take off++V.cells.toList++arr.toList.drop (off+V.cells.size)):=by
   rw[←hlen];exact((e3.take off).append hv).append (e3.drop (off+vs.length))
  exact h5.less (fun _ h=>h) (kk.same g) (fun j hj=>⟨hj,rfl⟩)
 ·intro u hu
  rw[List.toList_toArray]at hu
  rcases List.mem_append.1 hu with hu|hu
  ·rcases List.mem_append.1 hu with hu|hu
   ·exact e4 u (List.mem_of_mem_take hu)
   ·exact h1 u hu
  ·exact e4 u (List.mem_of_mem_drop hu)
theorem VA{α:Type}(cur V:List α)(m off sz L:Nat)(h:off+V.length≤sz)(h1:m+sz≤L)(h2:L≤cur.length) :
  ((cur.take (m+off)++V++cur.drop (m+off+V.length)).take L |>.drop m |>.take sz)=((cur.drop m).take sz).take off++V++((cur.drop m).take sz).drop (off+V.length):=by
 apply List.ext_getElem?
 intro q
 simp only[List.getElem?_take,List.getElem?_drop,List.getElem?_append,List.length_append,List.length_take,List.length_drop]
 rw[Nat.min_eq_left (show m+off≤cur.length by omega),Nat.min_eq_left (show off≤min sz (cur.length-m) by omega)]
 repeat' split
 all_goals first|rfl|(exfalso;omega)|(congr 1;omega)|(rw[List.getElem?_eq_none (by omega)])
theorem Sk{α:Type}(cur V:List α)(m off sz L p:Nat)(h:off+V.length≤sz)(h1:m+sz≤L)(h2:L≤cur.length)(h3:p+sz≤L)(h4:p+sz≤m∨m+sz≤p) :
  ((cur.take (m+off)++V++cur.drop (m+off+V.length)).take L |>.drop p |>.take sz)=(cur.drop p).take sz:=by
 apply List.ext_getElem?
 intro q
 simp only[List.getElem?_take,List.getElem?_drop,List.getElem?_append,List.length_append,List.length_take]
 rw[Nat.min_eq_left (show m+off≤cur.length by omega)]
 repeat' split
 all_goals first|rfl|(exfalso;omega)|(congr 1;omega)|(rw[List.getElem?_eq_none (by omega)])
theorem aD.zk{k:K}{x:k.T}{vs us:List Value}(e:vs=us)(hr:aD Z w k x vs):aD Z w k x us:=e▸hr
theorem zm(g:Good Z ψ h w B0 O){id:Nat}{ty:TypeId}{kk:K}{xs:List kk.T}(hb:h id=some (.own (.row ty kk) xs)){t:TypeId}{i:TypeInfo}(hi:P.info? t=some i){n off:Nat}{x y:kk.T}{V:Value}
  (hx:xs[n]? = some x) (hs:V.cells.size=P.cellsOf t) (hl:off+V.cells.size≤kk.sz) {a:Addr} (ha:a=⟨Sj (ψ id),n*kk.sz+off,none⟩)
  (hy:∀us,aD Z w kk x us→aD Z w kk y (us.take off++V.cells.toList++us.drop (off+V.cells.size))) (h1:∀u∈V.cells.toList,u.oneCell'=true) :
  ∃w',(Instr.storeAt t (.pointer (some a)) V).run P w=.ok () w'∧Next Z ψ h w B0 O N Z ψ (dM h id (some (.own (.row ty kk) (xs.set n y)))) w':=by
 obtain⟨vs,ho,hv⟩:=g.row id (.row ty kk) xs hb
 have bL:h id≠none:=by rw[hb];simp
 have hn:n<xs.length:=(List.getElem?_eq_some_iff.1 hx).1
 have IL:=kk.g8
 have hmul:n*kk.sz+kk.sz≤xs.length*kk.sz:=by rw[←Nat.succ_mul];exact Nat.mul_le_mul_right _ hn
 obtain⟨hl1,e⟩:=ho
 rcases e with⟨h0,_⟩|⟨gg,cap,cur,e1,e2,e3,e4,e5,e6,e7⟩
 ·omega
 have VB:xs.length*kk.sz≤cap*kk.sz:=Nat.mul_le_mul_right _ e4
 have jz:ob (ψ id)=some gg:=by rw[e1];simp only[ob];rw[if_neg (by omega)]
 have ho:Own ψ h gg:=⟨id,bL,jz⟩
 have FC:a=⟨gg,n*kk.sz+off,none⟩:=by rw[ha,e1];rfl
 subst FC
 refine⟨_,kA hi gg (n*kk.sz+off) V cur ty e3 hs (by omega) h1,?_⟩
 have hk:=cW.setRow (w:=w) ho ((cur.toList.take (n*kk.sz+off)++V.cells.toList++cur.toList.drop (n*kk.sz+off+V.cells.size)).toArray)
 have sm:=hk.same g
 refine g.write id bL hk (fun b hb _=>setRow_other _ (fun e=>hb (by rw[jz,e]))) _ (fun _ _ he=>by cases he) (fun XB x' he=>?_)
 cases he
 have tI:cur.toList.length=cap*kk.sz:=by rw[Array.length_toList];exact e6
 have hVl:V.cells.toList.length=V.cells.size:=Array.length_toList
 let c6:=cur.toList.take (n*kk.sz+off)++V.cells.toList++cur.toList.drop (n*kk.sz+off+V.cells.size)
 have IP:c6.length=cap*kk.sz:=by
  simp only[c6,List.length_append,List.length_take,List.length_drop,tI,hVl];omega
 have Sn:(xs.set n y).length=xs.length:=List.length_set
 have qX:vs=cur.toList.take (xs.length*kk.sz):=e7.symm
 refine⟨c6.take (xs.length*kk.sz),⟨by rw[List.length_take,IP,Sn];omega,.inr ⟨gg,cap,c6.toArray,by rw[Sn];exact e1,e2,setRow_heap w gg cur _ ty _ e3,by rw[Sn];exact e4,e5,by simpa using IP,by rw[Sn]⟩⟩,fun j z hz=>?_⟩
 have hj:j<xs.length:=by have:=(List.getElem?_eq_some_iff.1 hz).1;rwa [Sn]at this
 have hmj:j*kk.sz+kk.sz≤xs.length*kk.sz:=by rw[←Nat.succ_mul];exact Nat.mul_le_mul_right _ hj
 have X8:∀p,p+kk.sz≤xs.length*kk.sz→(vs.drop p).take kk.sz=(cur.toList.drop p).take kk.sz:=fun p hp=>by
  rw[qX,List.drop_take,List.take_take,Nat.min_eq_left (by omega)]
 by_cases Ns:j=n
 ·subst Ns
  rw[List.getElem?_set_self hn]at hz;cases hz
  have hu:=hy _ (hv j x hx)
  rw[X8 _ hmj,←hVl]at hu
  refine aD.mono (fun _ h=>h) sm (aD.zk ?_ hu)
  have:=VA cur.toList V.cells.toList (j*kk.sz) off kk.sz (xs.length*kk.sz) (by omega) hmj (by omega)
  rw[←this,hVl]
 ·rw[List.getElem?_set_ne (fun e=>Ns e.symm)]at hz
  have hu:=hv j z hz
  rw[X8 _ hmj]at hu
  refine aD.mono (fun _ h=>h) sm (aD.zk ?_ hu)
  have h4:j*kk.sz+kk.sz≤n*kk.sz∨n*kk.sz+kk.sz≤j*kk.sz:=by
   rcases Nat.lt_or_ge j n with h|h
   ·left;rw[←Nat.succ_mul];exact Nat.mul_le_mul_right _ h
   ·right;rw[←Nat.succ_mul];exact Nat.mul_le_mul_right _ (by omega)
  have:=Sk cur.toList V.cells.toList (n*kk.sz) off kk.sz (xs.length*kk.sz) (j*kk.sz) (by omega) hmul (by omega) hmj h4
  rw[←this,hVl]
theorem sX{k:K}{ys:List k.T}{u:Value}(hr:aD Z w (.sl k) ys [u]) :
  (u=.slice none 0 0∧ys=[])∨∃a c news,u=.slice (some a) ys.length c∧ys.length≤c∧news.length=ys.length*k.sz∧(∀(j:Nat) q,news[j]? = some q→w.cell? (a.add j)=some q)∧(∀q∈news,q.oneCell'=true)∧mN Z w k ys news:=by
 simp only[aD]at hr
 obtain⟨v,hv,A,c,rfl,hl,hn,he⟩:=hr
 cases hv
 cases A with
 |none =>
  left
  cases ys with
  |nil=>exact⟨by rw[hn rfl];rfl,rfl⟩
  |cons y r=>obtain⟨a,us,h1,_⟩:=he 0 y rfl;cases h1
 |some a =>
  right
  have VC:∀i (hi:i<ys.length),∃us,aD Z w k ys[i] us∧∀(j:Nat) u,us[j]? = some u→w.cell? (a.add (i*k.sz+j))=some u:=fun i hi=>by
   obtain⟨a',us,h1,_,h3,h4⟩:=he i _ (List.getElem?_eq_getElem hi)
   cases h1
   exact⟨us,h3,h4⟩
  have IL:=k.g8
  let news:=(List.range (ys.length*k.sz)).map fun j=>(w.cell? (a.add j)).getD default
  have CL:∀j,j<ys.length*k.sz→∃q,w.cell? (a.add j)=some q∧q.oneCell'=true:=fun j hj=>by
   have hi:j / k.sz<ys.length:=Nat.div_lt_of_lt_mul (by rw[Nat.mul_comm];exact hj)
   obtain⟨us,h3,h4⟩:=VC (j / k.sz) hi
   have hm:j%k.sz<us.length:=by rw[h3.len];exact Nat.mod_lt _ IL
   refine⟨us[j%k.sz],?_,h3.one _ (List.getElem_mem hm)⟩
   have:=h4 (j%k.sz) _ (List.getElem?_eq_getElem hm)
   rwa [Nat.mul_comm,Nat.div_add_mod]at this
  have mP:∀j,j<ys.length*k.sz→∃q,news[j]? = some q∧w.cell? (a.add j)=some q:=fun j hj=>by
   obtain⟨q,hq,_⟩:=CL j hj
   exact⟨q,by simp[news,List.getElem?_map,List.getElem?_range hj,hq],hq⟩
  have hlen:news.length=ys.length*k.sz:=by simp[news]
  refine⟨a,c,news,rfl,hl,hlen,fun j q hq=>?_,fun q hq=>?_,fun i x hx=>?_⟩
  ·have hj:j<ys.length*k.sz:=by rw[←hlen];exact(List.getElem?_eq_some_iff.1 hq).1
   obtain⟨q',h1,h2⟩:=mP j hj
   rw[h1]at hq;cases hq;exact h2
  ·obtain⟨j,hj,rfl⟩:=List.mem_iff_getElem.1 hq
   obtain⟨q',h1,h2⟩:=mP j (by omega)
   obtain⟨q2,h3,h4⟩:=CL j (by omega)
   rw[List.getElem?_eq_getElem hj]at h1;cases h1
   rw[h2]at h3;cases h3;exact h4
  ·have hi:i<ys.length:=(List.getElem?_eq_some_iff.1 hx).1
   obtain⟨us,h3,h4⟩:=VC i hi
   rw[List.getElem?_eq_getElem hi]at hx;cases hx
   refine aD.zk ?_ h3
   have hul:=h3.len
   have hmul:i*k.sz+k.sz≤ys.length*k.sz:=by rw[←Nat.succ_mul];exact Nat.mul_le_mul_right _ hi
   apply List.ext_getElem?
   intro q
   rw[List.getElem?_take,List.getElem?_drop]
   by_cases hq:q<k.sz
   ·rw[if_pos hq]
    obtain⟨q',h5,h6⟩:=mP (i*k.sz+q) (by omega)
    rw[h5]
    have h7:=h4 q _ (List.getElem?_eq_getElem (by omega))
    rw[List.getElem?_eq_getElem (by omega)]
    rw[h6]at h7;cases h7;rfl
   ·rw[if_neg hq,List.getElem?_eq_none (by omega)]
theorem LI{hh:Heap}(g:Good Z ψ hh.get w B0 O){x:AV}{u:Value}{k:K}{ys:List k.T}(hx:rowOf hh x k=some ys)(hr:av Z ψ hh.get w x u) :
  (u=.slice none 0 0∧ys=[])∨∃a c news,u=.slice (some a) ys.length c∧ys.length≤c∧news.length=ys.length*k.sz∧(∀(j:Nat) q,news[j]? = some q→w.cell? (a.add j)=some q)∧(∀q∈news,q.oneCell'=true)∧mN Z w k ys news:=by
 unfold rowOf at hx
 split at hx
 ·rename_i ex k' xs heq
  split at hx
  ·rename_i e
   subst e
   cases hx
   cases x with
   |sl ex' k'' X9 =>
    simp only[cE]at heq
    cases heq
    simp only[av]at hr
    exact sX hr.1
   |bF id =>
    simp only[cE]at heq
    split at heq
    ·rename_i ty kk zs hg
     cases heq
     simp only[av]at hr
     have hv:=hr.2 (by rw[hg];simp)
     subst hv
     obtain⟨vs,ho,hv⟩:=g.row id (.row ty _) _ hg
     have h1:=sX (tV (Z':=fun b=>Z b∨ob (ψ id)=some b) ho hv (fun b hb=>.inl hb) (fun b hb=>.inr hb))
     rcases h1 with h1|⟨a,c,news,h1,h2,h3,h4,h5,_⟩
     ·exact .inl h1
     ·right
      refine⟨a,c,news,h1,h2,h3,h4,h5,?_⟩
      have So:news=vs:=by
       obtain⟨hl,e⟩:=ho
       rcases e with⟨e,_⟩|⟨gg,cap,cur,e,_,e3,_,_,_,e7⟩
       ·rw[e,Nat.zero_mul]at h3 hl
        rw[List.eq_nil_of_length_eq_zero h3,List.eq_nil_of_length_eq_zero hl]
       ·rw[e]at h1;cases h1
        apply List.ext_getElem?
        intro j
        by_cases hj:j<xs.length*k'.sz
        ·have hn:=h4 j _ (List.getElem?_eq_getElem (by omega))
         rw[cg,Nat.zero_add]at hn
         simp only[World.cell?,e3]at hn
         have wY:vs[j]? = cur.toList[j]? := by rw[←e7,List.getElem?_take,if_pos hj]
         rw[wY,List.getElem?_eq_getElem (by omega)]
         simpa using hn.symm
        ·rw[List.getElem?_eq_none (by omega),List.getElem?_eq_none (by omega)]
      rw[So];exact hv
    ·cases heq
    ·cases heq
   |_=>simp only[cE]at heq<;>cases heq
  ·cases hx
 ·rename_i heq
  cases hx
  cases x with
  |fJ=>simp only[av]at hr;exact .inl ⟨hr,rfl⟩
  |bF id=>simp only[cE]at heq;split at heq<;>cases heq
  |_=>simp only[cE]at heq<;>cases heq
 ·cases hx
structure oq(P:Program)(e:TypeId)(k:K)(i:TypeInfo)(z:Value):Prop where
 info:P.info? e=some i
 zero:i.zero=some z
 size:i.size=k.sz
 r8:z.cells.size=k.sz
 bytes:i.bytes≤65536
theorem cv{e:TypeId}{k:K}(he:D0 P e k=true):∃i z,oq P e k i z:=by
 unfold D0 at he
 split at he
 ·rename_i i hi
  split at he
  ·rename_i z hz
   simp only[Bool.and_eq_true,decide_eq_true_eq]at he
   exact⟨i,z,hi,hz,he.1,he.2.1,he.2.2⟩
  ·cases he
 ·cases he
theorem mN.append{k:K}{xs ys:List k.T}{vs us:List Value}(h1:mN Z w k xs vs)(h2:mN Z w k ys us)(hl:vs.length=xs.length*k.sz):mN Z w k (xs++ys) (vs++us):=fun i x hx=>by
 by_cases hi:i<xs.length
 ·rw[List.getElem?_append_left hi]at hx
  have hm:i*k.sz+k.sz≤xs.length*k.sz:=by rw[←Nat.succ_mul];exact Nat.mul_le_mul_right _ hi
  have h3:=h1 i x hx
  rw[List.drop_append_of_le_length (by omega),List.take_append_of_le_length (by rw[List.length_drop];omega)]
  exact h3
 ·rw[List.getElem?_append_right (by omega)]at hx
  have h3:=h2 (i-xs.length) x hx
  have e:i*k.sz=vs.length+(i-xs.length)*k.sz:=by
   rw[hl,←Nat.add_mul];congr 1;omega
  rw[e,List.drop_append,List.drop_eq_nil_of_le (by omega),List.nil_append,Nat.add_sub_cancel_left]
  exact h3
theorem mN.FD{k:K}{xs:List k.T}{vs:List Value}(h:mN Z w k xs vs)(sm:cp Z w w'):mN Z w' k xs vs:=fun i x hx=>(h i x hx).mono (fun _ h=>h) sm
theorem FE(g:Good Z ψ h w B0 O)(hB:B0≤w.heap.size)(id:Nat)(hN:N id){ok:OK}{x:ok.T}{v:Value}(kk:cW ψ h w w')(rY:∀b,Own ψ h b→w'.heap[b]? = w.heap[b]?)
  (ho:jq Z w' ok v x) (hb:∀b,ob v=some b→w.heap.size≤b)
  (bg:∀i ty cs,h i=some (.box ty cs)→ax (fun i=>i≠id) cs) :
  Next Z ψ h w B0 O N Z (dM ψ id v) (dM h id (some (.own ok x))) w':=by
 have n:Next Z ψ h w B0 O (·=id) Z (dM ψ id v) (dM h id (some (.own ok x))) w':=by
  refine g.more kk rY (fun i hi=>⟨cZ _ _ hi,cZ _ _ hi⟩) (fun i xO cs' hb=>bg i xO cs' hb) (fun i xO cs' hi hb=>?_) (fun i ok x hi hb=>?_) (fun i b hi bq Vz=>?_) (fun i i' b hi sW _ _ _ _=>by subst hi;exact sW.symm) hB
  ·subst hi;rw[bh]at hb;cases hb
  ·subst hi
   rw[bh]at hb;cases hb
   rw[bh];exact ho
  ·subst hi;rw[bh]at Vz;exact hb b Vz
 exact⟨n.fD,n.dY,n.keep,fun i hi=>(n.ids i hi).imp (fun h=>h) (fun e=>by subst e;exact hN),n.dL⟩
theorem qe(g:Good Z ψ h w B0 O)(hB:B0≤w.heap.size)(id:Nat)(ty:TypeId)(hN:N id){k:K}{xs:List k.T}{vs:List Value}{v:Value}(kk:cW ψ h w w')(rY:∀b,Own ψ h b→w'.heap[b]? = w.heap[b]?)
  (ho:dx w' ty k.sz v xs.length vs) (hv:mN Z w' k xs vs) (hb:∀b,ob v=some b→w.heap.size≤b)
  (bg:∀i ty cs,h i=some (.box ty cs)→ax (fun i=>i≠id) cs) :
  Next Z ψ h w B0 O N Z (dM ψ id v) (dM h id (some (.own (.row ty k) xs))) w':=FE g hB id hN (ok:=.row ty k) kk rY ⟨vs,ho,hv⟩ hb bg
theorem cW.grown{row:Option Nat}(hg:w.grownBy w' row)(hr:∀b,row=some b→Own ψ h b):cW ψ h w w' :=
 ⟨hg.os,hg.tape,hg.output,hg.size,fun b hb hn=>hg.block b hb (fun e=>hn (hr b e.symm))⟩
theorem qf(g:Good Z ψ h w B0 O)(hB:B0≤w.heap.size)(id cK:Nat)(hN:N id){ok:OK}{x y:ok.T}(ho:h cK=some (.own ok x))(bq:cK≠id)
  (hg:w.grownBy w' (ob (ψ cK))) {v:Value} (hv:jq Z w' ok v y)
  (hb:ob v=ob (ψ cK)∨∀b,ob v=some b→w.heap.size≤b)
  (bg:∀i ty cs,h i=some (.box ty cs)→ax (fun i=>i≠id) cs) :
  Next Z ψ h w B0 O N Z (dM ψ id v) (dM (dM h cK none) id (some (.own ok y))) w':=by
 have hold:h cK≠none:=by rw[ho];simp
 have jz:∀b,ob (ψ cK)=some b→ob (ψ cK)=some b:=fun _ h=>h
 have kk:cW ψ h w w':=cW.grown hg (fun b e=>⟨cK,hold,jz b e⟩)
 have sm:=kk.same g
 have other:∀i b,h i≠none→i≠cK→ob (ψ i)=some b→w'.heap[b]? = w.heap[b]? := fun i b h1 h2 h3 =>
  hg.block b (g.bM ⟨i,h1,h3⟩) (fun e=>h2 (g.apart i cK b h1 hold h3 (jz b e.symm)))
 have at_:∀i,i≠id→dM (dM h cK none) id (some (.own ok y)) i≠none→h i≠none∧i≠cK:=fun i hi h1=>by
  rw[cZ _ _ hi]at h1
  by_cases e:i=cK
  ·subst e;rw[bh]at h1;exact absurd rfl h1
  ·rw[cZ _ _ e]at h1;exact⟨h1,e⟩
 have ids:∀i,dM (dM h cK none) id (some (.own ok y)) i≠none→(h i≠none∧dM ψ id v i=ψ i)∨i=id:=fun i h1=>by
  by_cases e:i=id
  ·exact .inr e
  ·exact .inl ⟨(at_ i e h1).1,cZ _ _ e⟩
 have vob:∀b,ob v=some b→ob (ψ cK)=some b∨w.heap.size≤b:=fun b Vz=>by
  rcases hb with hb|hb
  ·left;rw[←hb];exact Vz
  ·right;exact hb b Vz
 refine⟨fun _ h=>h,fun _ h=>.inl h,kk,fun i h1=>(ids i h1).imp (fun h=>h) (fun e=>by subst e;exact hN),⟨fun i xO cs pH=>?_,fun i XB z pH=>?_,fun i b h1 h2=>?_,fun i i' b h1 h2 h3 h4=>?_,fun b hz=>Nat.lt_of_lt_of_le (g.jx b hz) kk.size⟩⟩
 ·by_cases e:i=id
  ·subst e;rw[bh]at pH;cases pH
  ·have IQ:=at_ i e (by rw[pH];simp)
   rw[cZ _ _ e,cZ _ _ IQ.2]at pH
   obtain⟨gg,us,h1,h2,h3,h4⟩:=g.box i xO cs pH
   refine⟨gg,us,by rw[cZ _ _ e];exact h1,(other i gg IQ.1 IQ.2 (by rw[h1];rfl)).trans h2,?_,h4⟩
   exact h3.move (fun _ h=>h) sm (fun j hj hn=>(ids j hn).resolve_right hj) (bg i xO cs pH)
 ·by_cases e:i=id
  ·subst e;rw[bh]at pH;cases pH
   rw[bh];exact hv
  ·have IQ:=at_ i e (by rw[pH];simp)
   rw[cZ _ _ e,cZ _ _ IQ.2]at pH
   rw[cZ _ _ e]
   exact(g.row i XB z pH).kept (fun _ h=>h) sm (fun gg LH=>other i gg IQ.1 IQ.2 LH)
 ·by_cases e:i=id
  ·subst e;rw[bh]at h2
   rcases vob b h2 with h3|h3
   ·exact g.live cK b hold h3
   ·exact⟨fun hz=>by have:=g.jx b hz;omega,.inl (by omega)⟩
  ·rw[cZ _ _ e]at h2
   exact g.live i b (at_ i e h1).1 h2
 ·have key:∀j,j≠id→dM (dM h cK none) id (some (.own ok y)) j≠none→ob (ψ j)=some b→ob v=some b→False:=fun j hj h5 h6 h7=>by
   obtain⟨h8,h9⟩:=at_ j hj h5
   rcases vob b h7 with mO|mO
   ·exact h9 (g.apart j cK b h8 hold h6 mO)
   ·have:=g.bM ⟨j,h8,h6⟩;omega
  by_cases e:i=id<;>by_cases e':i'=id
  ·rw[e,e']
  ·subst e;rw[bh]at h3;rw[cZ _ _ e']at h4
   exact(key i' e' h2 h4 h3).elim
  ·subst e';rw[bh]at h4;rw[cZ _ _ e]at h3
   exact(key i e h1 h3 h4).elim
  ·rw[cZ _ _ e]at h3;rw[cZ _ _ e']at h4
   exact g.apart i i' b (at_ i e h1).1 (at_ i' e' h2).1 h3 h4
def LJ(w:World)(sz:Nat)(u:Value)(m:Nat)(news:List Value):Prop :=
 news.length=m*sz∧(∀q∈news,q.oneCell'=true)∧((u=.slice none 0 0∧m=0)∨∃a c,u=.slice (some a) m c∧∀(j:Nat) q,news[j]? = some q→w.cell? (a.add j)=some q)
theorem D6{hh:Heap}(g:Good Z ψ hh.get w B0 O){x:AV}{u:Value}{k:K}{ys:List k.T}(hx:rowOf hh x k=some ys)(hr:av Z ψ hh.get w x u):∃news,LJ w k.sz u ys.length news∧mN Z w k ys news:=by
 rcases LI g hx hr with⟨rfl,rfl⟩|⟨a,c,news,h1,_,h2,h3,h4,h5⟩
 ·exact⟨[],⟨by simp,by simp,.inl ⟨rfl,rfl⟩⟩,fun i x hx=>by simp at hx⟩
 ·exact⟨news,⟨h2,h4,.inr ⟨a,c,h1,h3⟩⟩,h5⟩
theorem eW{t ty e:TypeId}{i:TypeInfo}(ht:P.underlying t=some (.slice e))(hi:P.info? e=some i)(A:Option Addr)(n c:Nat)(hc:n≤c)(A':Option Addr)(c':Nat) :
  (Builtin.append_ #[t,t] ty #[.slice A n c,.slice A' 0 c']).run P w=.ok (.slice A n c) w:=by
 cases A<;>cases A'<;>simp[Builtin.append_,run_underlying ht,sizeOf,typeInfo,hi,Builtin.lenOf,Builtin.firstCells,hc,storeCells,loadCells,loadCellsFrom]
theorem dD{t ty e:TypeId}{k:K}{i:TypeInfo}{z:Value}(ht:P.underlying t=some (.slice e))(he:oq P e k i z){v:Value}{n:Nat}{xs:List Value}(ho:dx w e k.sz v n xs)
  {u:Value} {m:Nat} {news:List Value} (hu:LJ w k.sz u m news) (hm:n+m≤fB) :
  ∃v' w',(Builtin.append_ #[t,t] ty #[v,u]).run P w=.ok v' w'∧dx w' e k.sz v' (n+m) (xs++news)∧w.grownBy w' (ob v)∧(ob v'=ob v∨∀b,ob v'=some b→w.heap.size≤b):=by
 obtain⟨h1,h3,hu⟩:=hu
 obtain⟨A0,c0,VD⟩:=ho.slice
 by_cases Uk:m=0
 ·subst Uk
  have Ya:news=[]:=List.eq_nil_of_length_eq_zero (by rw[h1,Nat.zero_mul])
  subst Ya
  have Cd:n≤c0:=by
   rcases ho.2 with⟨h0,A,e⟩|⟨g,cap,cur,e,hc,h2,h3,_⟩
   ·omega
   ·rw[VD]at e;cases e;exact h3
  refine⟨v,w,?_,by simpa using ho,World.grownBy.refl w _,.inl rfl⟩
  subst VD
  rcases hu with⟨rfl,_⟩|⟨a,c,rfl,_⟩<;>exact eW ht he.info A0 n c0 Cd _ _
 ·rcases hu with⟨_,h0⟩|⟨a,c,rfl,h2⟩
  ·exact absurd h0 Uk
  have hb:=he.bytes
  unfold fB at hm
  have jA:(n+m)*i.bytes≤140737488355328:=Nat.le_trans (Nat.mul_le_mul hm hb) (by decide)
  have new:∀v',w.heap.size≤w.heap.size→∀(w':World),w'.ownsRow w.heap.size e k.sz v' (n+m) (xs++news)→∀b,ob v'=some b→w.heap.size≤b:=fun v' _ w' mQ b hb=>by
   rcases mQ.2 with⟨rfl,_⟩|⟨g,cap,cur,rfl,h5,_⟩
   ·simp[ob]at hb
   ·simp only[ob]at hb
    split at hb
    ·cases hb
    ·cases hb;exact h5
  rcases ho.2 with⟨rfl,A,rfl⟩|⟨g,cap,cur,rfl,VB,h4,h5,h6,h7,h8⟩
  ·have qY:xs=[]:=List.eq_nil_of_length_eq_zero (by rw[ho.1,Nat.zero_mul])
   subst qY
   have jz:ob (.slice A 0 0)=none:=by cases A<;>simp[ob]
   cases A with
   |none =>
    obtain⟨v',w',hr,h4,h5,_,h6⟩:=run_append_own_at (P:=P) w w.heap.size t ty e i z k.sz i.bytes ht he.info he.zero he.size rfl he.r8 k.g8 (.slice none 0 0) 0 [] ⟨by simp,.inl ⟨rfl,rfl⟩⟩ a m c news h1 h2 h3 (by simp only[maxLen];omega) jA (Nat.le_refl _)
    exact⟨v',w',hr,dx.of h4,by rw[jz];exact h5,.inr (new v' (Nat.le_refl _) w' h4)⟩
   |some b0 =>
    obtain⟨v',w',hr,h4,h5⟩:=run_append_arg_grows (P:=P) w t ty e i z k.sz i.bytes ht he.info he.zero he.size rfl he.r8 k.g8 b0 0 0 [] (by simp) (by simp) a m c news h1 h2 (by omega) (by simp only[maxLen];omega) jA
    exact⟨v',w',hr,dx.of h4,by rw[jz];exact h5,.inr (new v' (Nat.le_refl _) w' h4)⟩
  ·have sY:w.ownsRow 0 e k.sz (.slice (some ⟨g,0,none⟩) n cap) n xs:=⟨ho.1,.inr ⟨g,cap,cur,rfl,Nat.zero_le _,h4,h5,h6,h7,h8⟩⟩
   have jz:ob (.slice (some ⟨g,0,none⟩) n cap)=some g:=by simp only[ob];rw[if_neg (by omega)]
   obtain⟨v',w',hr,h4,h5,_,h6⟩:=run_append_own_at (P:=P) w 0 t ty e i z k.sz i.bytes ht he.info he.zero he.size rfl he.r8 k.g8 _ n xs sY a m c news h1 h2 h3 (by simp only[maxLen];omega) jA (Nat.zero_le _)
   refine⟨v',w',hr,dx.of h4,by rw[jz];exact h5,?_⟩
   rw[jz]
   rcases h4.2 with⟨rfl,h0⟩|⟨g',ac8,c6,rfl,_,_,h9,_⟩
   ·omega
   ·have Sp:ob (.slice (some ⟨g',0,none⟩) (n+m) ac8)=some g':=by simp only[ob];rw[if_neg (by omega)]
    rw[Sp]
    simp only[Value.ownBlock,Option.some.injEq]at h6
    rcases h6 with h6|h6
    ·left;rw[h6]
    ·right;intro b hb;cases hb;omega
theorem av.pI{h h':Hp}(hs:∀id o,h' id=some o→h id=some o){a:AV}{v:Value}(hr:av Z ψ h w a v):av Z ψ h' w a v :=
 hr.less (fun _ h=>h) (cp.refl _ _) (fun id bL=>by
  obtain⟨o,ho⟩:=Option.ne_none_iff_exists'.1 bL
  exact⟨by rw[hs id o ho];simp,rfl⟩)
theorem ak.pI{h h':Hp}(hs:∀id o,h' id=some o→h id=some o){a:List AV}{v:List Value}(hr:ak Z ψ h w a v):ak Z ψ h' w a v :=
 hr.less (fun _ h=>h) (cp.refl _ _) (fun id bL=>by
  obtain⟨o,ho⟩:=Option.ne_none_iff_exists'.1 bL
  exact⟨by rw[hs id o ho];simp,rfl⟩)
theorem pe{hh:Heap}(g:Good Z ψ h w B0 O)(bz:∀id o,hh.get id=some o→h id=some o)(hB:B0≤w.heap.size){id:Nat}(hN:N id){t ty e:TypeId}{k:K}{i:TypeInfo}{z:Value}(ht:P.underlying t=some (.slice e))(he:oq P e k i z)
  {x:AV} {u:Value} {ys:List k.T} (hx:rowOf hh x k=some ys) (hr:av Z ψ h w x u) (hm:ys.length≤fB)
  (bg:∀i ty cs,h i=some (.box ty cs)→ax (fun i=>i≠id) cs) :
  ∃v' w',(Builtin.append_ #[t,t] ty #[.slice none 0 0,u]).run P w=.ok v' w'∧Next Z ψ h w B0 O N Z (dM ψ id v') (dM h id (some (.own (.row e k) ys))) w'∧v'.cells=#[v']∧v'.oneCell'=true:=by
 obtain⟨news,vG,hv⟩:=D6 (g.sub bz) hx (hr.pI bz)
 have FF:dx w e k.sz (.slice none 0 0) 0 []:=⟨by simp,.inl ⟨rfl,none,rfl⟩⟩
 obtain⟨v',w',dk,h4,h5,h6⟩:=dD (ty:=ty) ht he FF vG (by omega)
 have hg:w.grownBy w' none:=h5
 have kk:cW ψ h w w':=cW.grown hg (fun b e=>by cases e)
 have sm:=kk.same g
 refine⟨v',w',dk,qe g hB id e hN (vs:=news) kk (fun b hb=>hg.block b (g.bM hb) (by simp)) (by simpa using h4) (fun i x hx=>(hv i x hx).mono (fun _ h=>h) sm) (fun b hb=>?_) bg,h4.one⟩
 rcases h6 with h6|h6
 ·rw[h6]at hb;simp[ob]at hb
 ·exact h6 b hb
theorem xT{hh:Heap}(g:Good Z ψ h w B0 O)(bz:∀id o,hh.get id=some o→h id=some o)(hB:B0≤w.heap.size){id cK:Nat}(hN:N id)(bq:cK≠id){t ty e:TypeId}{k:K}{i:TypeInfo}{z:Value}(ht:P.underlying t=some (.slice e))(he:oq P e k i z)
  {xs:List k.T} (ho:h cK=some (.own (.row e k) xs)) {x:AV} {u:Value} {ys:List k.T} (hx:rowOf hh x k=some ys) (hr:av Z ψ h w x u) (hm:xs.length+ys.length≤fB)
  (bg:∀i ty cs,h i=some (.box ty cs)→ax (fun i=>i≠id) cs) :
  ∃v' w',(Builtin.append_ #[t,t] ty #[ψ cK,u]).run P w=.ok v' w'∧Next Z ψ h w B0 O N Z (dM ψ id v') (dM (dM h cK none) id (some (.own (.row e k) (xs++ys)))) w'∧v'.cells=#[v']∧v'.oneCell'=true:=by
 obtain⟨news,vG,hv⟩:=D6 (g.sub bz) hx (hr.pI bz)
 obtain⟨vs,ho0,VD⟩:=g.row cK (.row e k) xs ho
 obtain⟨v',w',dk,h4,h5,h6⟩:=dD (ty:=ty) ht he ho0 vG hm
 have hold:h cK≠none:=by rw[ho];simp
 have kk:cW ψ h w w':=cW.grown h5 (fun b e=>⟨cK,hold,e⟩)
 have sm:=kk.same g
 refine⟨v',w',dk,qf g hB id cK hN ho bq h5 (ok:=.row e k) (y:=xs++ys) ⟨_,by rw[List.length_append];exact h4,(VD.append hv ho0.1).FD sm⟩ h6 bg,h4.one⟩
theorem zn{hh:Heap}(g:Good Z ψ h w B0 O)(bz:∀id o,hh.get id=some o→h id=some o)(hB:B0≤w.heap.size){id:Nat}(hN:N id){t ty e:TypeId}{k:K}{i:TypeInfo}{z:Value}(ht:P.underlying t=some (.slice e))(he:oq P e k i z)
  {xs:List k.T} {v:Value} (hd:av Z ψ h w (.sl true k xs) v) {x:AV} {u:Value} {ys:List k.T} (hx:rowOf hh x k=some ys) (hr:av Z ψ h w x u) (IL:0<ys.length∨xs=[]) (hm:xs.length+ys.length≤fB)
  (bg:∀i ty cs,h i=some (.box ty cs)→ax (fun i=>i≠id) cs) :
  ∃v' w',(Builtin.append_ #[t,t] ty #[v,u]).run P w=.ok v' w'∧Next Z ψ h w B0 O N Z (dM ψ id v') (dM h id (some (.own (.row e k) (xs++ys)))) w'∧v'.cells=#[v']∧v'.oneCell'=true:=by
 simp only[av]at hd
 obtain⟨hd,hex⟩:=hd
 obtain⟨A,c,Nt⟩:=hex trivial
 rcases sX hd with⟨rfl,rfl⟩|⟨a,c',Yb,h1,_,h2,h3,h4,h5⟩
 ·have:=pe (ty:=ty) (N:=N) g bz hB hN ht he hx hr (by omega) bg
  simpa using this
 ·rw[h1]at Nt;cases Nt
  obtain⟨news,⟨h6,h7,hu⟩,hv⟩:=D6 (g.sub bz) hx (hr.pI bz)
  by_cases hy0:ys.length=0
  ·have hy:ys=[]:=List.eq_nil_of_length_eq_zero hy0
   have qY:xs=[]:=IL.resolve_left (by omega)
   subst qY
   have FF:dx w e k.sz (.slice (some a) 0 0) 0 []:=⟨by simp,.inl ⟨rfl,_,rfl⟩⟩
   refine⟨v,w,?_,qe g hB id e hN (vs:=[]) (cW.refl _ _ _) (fun _ _=>rfl) (by rw[hy,h1];exact FF) (fun i x hx=>by rw[hy]at hx;simp at hx) (fun b hb=>by rw[h1]at hb;simp[ob]at hb) bg,by rw[h1];exact FF.one⟩
   rw[h1]
   rw[hy0]at hu
   rcases hu with⟨rfl,_⟩|⟨b,cu,rfl,_⟩<;>exact eW ht he.info _ _ _ (Nat.le_refl _) _ _
  rcases hu with⟨_,h0⟩|⟨b,cu,rfl,h8⟩
  ·omega
  ·have hb:=he.bytes
   unfold fB at hm
   have jA:(xs.length+ys.length)*i.bytes≤140737488355328:=Nat.le_trans (Nat.mul_le_mul hm hb) (by decide)
   obtain⟨v',w',dk,h9,mO⟩:=run_append_arg_grows (P:=P) w t ty e i z k.sz i.bytes ht he.info he.zero he.size rfl he.r8 k.g8 a xs.length xs.length Yb h2 h3 b ys.length cu news h6 h8 (by omega) (by simp only[maxLen];omega) jA
   have kk:cW ψ h w w':=cW.grown mO (fun b e=>by cases e)
   have sm:=kk.same g
   have h9':dx w' e k.sz v' (xs++ys).length (Yb++news):=by
    rw[List.length_append]
    exact dx.of h9
   subst h1
   refine⟨v',w',dk,qe g hB id e hN kk (fun b hb=>mO.block b (g.bM hb) (by simp)) h9' ((h5.append hv h2).FD sm) (fun b hb=>?_) bg,h9'.one⟩
   rcases h9.2 with⟨e1,_⟩|⟨gg,cap,cur,e1,e2,_⟩
   ·rw[e1]at hb;simp[ob]at hb
   ·rw[e1]at hb
    simp only[ob]at hb
    split at hb
    ·cases hb
    ·cases hb;omega
end Go.Vs
namespace Go.Vs
variable {P:Program} {Z Z':Nat→Prop} {ψ ψ':Nat→Value} {h h':Hp} {w w':World} {B0:Nat} {O:Nat→Prop} {N:Nat→Prop}
theorem tY:∀(vs:List Value) (k off:Nat) (cells:Array Value),
  (vs.zipIdx k).foldl (fun cs (p:Value×Nat)=>cs.setIfInBounds (off+p.2) p.1) cells=(dO cells.toList (off+k) vs).toArray
 |[],k,off,cells=>by simp[dO]
 |v::r,k,off,cells=>by
  simp only[List.zipIdx_cons,List.foldl_cons,dO]
  rw[tY r (k+1) off]
  simp[Nat.add_assoc]
theorem wZ(V:Array Value)(off:Nat)(cells:Array Value) :
  V.zipIdx.foldl (fun cs (p:Value×Nat)=>cs.setIfInBounds (off+p.2) p.1) cells=(dO cells.toList off V.toList).toArray:=by
 rw[←Array.foldl_toList,Array.toList_zipIdx]
 exact tY V.toList 0 off cells
theorem r9{α:Type}:∀(vs cs:List α) (off:Nat),(dO cs off vs).length=cs.length
 |[],_,_=>rfl
 |v::r,cs,off=>by simp only[dO];rw[r9 r];simp
theorem ak.dO:∀{vs cs:List AV} {us ds:List Value} (off:Nat),ak Z ψ h w vs us→ak Z ψ h w cs ds→ak Z ψ h w (dO cs off vs) (dO ds off us)
 |[],cs,us,ds,off,h1,h2=>by simp only[ak]at h1;subst h1;exact h2
 |v::r,cs,us,ds,off,h1,h2=>by
  simp only[ak]at h1
  obtain⟨u,iF,rfl,h3,h4⟩:=h1
  simp only[Vs.dO]
  exact ak.dO (off+1) h4 (h2.set off h3)
theorem av.cells{a:AV}{v:Value}(hk:a≠.no)(hr:av Z ψ h w a v):ak Z ψ h w a.cells v.cells.toList:=by
 cases a with
 |no=>exact absurd rfl hk
 |agg cs=>simp only[av]at hr;obtain⟨vs,rfl,hr⟩:=hr;simpa[AV.cells,Value.cells] using hr
 |bool b=>simp only[av]at hr;subst hr;simp[AV.cells,Value.cells,ak,av]
 |int k n=>simp only[av]at hr;subst hr;simp[AV.cells,Value.cells,ak,av]
 |str s=>simp only[av]at hr;subst hr;simp[AV.cells,Value.cells,ak,av]
 |kN=>simp only[av]at hr;subst hr;simp[AV.cells,Value.cells,ak,av]
 |fJ=>simp only[av]at hr;subst hr;simp[AV.cells,Value.cells,ak,av]
 |ref id s i off=>obtain⟨a,rfl,h2⟩:=(by simpa only[av] using hr:∃a,v=.pointer (some a)∧_);simp only[AV.cells,Value.cells,ak];exact⟨_,[],by simp,hr,rfl⟩
 |fp k x off=>obtain⟨a,us,rfl,h2⟩:=(by simpa only[av] using hr:∃a us,v=.pointer (some a)∧_);simp only[AV.cells,Value.cells,ak];exact⟨_,[],by simp,hr,rfl⟩
 |sl ex k xs =>
  have qV:=hr
  simp only[av,aD]at qV
  obtain⟨⟨v',hv,A,c,rfl,_⟩,_⟩:=qV
  cases hv
  simp only[AV.cells,Value.cells,ak];exact⟨_,[],by simp,hr,rfl⟩
 |bF id =>
  have qV:=hr
  simp only[av]at qV
  obtain⟨⟨hc,_⟩,_⟩:=qV
  simp only[AV.cells,ak,hc];exact⟨_,[],by simp,hr,rfl⟩
 |mp kk vk es =>
  have qV:=hr
  simp only[av,aD]at qV
  obtain⟨A,hv,_⟩:=qV
  cases hv
  simp only[AV.cells,Value.cells,ak];exact⟨_,[],by simp,hr,rfl⟩
 |fn f cap =>
  have qV:=hr
  simp only[av]at qV
  obtain⟨vs,rfl,_⟩:=qV
  simp only[AV.cells,Value.cells,ak];exact⟨_,[],by simp,hr,rfl⟩
 |mI vs =>
  have qV:=hr
  simp only[av]at qV
  obtain⟨us,rfl,_⟩:=qV
  simp only[AV.cells,Value.cells,ak];exact⟨_,[],by simp,hr,rfl⟩
def sd(Z:Nat→Prop)(ψ:Nat→Value)(h:Hp)(w:World):List (Nat×AV)→List (Nat×Value)→Prop
 |[],[]=>True
 |p::r,q::s=>p.1=q.1∧p.2≠.no∧av Z ψ h w p.2 q.2∧sd Z ψ h w r s
 |_,_=>False
theorem FG{place:Nat→Option (Nat×Nat)}:∀{ps:List (Nat×AV)} {qs:List (Nat×Value)} {cs cs':List AV} {cells:Array Value},sd Z ψ h w ps qs→ak Z ψ h w cs cells.toList→CE place cs ps=some cs' →
  ∃fE,Instr.fill place cells qs=some fE∧ak Z ψ h w cs' fE.toList
 |[],[],cs,cs',cells,_,hr,hf=>by simp only[CE]at hf;cases hf;exact⟨cells,rfl,hr⟩
 |[],_::_,_,_,_,hp,_,_=>hp.elim
 |_::_,[],_,_,_,hp,_,_=>hp.elim
 |(i,a)::ps,(j,v)::qs,cs,cs',cells,hp,hr,hf=>by
  obtain⟨rfl,qg,hv,hp⟩:=hp
  simp only[CE]at hf
  simp only at qg hv
  have Nt:=hv.cells qg
  have hl:=Nt.length
  have sf:=hr.length
  simp only[Array.length_toList]at hl sf
  simp only[Instr.fill]
  split at hf
  ·cases hf
  ·rename_i off size hpl
   simp only[hpl]
   split at hf
   ·cases hf
   ·rename_i hc
    have VF:a.cells.length=size:=Decidable.not_not.1 (fun e=>hc (.inl e))
    have tJ:¬off+a.cells.length>cs.length:=fun e=>hc (.inr e)
    rw[if_neg (by simp only[Bool.or_eq_true,decide_eq_true_eq];omega)]
    refine FG hp ?_ hf
    rw[wZ,List.toList_toArray]
    exact Nt.dO off hr
theorem NT(fs:Array Field)(hi:∀f∈fs.toList,∃i,P.info? f.type=some i):(fs.mapM fun f=>do pure (f.offset,←sizeOf f.type):Sem (Array (Nat×Nat))).run P w=.ok (fs.map fun f=>(f.offset,P.cellsOf f.type)) w:=by
 rw[←Array.toArray_toList (xs:=fs)]
 generalize fs.toList=l at hi
 have key:∀(l:List Field) (acc:Array (Nat×Nat)),(∀f∈l,∃i,P.info? f.type=some i) →
   (l.foldlM (fun(bs:Array (Nat×Nat)) f=>do let y ←(do pure (f.offset,←sizeOf f.type):Sem (Nat×Nat));pure (bs.push y)) acc:Sem (Array (Nat×Nat))).run P w=.ok (acc++(l.map fun f=>(f.offset,P.cellsOf f.type)).toArray) w:=by
  intro l
  induction l with
  |nil=>intro acc _;simp
  |cons f r ih =>
   intro acc hl
   obtain⟨i,hi⟩:=hl f (by simp)
   simp only[List.foldlM_cons,Sem.run_bind,du hi,Result.andThen_ok,Sem.run_pure]
   rw[ih _ (fun f hf=>hl f (List.mem_cons_of_mem _ hf))]
   simp
 have:=key l #[] hi
 simp only[Array.mapM_eq_foldlM,List.size_toArray,List.foldlM_toArray']
 simpa using this
theorem D7(v:Value):av Z ψ h w (vw v) v:=by
 cases v with
 |bool b=>simp only[vw,av]
 |int k n=>simp only[vw,av]
 |string s=>simp only[vw,av]
 |pointer a =>
  simp only[vw];split
  ·rename_i e;subst e;simp only[av]
  ·simp only[av]
 |slice a n c =>
  simp only[vw];split
  ·rename_i e;obtain⟨rfl,rfl,rfl⟩:=e;simp only[av]
  ·simp only[av]
 |func fn first cap =>
  cases fn with
  |func f =>
   simp only[vw];split
   ·rename_i e
    have h1:first=#[]:=Array.eq_empty_of_size_eq_zero e.1
    have h2:cap=#[]:=Array.eq_empty_of_size_eq_zero e.2
    subst h1;subst h2
    simp only[av];exact⟨#[],rfl,by simp[ak]⟩
   ·simp only[av]
  |_=>simp only[vw,av]
 |_=>simp only[vw,av]
theorem zo:∀vs:List Value,ak Z ψ h w (vs.map vw) vs
 |[]=>by simp[ak]
 |v::r=>by simp only[List.map_cons,ak];exact⟨v,r,rfl,D7 v,zo r⟩
theorem FH(v:Value):av Z ψ h w (sP v) v:=by
 cases v with
 |agg cs=>simp only[sP,av];exact⟨cs,rfl,zo _⟩
 |_=>simp only[sP];exact D7 _
theorem CM(v:Value):(vw v).cells=[vw v]:=by
 cases v with
 |pointer a=>simp only[vw];split<;>rfl
 |slice a n c=>simp only[vw];split<;>rfl
 |func fn first cap =>
  cases fn with
  |func f=>simp only[vw];split<;>rfl
  |_=>rfl
 |_=>rfl
theorem zp(v:Value):ak Z ψ h w (sP v).cells v.cells.toList:=by
 cases v with
 |agg cs=>simp only[sP,AV.cells,Value.cells];exact zo _
 |_ =>
  simp only[sP]
  rw[CM]
  simp only[ak]
  exact⟨_,[],rfl,D7 _,rfl⟩
theorem ot{t:TypeId}{zs:List AV}(hz:yV P t=some zs):∃i z,P.info? t=some i∧i.zero=some z∧zs=(sP z).cells∧∀u∈z.cells.toList,u.oneCell'=true:=by
 unfold yV at hz
 obtain⟨i,hi,w4⟩:=Option.bind_eq_some_iff.1 hz
 obtain⟨z,B4,Iq⟩:=Option.bind_eq_some_iff.1 w4
 split at Iq
 ·rename_i fg
  cases Iq
  exact⟨i,z,hi,B4,rfl,fun u hu=>List.all_eq_true.1 fg u hu⟩
 ·cases Iq
theorem tZ{t:TypeId}{i:TypeInfo}{z:Value}(hi:P.info? t=some i)(hz:i.zero=some z):(zeroValue t).run P w=.ok z w:=by
 simp[zeroValue,typeInfo,hi,hz]
theorem LK{t:TypeId}{fs:Array Field}{zs cs:List AV}{ps:List (Nat×AV)}{qs:Array (Nat×Value)}(hz:yV P t=some zs)(ht:P.underlying t=some (.struct fs))(fg:fs.toList.all (fun f=>(P.info? f.type).isSome)=true)
  (hp:sd Z ψ h w ps qs.toList) (hf:CE (fun i=>(fs[i]?).map fun f=>(f.offset,P.cellsOf f.type)) zs ps=some cs) :
  ∃V,(Instr.build t qs).run P w=.ok V w∧av Z ψ h w (.agg cs) V:=by
 obtain⟨i,z,hi,Yc,rfl,_⟩:=ot hz
 obtain⟨fE,h1,h2⟩:=FG hp (zp z) hf
 have hpl:=NT (P:=P) (w:=w) fs (fun f hf=>Option.isSome_iff_exists.1 (List.all_eq_true.1 fg f hf))
 refine⟨.agg fE,?_,by simp only[av];exact⟨_,rfl,h2⟩⟩
 have RP:Instr.fill (fun x=>(fs.map fun f=>(f.offset,P.cellsOf f.type))[x]?) z.cells qs.toList=some fE:=by
  rw[←h1];congr 1;funext x;simp
 simp only[Instr.build,Sem.run_bind,tZ hi Yc,run_underlying ht,Result.andThen_ok,hpl,RP]
 rfl
theorem IS:∀(k:K) (cs:List AV) (x:k.T) (r:List AV),dec k cs=some (x,r)→cs.head?≠some .no
 |.int ik,cs,x,r,h,hc=>by
  cases cs with
  |nil=>simp at hc
  |cons a s=>simp at hc;subst hc;simp[dec,DY]at h
 |.bool,cs,x,r,h,hc=>by
  cases cs with
  |nil=>simp at hc
  |cons a s=>simp at hc;subst hc;simp[dec,yf]at h
 |.str,cs,x,r,h,hc=>by
  cases cs with
  |nil=>simp at hc
  |cons a s=>simp at hc;subst hc;simp[dec,DZ]at h
 |.sl k,cs,x,r,h,hc=>by
  cases cs with
  |nil=>simp at hc
  |cons a s=>simp at hc;subst hc;simp[dec,Kn]at h
 |.pair a b,cs,x,r,h,hc=>by
  simp only[dec]at h
  split at h
  ·rename_i x1 r1 h1
   exact IS a cs x1 r1 h1 hc
  ·cases h
 |.one k,cs,x,r,h,hc=>by
  simp only[dec]at h
  exact IS k cs x r h hc
 |.mp kk vk,cs,x,r,h,hc=>by
  cases cs with
  |nil=>simp at hc
  |cons a s=>simp at hc;subst hc;simp[dec,Ko]at h
theorem CN{k:K}{hh:Heap}{a:AV}{x:k.T}(h:dB k (a.cells.map (cE hh))=some x):a≠.no:=by
 rintro rfl
 unfold dB at h
 split at h
 ·rename_i x' h1
  exact IS k _ _ _ h1 (by simp[AV.cells,cE])
 ·cases h
theorem FI{k:K}{hh:Heap}(g:Good Z ψ hh.get w B0 O)(hz:∀b,Z b→Z' b):∀{ps:List (Nat×AV)} {qs:List (Nat×Value)} {xs:List k.T} {i:Nat} {cells:Array Value},
  (∀p∈ps,∀id b,AV.bF id∈p.2.cells→hh.get id≠none→ob (ψ id)=some b→Z' b)→sd Z ψ hh.get w ps qs→pY k hh i ps=some xs→(i+ps.length)*k.sz≤cells.size →
  ∃fE flat,Instr.fill (fun i=>some (i*k.sz,k.sz)) cells qs=some fE∧fE.toList=cells.toList.take (i*k.sz)++flat++cells.toList.drop ((i+ps.length)*k.sz)∧flat.length=ps.length*k.sz∧mN Z' w k xs flat∧(∀q∈flat,q.oneCell'=true)∧xs.length=ps.length
 |[],[],xs,i,cells,_,_,hl,_=>by
  simp only[pY]at hl;cases hl
  exact⟨cells,[],rfl,by simp,by simp,fun i x hx=>by simp at hx,by simp,rfl⟩
 |[],_::_,_,_,_,_,hp,_,_=>hp.elim
 |_::_,[],_,_,_,_,hp,_,_=>hp.elim
 |(j,a)::ps,(j',v)::qs,xs,i,cells,hb,hp,hl,hs=>by
  obtain⟨hjj,qg,hv,hp⟩:=hp
  simp only at hjj qg hv
  subst hjj
  simp only[pY]at hl
  split at hl
  ·rename_i e
   subst e
   split at hl
   ·rename_i y ys h1 h2
    cases hl
    simp only[List.length_cons]at hs
    have Nt:=hv.cells qg
    have hvw:=np g hz (hb (j,a) (by simp)) Nt
    have hk:=dC h1 hvw
    have NU:=hk.len
    rw[Array.length_toList]at NU
    have iQ:j*k.sz+k.sz≤cells.size:=by
     have:(j+1)*k.sz≤(j+(ps.length+1))*k.sz:=Nat.mul_le_mul_right _ (by omega)
     rw[Nat.succ_mul]at this;omega
    simp only[Instr.fill]
    rw[if_neg (by simp only[Bool.or_eq_true,decide_eq_true_eq];omega),wZ]
    obtain⟨fE,flat,h3,h4,h5,h6,h7,h8⟩:=FI g hz (ps:=ps) (qs:=qs) (xs:=ys) (i:=j+1) (cells:=(dO cells.toList (j*k.sz) v.cells.toList).toArray) (fun p hp=>hb p (List.mem_cons_of_mem _ hp)) hp h2 (by
     rw[List.size_toArray,r9]
     have e9:cells.toList.length=cells.size:=Array.length_toList
     rw[e9,show j+1+ps.length=j+(ps.length+1) by omega];exact hs)
    refine⟨fE,v.cells.toList++flat,h3,?_,?_,?_,?_,by simp[h8]⟩
    ·rw[h4,List.toList_toArray,qW _ _ _ (by rw[Array.length_toList,Array.length_toList];omega)]
     have e1:(j+1)*k.sz=j*k.sz+k.sz:=Nat.succ_mul _ _
     have e2:(j+1+ps.length)*k.sz=(j+(ps.length+1))*k.sz:=by congr 1;omega
     rw[List.length_cons,e1,e2]
     have l1:(cells.toList.take (j*k.sz)++v.cells.toList).length=j*k.sz+k.sz:=by
      rw[List.length_append,List.length_take,Array.length_toList,Array.length_toList];omega
     rw[←l1,List.take_left]
     have l2:(j+(ps.length+1))*k.sz=(cells.toList.take (j*k.sz)++v.cells.toList).length+(ps.length*k.sz):=by
      rw[l1,Nat.add_mul,Nat.add_mul];omega
     have hd:(cells.toList.take (j*k.sz)++v.cells.toList++cells.toList.drop (j*k.sz+v.cells.toList.length)).drop ((j+(ps.length+1))*k.sz)=cells.toList.drop ((j+(ps.length+1))*k.sz):=by
      rw[l2,List.drop_append,List.drop_eq_nil_of_le (by omega),List.nil_append,Nat.add_sub_cancel_left,List.drop_drop]
      congr 1
      rw[l1,Array.length_toList];omega
     rw[hd]
     simp[List.append_assoc]
    ·rw[List.length_append,h5,Array.length_toList,NU,List.length_cons,Nat.succ_mul];omega
    ·intro n x hx
     cases n with
     |zero =>
      simp only[List.getElem?_cons_zero,Option.some.injEq]at hx;subst hx
      have VG:v.cells.toList.length=k.sz:=by rw[Array.length_toList];exact NU
      rw[Nat.zero_mul,List.drop_zero,←VG,List.take_left]
      exact hk
     |succ n =>
      have:=h6 n x (by simpa using hx)
      have VG:v.cells.toList.length=k.sz:=by rw[Array.length_toList];exact NU
      have e:(n+1)*k.sz=v.cells.toList.length+n*k.sz:=by rw[VG,Nat.succ_mul];omega
      rw[e,List.drop_append,List.drop_eq_nil_of_le (by omega),List.nil_append,Nat.add_sub_cancel_left]
      exact this
    ·intro q hq
     rcases List.mem_append.1 hq with hq|hq
     ·exact hk.one q hq
     ·exact h7 q hq
   ·cases hl
  ·cases hl
theorem Next.drop{Z1:Nat→Prop}{h1:Hp}(n:Next Z1 ψ h1 w B0 O N Z' ψ' h' w')(hz:∀b,Z b→Z1 b)(w4:∀b,Z1 b→Z b∨Own ψ h b)(bz:∀id o,h1 id=some o→h id=some o):Next Z ψ h w B0 O N Z' ψ' h' w':=by
 have hn:∀id,h1 id≠none→h id≠none:=fun id hn=>by
  obtain⟨o,ho⟩:=Option.ne_none_iff_exists'.1 hn
  rw[bz id o ho];simp
 have ho:∀b,Own ψ h1 b→Own ψ h b:=fun b ⟨id,h2,h3⟩=>⟨id,hn id h2,h3⟩
 refine⟨fun b hb=>n.fD b (hz b hb),fun b hb=>?_,⟨n.keep.os,n.keep.tape,n.keep.output,n.keep.size,fun b hb qg=>n.keep.block b hb (fun h=>qg (ho b h))⟩,fun id bL=>(n.ids id bL).imp (fun⟨h2,h3⟩=>⟨hn id h2,h3⟩) (fun h=>h),n.dL⟩
 rcases n.dY b hb with h2|h2|h2
 ·exact(w4 b h2).imp (fun h=>h) (fun h=>.inl h)
 ·exact .inr (.inl (ho b h2))
 ·exact .inr (.inr h2)
theorem sd.pI{h h':Hp}(hs:∀id o,h' id=some o→h id=some o):∀{ps:List (Nat×AV)} {qs:List (Nat×Value)},sd Z ψ h w ps qs→sd Z ψ h' w ps qs:=by
 intro ps
 induction ps with
 |nil=>intro qs hp;cases qs with
  |nil=>trivial
  |cons q r=>exact hp.elim
 |cons p r ih=>intro qs hp;cases qs with
  |nil=>exact hp.elim
  |cons q s=>exact⟨hp.1,hp.2.1,hp.2.2.1.pI hs,ih hp.2.2.2⟩
theorem FJ{hh:Heap}{Z1:Nat→Prop}(g:Good Z1 ψ h w B0 O)(g0:Good Z ψ hh.get w B0 O)(hz:∀b,Z b→Z1 b)(hB:B0≤w.heap.size){id:Nat}(hN:N id){t e:TypeId}{k:K}{i:TypeInfo}{z:Value}(ht:P.underlying t=some (.slice e))(he:oq P e k i z)
  {ps:List (Nat×AV)} {qs:Array (Nat×Value)} {xs:List k.T} (Nu:∀p∈ps,∀id b,AV.bF id∈p.2.cells→hh.get id≠none→ob (ψ id)=some b→Z1 b) (hp:sd Z ψ hh.get w ps qs.toList) (hl:pY k hh 0 ps=some xs) (hn:ps.length*k.sz≤1048576)
  (bg:∀i ty cs,h i=some (.box ty cs)→ax (fun i=>i≠id) cs) :
  ∃v' w',(Instr.buildSlice t ps.length qs).run P w=.ok v' w'∧Next Z1 ψ h w B0 O N Z1 (dM ψ id v') (dM h id (some (.own (.row e k) xs))) w'∧(v'.cells=#[v']∧v'.oneCell'=true)∧(∀b,Own ψ h b→w'.heap[b]? = w.heap[b]?)∧(∀b,ob v'=some b→w.heap.size≤b)∧∃A c,v'=.slice A c c:=by
 let FK:Array Value:=(Array.range (ps.length*k.sz)).map (z.cells[· % z.cells.size]!)
 have vH:FK.size=ps.length*k.sz:=by simp[FK]
 obtain⟨fE,flat,h1,h2,h3,h4,h5,h6⟩:=FI (Z':=Z1) g0 hz (ps:=ps) (qs:=qs.toList) (xs:=xs) (i:=0) (cells:=FK) Nu hp hl (by rw[Nat.zero_add,vH];exact Nat.le_refl _)
 have Ul:fE.toList=flat:=by
  rw[h2,Nat.zero_mul,List.take_zero,List.nil_append,Nat.zero_add,List.drop_eq_nil_of_le (by rw[Array.length_toList,vH];exact Nat.le_refl _),List.append_nil]
 have LL:fE.size=ps.length*k.sz:=by rw[←Array.length_toList,Ul];exact h3
 have IL:=k.g8
 have hlen:ps.length≤1048576:=Nat.le_trans (Nat.le_mul_of_pos_right _ IL) hn
 have sY:(w.alloc (.cells fE e)).ownsRow 0 e k.sz (.slice (some ⟨w.heap.size,0,none⟩) ps.length ps.length) xs.length flat:=by
  have:=World.ownsRow_lit (base:=0) (e:=e) (size:=k.sz) w fE ps.length (Nat.zero_le _) (by simp only[maxLen];omega) LL
  rw[h6,←Ul];exact this
 refine⟨.slice (some ⟨w.heap.size,0,none⟩) ps.length ps.length,w.alloc (.cells fE e),?_,qe g hB id e hN (vs:=flat) (cW.alloc _ _ _ _) (fun b hb=>heap_alloc_old w _ (g.bM hb)) (dx.of sY) (h4.FD ((cW.alloc ψ h w _).same g)) (fun b hb=>by simp only[ob]at hb;split at hb<;>cases hb;exact Nat.le_refl _) bg,(dx.of sY).one,fun b hb=>heap_alloc_old w _ (g.bM hb),fun b hb=>by simp only[ob]at hb;split at hb<;>cases hb;exact Nat.le_refl _,_,_,rfl⟩
 ·show _=Result.ok (Value.slice (some ⟨w.heap.size,0,none⟩) ps.length ps.length) _
  have zq:¬ps.length*k.sz>2 ^ 24:=by omega
  have hc:P.cellsOf e=k.sz:=by simp[Program.cellsOf,he.info,he.size]
  simp only[Instr.buildSlice,Sem.run_bind,run_underlying ht,Result.andThen_ok,du he.info,hc]
  rw[if_neg zq]
  have Ce:(newRow e fE).run P w=.ok ⟨w.heap.size,0,none⟩ (w.alloc (.cells fE e)):=rfl
  by_cases h0:ps.length*k.sz=0
  ·have Sq:FK=#[]:=Array.eq_empty_of_size_eq_zero (by rw[vH,h0])
   have w4:(Array.range (ps.length*k.sz)).map (fun x=>(#[]:Array Value)[x%(#[]:Array Value).size]!)=#[]:=Array.eq_empty_of_size_eq_zero (by simp[h0])
   rw[if_pos h0]
   rw[Sq]at h1
   simp only[Sem.run_pure,Result.andThen_ok,w4,h1,Sem.run_bind,Ce]
  ·rw[if_neg h0]
   simp only[Sem.run_bind,tZ he.info he.zero,Result.andThen_ok,Sem.run_pure]
   rw[show(Array.range (ps.length*k.sz)).map (fun x=>z.cells[x%z.cells.size]!)=FK from rfl,h1]
   simp only[Sem.run_bind,Ce,Result.andThen_ok,Sem.run_pure]
theorem NV(g:Good Z ψ h w B0 O)(hB:B0≤w.heap.size){id:Nat}{e:TypeId}{k:K}{xs:List k.T}{v':Value}(n:Next Z ψ h w B0 O N Z (dM ψ id v') (dM h id (some (.own (.row e k) xs))) w')
  (rY:∀b,Own ψ h b→w'.heap[b]? = w.heap[b]?) (Ce:∀b,ob v'=some b→w.heap.size≤b) (hex:∃A c,v'=.slice A c c) :
  Next Z ψ h w B0 O N (fun b=>Z b∨ob v'=some b) ψ h w'∧av (fun b=>Z b∨ob v'=some b) ψ h w' (.sl true k xs) v':=by
 have nq:jq Z w' (.row e k) v' xs:=by
  have:=n.dL.row id (.row e k) xs (bh _ _ _)
  rwa [bh]at this
 obtain⟨vs,ho,hv⟩:=nq
 have m:Next Z ψ h w B0 O (fun _=>False) Z ψ h w':=g.more n.keep rY (fun _ _=>⟨rfl,rfl⟩) (fun i ty cs hb=>by
  have e:(fun _:Nat=>¬False)=fun _=>True:=by funext i;simp
  rw[e];exact ax.top cs) (fun _ _ _ h=>h.elim) (fun _ _ _ h=>h.elim) (fun _ _ h=>h.elim) (fun _ _ _ h=>h.elim) hB
 have hz:∀b,Z b→Z b∨ob v'=some b:=fun b h=>.inl h
 refine⟨⟨hz,fun b hb=>hb.imp (fun h=>h) fun h=>.inr (Ce b h),m.keep,fun i hi=>.inl ((m.ids i hi).resolve_right (fun h=>h)),⟨fun i ty cs hb=>?_,fun i ok x hb=>?_,fun i b h1 h2=>?_,m.dL.apart,fun b hb=>?_⟩⟩,?_⟩
 ·obtain⟨gg,vs,f1,f2,f3,f4⟩:=m.dL.box i ty cs hb
  exact⟨gg,vs,f1,f2,ak.less hz (cp.refl _ _) (fun _ h=>⟨h,rfl⟩) f3,f4⟩
 ·exact(m.dL.row i ok x hb).kept hz (cp.refl _ _) (fun _ _=>rfl)
 ·obtain⟨k1,k2⟩:=m.dL.live i b h1 h2
  refine⟨fun hb=>hb.elim k1 fun hb=>?_,k2⟩
  have:=g.bM ⟨i,h1,h2⟩
  have:=Ce b hb
  omega
 ·rcases hb with hb|hb
  ·exact m.dL.jx b hb
  ·exact jq.lt (ok:=.row e k) ⟨vs,ho,hv⟩ hb
 ·simp only[av]
  exact⟨tV ho hv (fun b h=>.inl h) (fun b h=>.inr h),fun _=>hex⟩
end Go.Vs
