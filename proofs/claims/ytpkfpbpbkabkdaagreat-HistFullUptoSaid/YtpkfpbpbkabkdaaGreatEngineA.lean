/- The value semantics of the loaded code: its definitions, what abstract values say of memory, and what single steps leave. -/
import Derived.Control
import Derived.Calls
import Derived.Orders
import GoSem.Machine.Frame
import Derived.Laws.AppendOwn
import GoSem.Core.Utf8
import Derived.Below
import Derived.Laws.OwnMore
import Derived.Laws.Rows
import Derived.Deep.Draws
import Derived.Laws.CopyRow
import Derived.Laws.Cells
import Derived.Laws.Sem
import Derived.Maps.AppendAt
import Derived.ArgAppend
import Derived.WalkKit
namespace Go.Vs
inductive K where
 |int (k:IntKind)|bool|str|sl (k:K)|pair (a b:K)|one (k:K)|mp (kk vk:K)
 deriving DecidableEq
def K.T:K→Type
 |.int _=>Int
 |.bool=>Bool
 |.str=>ByteArray
 |.sl k=>List k.T
 |.pair a b=>a.T×b.T
 |.one k=>k.T
 |.mp kk vk=>List (kk.T×vk.T)
def K.sz:K→Nat
 |.pair a b=>a.sz+b.sz
 |.one k=>k.sz
 |_=>1
def oO(P:Program):Nat→TypeId→Option K
 |0,_=>none
 |d+1,t =>
  match P.underlying t with
  |some (.int k)=>some (.int k)
  |some .bool=>some .bool
  |some .string=>some .str
  |some (.slice e)=>(oO P d e).map .sl
  |some (.map a b)=>match oO P d a,oO P d b with
   |some x,some y=>some (.mp x y)
   |_,_=>none
  |some (.struct fs) =>
   match (fs.toList.map fun f=>oO P d f.type).reverse with
   |[]=>none
   |[k]=>k.map .one
   |last::rest=>rest.foldl (fun acc k=>match k,acc with|some k,some a=>some (.pair k a)|_,_=>none) last
  |_=>none
def K.flat:K→Bool
 |.sl _=>false
 |.mp _ _=>false
 |.pair a b=>a.flat&&b.flat
 |.one k=>k.flat
 |_=>true
def K.isAgg:K→Bool
 |.pair _ _=>true
 |.one _=>true
 |_=>false
inductive AV where
 |no
 |bool (b:Bool)
 |int (k:IntKind) (n:Int)
 |str (s:ByteArray)
 |kb
 |eY
 |ref (id s i off:Nat)
 |fp (k:K) (x:k.T) (off:Nat)
 |sl (ex:Bool) (k:K) (xs:List k.T)
 |mp (kk vk:K) (es:List (kk.T×vk.T))
 |bp (id:Nat)
 |fn (f:FuncId) (cap:List AV)
 |agg (cs:List AV)
 |lW (vs:List AV)
def AV.isAgg:AV→Bool
 |.agg _=>true
 |_=>false
def AV.cells:AV→List AV
 |.agg cs=>cs
 |v=>[v]
def enc:(k:K)→k.T→List AV
 |.int ik,n=>[.int ik n]
 |.bool,b=>[.bool b]
 |.str,s=>[.str s]
 |.sl k,xs=>[.sl false k xs]
 |.mp kk vk,es=>[.mp kk vk es]
 |.pair a b,x=>enc a x.1++enc b x.2
 |.one k,x=>enc k x
def B7(ik:IntKind):List AV→Option (Int×List AV)
 |.int Tp n::r=>if Tp=ik then some (n,r) else none
 |_=>none
def wD:List AV→Option (Bool×List AV)
 |.bool b::r=>some (b,r)
 |_=>none
def B8:List AV→Option (ByteArray×List AV)
 |.str s::r=>some (s,r)
 |_=>none
def HT(k:K):List AV→Option (List k.T×List AV)
 |.sl _ k' xs::r=>if h:k'=k then some (h▸xs,r) else none
 |.eY::r=>some ([],r)
 |_=>none
def HU(kk vk:K):List AV→Option (List (kk.T×vk.T)×List AV)
 |.mp HV Ov es::r=>if h:HV=kk∧Ov=vk then some (h.1▸h.2▸es,r) else none
 |_=>none
def dec:(k:K)→List AV→Option (k.T×List AV)
 |.int ik,cs=>B7 ik cs
 |.bool,cs=>wD cs
 |.str,cs=>B8 cs
 |.sl k,cs=>HT k cs
 |.mp kk vk,cs=>HU kk vk cs
 |.pair a b,cs =>
  match dec a cs with
  |some (x,r)=>match dec b r with
   |some (y,r')=>some ((x,y),r')
   |none=>none
  |none=>none
 |.one k,cs=>dec k cs
def dh(k:K)(cs:List AV):Option k.T :=
 match dec k cs with
 |some (x,[])=>some x
 |_=>none
def bS:(k:K)→k.T→AV
 |.pair a b,x=>.agg (enc (.pair a b) x)
 |.one k,x=>.agg (enc (.one k) x)
 |.int ik,n=>.int ik n
 |.bool,b=>.bool b
 |.str,s=>.str s
 |.sl k,xs=>.sl false k xs
 |.mp kk vk,es=>.mp kk vk es
inductive OK where
 |row (ty:TypeId) (k:K)|map (kk vk:K)|iter (kk vk:K)|mq
 deriving DecidableEq
abbrev OK.T:OK→Type
 |.row _ k=>List k.T
 |.map kk vk=>List (kk.T×vk.T)
 |.iter kk vk=>Option (kk.T×vk.T)×List (kk.T×vk.T)
 |.mq=>ByteArray×Nat
inductive Ob where
 |box (ty:TypeId) (cs:List AV)
 |own (ok:OK) (x:ok.T)
abbrev Heap:=List (Nat×Ob)
def Heap.get:Heap→Nat→Option Ob
 |[],_=>none
 |(i,o)::r,n=>if i=n then some o else Heap.get r n
def Heap.del:Heap→Nat→Heap
 |[],_=>[]
 |(i,o)::r,n=>if i=n then Heap.del r n else(i,o)::Heap.del r n
def Heap.set(h:Heap)(n:Nat)(o:Ob):Heap:=(n,o)::h.del n
def ct(h:Heap):AV→AV
 |.bp id=>match h.get id with
  |some (.own (.row _ k) xs)=>.sl false k xs
  |some (.own (.map kk vk) es)=>.mp kk vk es
  |_=>.no
 |v=>v
def drop1(h:Heap):AV→Heap
 |.bp id=>h.del id
 |_=>h
def cq(h:Heap):List AV→Heap
 |[]=>h
 |c::r=>cq (drop1 h c) r
structure St where
 tmps:List (Nat×AV)
 heap:Heap
def look:List (Nat×AV)→Nat→AV
 |[],_=>.no
 |(i,v)::r,n=>if i=n then v else look r n
def St.put(s:St)(d:Option Tmp)(v:AV):St :=
 match d with
 |some d=>{ s with tmps:=(d,v)::s.tmps }
 |none=>s
def uf:Value→AV
 |.bool b=>.bool b
 |.int k n=>.int k n
 |.string s=>.str s
 |.pointer a=>if a=none then .kb else .no
 |.slice a n c=>if a=none∧n=0∧c=0 then .eY else .no
 |.func fn first cap=>match fn with
  |.func f=>if first.size=0∧cap.size=0 then .fn f [] else .no
  |_=>.no
 |_=>.no
def rH(v:Value):AV :=
 match v with
 |.agg cs=>.agg (cs.toList.map uf)
 |v=>uf v
def ρ(s:List (Nat×AV)):Operand→AV
 |.tmp t=>look s t
 |.const v=>rH v
 |.global _=>.no
 |.func f=>.fn f []
inductive bm where
 |val (v:AV)
 |new (v:AV) (os:Heap)
 |wr (v:AV) (h:Heap)
def bm.v:bm→AV
 |.val v=>v
 |.new v _=>v
 |.wr v _=>v
def bm.h(h:Heap):bm→Heap
 |.val _=>h
 |.new _ os=>os++h
 |.wr _ h'=>h'
inductive CK where
 |val (k:K)
 |own (ok:OK)
inductive PK where
 |val (k:K)
 |ref
 |own
 |Df (f:FuncId) (n:Nat)
 |agg (n:Nat)
inductive RK where
 |val (k:K)
 |own (ok:OK)
 |dM (b:Nat) (alts:List (Nat×Nat×Nat))
 |agg (c:List CK)
inductive BK where
 |box (ty:TypeId) (cW:List CK)
 |own (ok:OK)
def BK.cW:BK→List CK
 |.box _ c=>c
 |.own _=>[]
def CK.T:CK→Type
 |.val k=>k.T
 |.own ok=>ok.T
def oP:List CK→Type
 |[]=>Unit
 |c::r=>c.T×oP r
abbrev BK.T:BK→Type
 |.box _ c=>oP c
 |.own ok=>ok.T
def ug:List BK→Type
 |[]=>Unit
 |b::r=>b.T×ug r
def Dp:List K→Type
 |[]=>Unit
 |k::r=>k.T×Dp r
def RK.T:RK→Type
 |.val k=>k.T
 |.own ok=>ok.T
 |.dM _ alts=>Option (Fin alts.length×Nat)
 |.agg c=>oP c
def kD:List RK→Type
 |[]=>Unit
 |r::l=>r.T×kD l
def jX:List PK→List K
 |[]=>[]
 |.val k::r=>k::jX r
 |_::r=>jX r
structure aK where
 ps:List PK
 bs:List BK
 rs:List RK
 x:Option (Heap→Nat→List AV→Option (Bool×bm)):=none
abbrev aK.A(g:aK):Type:=Dp (jX g.ps)×ug g.bs
abbrev aK.B(g:aK):Type:=kD g.rs×ug g.bs
def RK.plain:RK→Bool
 |.val _=>true
 |.own ..=>true
 |.dM ..=>false
 |.agg c=>decide (c.length≤16)
def RK.flat:RK→Bool
 |.val k=>k.flat
 |.own ..=>false
 |.dM ..=>true
 |.agg _=>false
end Go.Vs
namespace Go.Vs
section
variable (P:Program)
def F3:TypeDesc→Bool
 |.struct _=>true
 |.array _ _=>true
 |_=>false
def AM(t:TypeId):Option Bool:=(P.underlying t).map F3
def fV(t:TypeId)(f:Nat):Option (Nat×TypeId) :=
 match P.underlying t with
 |some (.struct fs)=>(fs[f]?).map fun x=>(x.offset,x.type)
 |_=>none
def vu(t:TypeId):Option TypeId :=
 match P.underlying t with
 |some (.slice e)=>some e
 |_=>none
def xk(t:TypeId):Option (List AV):=(P.info? t).bind fun i=>i.zero.bind fun z=>if z.cells.toList.all (·.oneCell') then some (rH z).cells else none
def dD(t:TypeId)(cs:List AV):Option AV :=
 match AM P t with
 |some true=>if P.cellsOf t≤cs.length then some (.agg (cs.take (P.cellsOf t))) else none
 |some false=>match cs with
  |c::_=>some c
  |[]=>none
 |none=>none
def dA{α:Type}(cs:List α):Nat→List α→List α
 |_,[]=>cs
 |off,v::r=>dA (cs.set off v) (off+1) r
def AO(place:Nat→Option (Nat×Nat))(cs:List AV):List (Nat×AV)→Option (List AV)
 |[]=>some cs
 |(i,v)::r =>
  match place i with
  |none=>none
  |some (off,size)=>if v.cells.length≠size∨off+v.cells.length>cs.length then none else AO place (dA cs off v.cells) r
def cP(op:BinOp)(k:IntKind)(a b:Int):Int :=
 k.wrap ((match op with
  |.and=>BitVec.ofInt k.bits a &&& BitVec.ofInt k.bits b
  |.or=>BitVec.ofInt k.bits a ||| BitVec.ofInt k.bits b
  |.xor=>BitVec.ofInt k.bits a ^^^ BitVec.ofInt k.bits b
  |_=>BitVec.ofInt k.bits a &&& ~~~(BitVec.ofInt k.bits b)).toNat:Int)
def TT(k:IntKind)(a b:Int):Int:=k.wrap (a*2 ^ (min b.toNat k.bits))
def kc(k:IntKind)(a b:Int):Int:=a.fdiv (2 ^ (min b.toNat k.bits))
def Rk(op:BinOp)(k:IntKind)(a b:Int):Option AV :=
 match op with
 |.add=>some (.int k (k.wrap (a+b)))
 |.sub=>some (.int k (k.wrap (a-b)))
 |.mul=>some (.int k (k.wrap (a*b)))
 |.eql=>some (.bool (a==b))
 |.neq=>some (.bool (a != b))
 |.lss=>some (.bool (decide (a<b)))
 |.leq=>some (.bool (decide (a≤b)))
 |.gtr=>some (.bool (decide (a>b)))
 |.geq=>some (.bool (decide (a≥b)))
 |.and=>some (.int k (cP .and k a b))
 |.or=>some (.int k (cP .or k a b))
 |.xor=>some (.int k (cP .xor k a b))
 |.andNot=>some (.int k (cP .andNot k a b))
 |_=>none
def TU(op:BinOp)(a b:ByteArray):Option AV :=
 match op with
 |.eql=>some (.bool (a==b))
 |.neq=>some (.bool (!(a==b)))
 |_=>none
def pY:(k:K)→k.T→k.T→Bool
 |.int _,x,y=>(show Int from x)==y
 |.bool,x,y=>(show Bool from x)==y
 |.str,x,y=>(show ByteArray from x)==y
 |.sl _,_,_=>false
 |.mp _ _,_,_=>false
 |.pair a b,x,y=>pY a x.1 y.1&&pY b x.2 y.2
 |.one k,x,y=>pY k x y
def rI(kk:K){α:Type}(x:kk.T)(es:List (kk.T×α)):Option Nat:=es.findIdx? fun e=>pY kk x e.1
def ib(kk:K){α:Type}(x:kk.T)(es:List (kk.T×α)):Option α:=(rI kk x es).bind fun i=>(es[i]?).map (·.2)
def lx(kk:K){α:Type}(x:kk.T)(v:α)(es:List (kk.T×α)):List (kk.T×α):=match rI kk x es with
 |some i=>es.set i (x,v)
 |none=>es++[(x,v)]
def K1(kk:K){α:Type}(x:kk.T)(es:List (kk.T×α)):List (kk.T×α):=match rI kk x es with
 |some i=>es.eraseIdx i
 |none=>es
def j6:(k:K)→k.T
 |.int _=>(0:Int)
 |.bool=>false
 |.str=>ByteArray.empty
 |.sl k=>([]:List k.T)
 |.pair a b=>(j6 a,j6 b)
 |.one k=>j6 k
 |.mp kk vk=>([]:List (kk.T×vk.T))
def K2:K→Value→Bool
 |.int ik,.int Tp n=>decide (Tp=ik∧n=0)
 |.bool,.bool b => !b
 |.str,.string s=>decide (s=ByteArray.empty)
 |.sl _,.slice a n c=>decide (a=none∧n=0∧c=0)
 |_,_=>false
def HW(t:TypeId)(k:K):Bool:=match P.info? t with
 |some i=>match i.zero with
  |some z=>K2 k z
  |none=>false
 |none=>false
def HX(Eqs:TypeId→Option K)(t:TypeId)(k:K):Bool:=k.flat&&(match k,P.underlying t with
 |.int ik,some (.int Tp)=>decide (Tp=ik)
 |.bool,some .bool=>true
 |.str,some .string=>true
 |k,_=>k.isAgg&&decide (Eqs t=some k))
def mapOf(Eqs:TypeId→Option K)(t:TypeId):Option (K×K):=match P.underlying t with
 |some (.map a b)=>match oO P 8 a,oO P 8 b with
  |some kk,some vk=>if HX P Eqs a kk&&HW P b vk then some (kk,vk) else none
  |_,_=>none
 |_=>none
def dw{α:Type}(xs:List α)(i:Int):Option α:=if 0≤i then xs[i.toNat]? else none
def eP:Nat:=1073741824
def b4(n m:Nat):Bool:=decide (n+m≤eP)
def mr(n:Nat)(lo hi:Option AV):Option (Int×Int) :=
 match lo,hi with
 |none,none=>some (0,(n:Int))
 |some (.int .i64 l),none=>some (l,(n:Int))
 |none,some (.int .i64 h)=>some (0,h)
 |some (.int .i64 l),some (.int .i64 h)=>some (l,h)
 |_,_=>none
def aN(n:Nat)(l h:Int):Bool:=decide (0≤l)&&(decide (l≤h)&&decide (h≤(n:Int)))
def cut{α:Type}(xs:List α)(l h:Int):List α:=(xs.take h.toNat).drop l.toNat
def Rl(s:ByteArray)(l h:Int):ByteArray:=s.extract l.toNat h.toNat
variable {R:Type}
def eW(k:K)(h:Heap)(v:AV):Option k.T:=if k.isAgg=v.isAgg then dh k (v.cells.map (ct h)) else none
def rowOf(h:Heap)(v:AV)(k:K):Option (List k.T) :=
 match ct h v with
 |.sl _ k' xs=>if e:k'=k then some (e▸xs) else none
 |.eY=>some []
 |_=>none
def B9(e:TypeId)(k:K):Bool :=
 match P.info? e with
 |some i=>(match i.zero with
  |some z=>decide (i.size=k.sz)&&(decide (z.cells.size=k.sz)&&decide (i.bytes≤65536))
  |none=>false)
 |none=>false
def mu(h:Heap)(id:Nat)(t:TypeId)(s x:AV)(K:bm→Option R):Option R :=
 match vu P t with
 |none=>none
 |some e =>
  match oO P 8 e with
  |none=>none
  |some kk =>
   match rowOf h x kk,B9 P e kk with
   |some ys,true =>
    match s with
    |.eY=>cond (b4 0 ys.length) (K (.new (.bp id) [(id,.own (.row e kk) ys)])) none
    |.bp da =>
     match h.get da with
     |some (.own (.row e' k') xs) =>
      if c:e'=e∧k'=kk then cond (b4 xs.length ys.length) (K (.wr (.bp id) ((h.del da).set id (.own (.row e kk) (c.2▸xs++ys))))) none else none
     |_=>none
    |.sl ex k' xs =>
     if c:k'=kk then cond (ex&&((!ys.isEmpty || xs.isEmpty)&&b4 xs.length ys.length)) (K (.new (.bp id) [(id,.own (.row e kk) (c▸xs++ys))])) none else none
    |_=>none
   |_,_=>none
def uh:AV→Bool
 |.no=>false
 |.agg _=>false
 |.lW _=>false
 |_=>true
def F4(id:Nat):List AV→Bool
 |[]=>true
 |.bp i::r => !(i==id)&&F4 id r
 |_::r=>F4 id r
def stored(h:Heap)(vs:List AV):List AV×Heap:=(vs.map (ct h),cq h vs)
def pZ(h:Heap)(t:TypeId)(a v:AV)(K:bm→Option R):Option R :=
 if v.cells.length=P.cellsOf t∧(P.info? t).isSome∧v.cells.all uh then
  match a with
  |.ref id s i off =>
   match h.get id with
   |some (.box ty cs)=>if i=0∧off+v.cells.length≤cs.length then K (.wr .no (h.set id (.box ty (dA cs off v.cells)))) else none
   |some (.own (.row ty kk) xs) =>
    (xs[i]?).bind fun x =>
     if s=kk.sz∧off+v.cells.length≤kk.sz∧F4 id v.cells then
      match dh kk (dA (enc kk x) off (stored h v.cells).1) with
      |some y=>K (.wr .no ((stored h v.cells).2.set id (.own (.row ty kk) (xs.set i y))))
      |none=>none
     else none
   |_=>none
  |_=>none
 else none
def kE(h:Heap)(t:TypeId)(a:AV)(K:bm→Option R):Option R :=
 match a with
 |.ref id s i off =>
  match h.get id with
  |some (.box _ cs)=>if i=0 then(match dD P t (cs.drop off) with|some v=>K (.val v)|none=>none) else none
  |some (.own (.row _ kk) xs)=>if s=kk.sz then(xs[i]?).bind fun x=>match dD P t ((enc kk x).drop off) with|some v=>K (.val v)|none=>none else none
  |_=>none
 |.fp kk x off=>match dD P t ((enc kk x).drop off) with|some v=>K (.val v)|none=>none
 |_=>none
def c7(h:Heap)(t:TypeId)(x i:AV)(K:bm→Option R):Option R :=
 match vu P t with
 |none=>none
 |some e =>
  match x,i with
  |.sl _ kk xs,.int _ n=>if P.cellsOf e=kk.sz then(dw xs n).bind fun y=>K (.val (.fp kk y 0)) else none
  |.bp id,.int _ n =>
   match h.get id with
   |some (.own (.row _ kk) xs)=>if P.cellsOf e=kk.sz then cond (decide (0≤n)&&decide (n<(xs.length:Int))) (K (.val (.ref id kk.sz n.toNat 0))) none else none
   |_=>none
  |_,_=>none
def ui(x:AV)(lo hi mx:Option AV)(K:bm→Option R):Option R :=
 match x,mx with
 |.str s,none =>
  match mr s.size lo hi with
  |some (l,u)=>cond (aN s.size l u) (K (.val (.str (Rl s l u)))) none
  |none=>none
 |_,_=>none
def ni(h:Heap)(sz:Nat)(x:AV)(lo hi mx:Option AV)(K:bm→Option R):Option R :=
 match x with
 |.eY =>
  match mr 0 lo hi,mx with
  |some (l,u),none=>cond (aN 0 l u) (K (.val .eY)) none
  |_,_=>none
 |.sl _ kk xs =>
  if sz=kk.sz then
   match mr xs.length lo hi with
   |some (l,u) =>
    match mx with
    |none=>cond (aN xs.length l u) (K (.val (.sl false kk (cut xs l u)))) none
    |some (.int .i64 m)=>cond (aN xs.length l u&&(hi.isSome&&decide (m=u))) (K (.val (.sl true kk (cut xs l u)))) none
    |_=>none
   |none=>none
  else none
 |_=>none
def Rm(t:TypeId)(x:AV):Bool :=
 match P.underlying t,x with
 |some .string,.str _=>true
 |some (.slice _),.str _=>false
 |some (.slice _),_=>true
 |_,_=>false
def F5(t:TypeId):Bool :=
 match P.underlying t with
 |some (.map _ _)=>true
 |_=>false
def AP(h:Heap)(x:AV)(K:bm→Option R):Option R :=
 match ct h x with
 |.str s=>K (.val (.int .i64 (s.size:Int)))
 |.sl _ _ xs=>K (.val (.int .i64 (xs.length:Int)))
 |.eY=>K (.val (.int .i64 0))
 |_=>none
def uj(h:Heap)(x:AV)(K:bm→Option R):Option R :=
 match ct h x with
 |.mp _ _ es=>K (.val (.int .i64 (es.length:Int)))
 |_=>none
def kq(Eqs:TypeId→Option K)(id:Nat)(t:TypeId)(K:bm→Option R):Option R :=
 match mapOf P Eqs t with
 |some (kk,vk)=>K (.new (.bp id) [(id,.own (.map kk vk) [])])
 |none=>none
def mv(Eqs:TypeId→Option K)(h:Heap)(t:TypeId)(m i:AV)(ok:Bool)(K:bm→Option R):Option R :=
 match mapOf P Eqs t,ct h m with
 |some (kk,vk),.mp HV Ov es =>
  if c:HV=kk∧Ov=vk then
   match eW kk h i with
   |some x=>K (.val (cond ok (.lW [bS vk ((ib kk x (c.1▸c.2▸es:List (kk.T×vk.T))).getD (j6 vk)),.bool (ib kk x (c.1▸c.2▸es:List (kk.T×vk.T))).isSome]) (bS vk ((ib kk x (c.1▸c.2▸es:List (kk.T×vk.T))).getD (j6 vk)))))
   |none=>none
  else none
 |_,_=>none
def gN(Eqs:TypeId→Option K)(h:Heap)(t:TypeId)(m i v:AV)(K:bm→Option R):Option R :=
 match mapOf P Eqs t,m with
 |some (kk,vk),.bp id =>
  match h.get id with
  |some (.own (.map HV Ov) es) =>
   if c:HV=kk∧Ov=vk then
    match eW kk h i,eW vk h v,(v.cells.all fun c=>match c with | .bp j => !(j==id)|_=>true) with
    |some x,some y,true=>K (.wr (.lW []) ((cq h v.cells).set id (.own (.map kk vk) (lx kk x y (c.1▸c.2▸es:List (kk.T×vk.T))))))
    |_,_,_=>none
   else none
  |_=>none
 |_,_=>none
def mw(Eqs:TypeId→Option K)(h:Heap)(t:TypeId)(m i:AV)(K:bm→Option R):Option R :=
 match mapOf P Eqs t,m with
 |some (kk,vk),.bp id =>
  match h.get id with
  |some (.own (.map HV Ov) es) =>
   if c:HV=kk∧Ov=vk then
    match eW kk h i with
    |some x=>K (.wr (.lW []) (h.set id (.own (.map kk vk) (K1 kk x (c.1▸c.2▸es:List (kk.T×vk.T))))))
    |none=>none
   else none
  |_=>none
 |_,_=>none
def my(id:Nat)(t:TypeId)(x:AV)(K:bm→Option R):Option R :=
 match P.underlying t,x with
 |some .string,.str s=>K (.new (.bp id) [(id,.own .mq (s,0))])
 |_,_=>none
def nj(s:ByteArray)(p:Nat):Int:=(Utf8.decode s p).1
def xl(s:ByteArray)(p:Nat):Nat:=(Utf8.decode s p).2
def p4(h:Heap)(x:AV)(K:bm→Option R):Option R :=
 match x with
 |.bp id=>match h.get id with
  |some (.own .mq x)=>cond (decide (x.2<x.1.size)) (K (.wr (.lW [.bool true,.int .i64 (x.2:Int),.int .i32 (nj x.1 x.2)]) (h.set id (.own .mq (x.1,x.2+xl x.1 x.2))))) (K (.val (.lW [.bool false])))
  |_=>none
 |_=>none
def p6(h:Heap)(x:AV)(K:bm→Option R):Option R :=
 match x with
 |.bp id=>match h.get id with
  |some (.own (.iter kk vk) (some c,_))=>K (.val (.lW [bS kk c.1,bS vk c.2]))
  |_=>none
 |_=>none
def Ca:TypeDesc→Bool
 |.bool=>true
 |_=>false
def uk:TypeDesc→Bool
 |.pointer _=>true
 |_=>false
def vv(Eqs:TypeId→Option K)(op:BinOp)(t:TypeId)(x y:AV)(K:bm→Option R):Option R :=
 match x,y with
 |.int k a,.int k' b =>
  match op with
  |.shl=>cond (decide (b<0)) none (K (.val (.int k (TT k a b))))
  |.shr=>cond (decide (b<0)) none (K (.val (.int k (kc k a b))))
  |op =>
  if k=k' then
   match op with
   |.quo=>cond (b==0) none (K (.val (.int k (k.wrap (a.tdiv b)))))
   |.rem=>cond (b==0) none (K (.val (.int k (a.tmod b))))
   |op=>match Rk op k a b with
    |some v=>K (.val v)
    |none=>none
  else none
 |.str a,.str b=>match TU op a b with
  |some v=>K (.val v)
  |none=>none
 |.bool a,.bool b =>
  match op,(P.underlying t).map Ca with
  |.eql,some true=>K (.val (.bool (a==b)))
  |.neq,some true=>K (.val (.bool (!(a==b))))
  |_,_=>none
 |.agg a,.agg b =>
  match Eqs t with
  |none=>none
  |some k =>
   match op,dh k a,dh k b with
   |.eql,some x,some y=>K (.val (.bool (pY k x y)))
   |.neq,some x,some y=>K (.val (.bool (!(pY k x y))))
   |_,_,_=>none
 |.kb,.kb =>
  match op,(P.underlying t).map uk with
  |.eql,some true=>K (.val (.bool true))
  |.neq,some true=>K (.val (.bool false))
  |_,_=>none
 |.ref ..,.kb =>
  match op,(P.underlying t).map uk with
  |.eql,some true=>K (.val (.bool false))
  |.neq,some true=>K (.val (.bool true))
  |_,_=>none
 |_,_=>none
def Ql(b:Bool)(x y:AV):AV :=
 match x,y with
 |.bool p,.bool q=>.bool (cond b p q)
 |x,y=>cond b x y
end
def dz(h:Heap)(ok:OK)(c:AV):Option ok.T :=
 match c with
 |.eY=>match ok with
  |.row _ _=>some []
  |_=>none
 |.bp id=>match h.get id with
  |some (.own Tq x)=>if e:Tq=ok then some (e▸x) else none
  |_=>none
 |_=>none
def nk:AV→List Nat
 |.bp id=>[id]
 |_=>[]
def cv:(cW:List CK)→Heap→List AV→Option (oP cW)
 |[],_,[]=>some ()
 |.val k::r,h,cs =>
  match dh k ((cs.take k.sz).map (ct h)),cv r h (cs.drop k.sz) with
  |some x,some y=>some (x,y)
  |_,_=>none
 |.own ok::r,h,c::cs =>
  match dz h ok c,cv r h cs with
  |some x,some y=>some (x,y)
  |_,_=>none
 |_,_,_=>none
def oo:List CK→List AV→List AV
 |.val k::r,cs=>cs.take k.sz++oo r (cs.drop k.sz)
 |.own _::r,_::cs=>oo r cs
 |_,_=>[]
def eQ:List CK→List AV→List Nat
 |.val k::r,cs=>eQ r (cs.drop k.sz)
 |.own _::r,c::cs=>nk c++eQ r cs
 |_,_=>[]
def aw:(cW:List CK)→Nat→oP cW→List AV
 |[],_,_=>[]
 |.val k::r,n,x=>enc k x.1++aw r (n+1) x.2
 |.own _::r,n,x=>.bp n::aw r (n+1) x.2
def aL:(cW:List CK)→Nat→oP cW→Heap
 |[],_,_=>[]
 |.val _::r,n,x=>aL r (n+1) x.2
 |.own ok::r,n,x=>(n,.own ok x.1)::aL r (n+1) x.2
def AQ(h:Heap)(id:Nat)(ty:TypeId):Option (List AV) :=
 match h.get id with
 |some (.box wi cs)=>if wi=ty then some cs else none
 |_=>none
def oq:(b:BK)→Heap→Nat→Option b.T
 |.box ty c,h,i=>match AQ h i ty with
  |some cs=>cv c h cs
  |none=>none
 |.own ok,h,i=>dz h ok (.bp i)
def cE:(bs:List BK)→Heap→List Nat→Option (ug bs)
 |[],_,[]=>some ()
 |b::r,h,i::is =>
  match oq b h i,cE r h is with
  |some x,some y=>some (x,y)
  |_,_=>none
 |_,_,_=>none
def ic:(b:BK)→Nat→Nat→b.T→Heap
 |.box ty c,i,n,x=>(i,.box ty (aw c n x))::aL c n x
 |.own ok,i,_,x=>[(i,.own ok x)]
def aX:(bs:List BK)→List Nat→Nat→ug bs→Heap
 |b::r,i::is,n,x=>ic b i n x.1++aX r is (n+16) x.2
 |_,_,_,_=>[]
def xm:BK→Heap→Nat→List AV
 |.box _ c,h,i=>match h.get i with
  |some (.box _ cs)=>oo c cs
  |_=>[]
 |.own _,_,_=>[]
def fe:List BK→Heap→List Nat→List AV
 |b::r,h,i::is=>xm b h i++fe r h is
 |_,_,_=>[]
def js:BK→Heap→Nat→List Nat
 |.box _ c,h,i=>i::(match h.get i with
  |some (.box _ cs)=>eQ c cs
  |_=>[])
 |.own _,_,i=>[i]
def cF:List BK→Heap→List Nat→List Nat
 |b::r,h,i::is=>js b h i++cF r h is
 |_,_,_=>[]
def fW(h:Heap):List Nat→Heap
 |[]=>h
 |i::r=>fW (h.del i) r
def AR:AV→Option Nat
 |.ref id _ 0 0=>some id
 |_=>none
def iP:List AV→Option (List Nat)
 |[]=>some []
 |v::r=>match AR v,iP r with
  |some i,some is=>some (i::is)
  |_,_=>none
def nm:List AV→Option (List Nat)
 |[]=>some []
 |.bp i::r=>match nm r with
  |some is=>some (i::is)
  |none=>none
 |_=>none
def ck:List PK→List AV→Option (List Nat)
 |[],[]=>some []
 |.val _::ps,_::vs=>ck ps vs
 |.ref::ps,v::vs=>match AR v,ck ps vs with
  |some i,some is=>some (i::is)
  |_,_=>none
 |.own::ps,.bp i::vs=>match ck ps vs with
  |some is=>some (i::is)
  |none=>none
 |.Df f n::ps,.fn f' cap::vs =>
  if f'=f∧cap.length=n then match iP cap,ck ps vs with
   |some a,some b=>some (a++b)
   |_,_=>none
  else none
 |.agg n::ps,.agg cs::vs =>
  if cs.length=n then match nm cs,ck ps vs with
   |some a,some b=>some (a++b)
   |_,_=>none
  else none
 |_,_=>none
def dL:(ps:List PK)→Heap→List AV→Option (Dp (jX ps))
 |[],_,[]=>some ()
 |.val k::ps,h,v::vs =>
  match eW k h v,dL ps h vs with
  |some x,some y=>some (x,y)
  |_,_=>none
 |.ref::ps,h,_::vs=>dL ps h vs
 |.own::ps,h,_::vs=>dL ps h vs
 |.Df _ _::ps,h,_::vs=>dL ps h vs
 |.agg _::ps,h,_::vs=>dL ps h vs
 |_,_,_=>none
def cU:List PK→List AV→List AV
 |.val _::ps,v::vs=>v.cells++cU ps vs
 |_::ps,_::vs=>cU ps vs
 |_,_=>[]
def aH:(ps:List PK)→(ids:List Nat)→Nat→Dp (jX ps)→List (Nat×AV)
 |[],_,_,_=>[]
 |.val k::ps,ids,s,x=>(s,bS k x.1)::aH ps ids (s+1) x.2
 |.ref::ps,i::ids,s,x=>(s,.ref i 0 0 0)::aH ps ids (s+1) x
 |.ref::ps,[],s,x=>(s,.no)::aH ps [] (s+1) x
 |.own::ps,i::ids,s,x=>(s,.bp i)::aH ps ids (s+1) x
 |.own::ps,[],s,x=>(s,.no)::aH ps [] (s+1) x
 |.Df f n::ps,ids,s,x=>(s,.fn f ((ids.take n).map fun i=>.ref i 0 0 0))::aH ps (ids.drop n) (s+1) x
 |.agg n::ps,ids,s,x=>(s,.agg ((ids.take n).map .bp))::aH ps (ids.drop n) (s+1) x
def lB:List CK→Nat→Nat
 |.val k::r,c+1=>k.sz+lB r c
 |.own _::r,c+1=>1+lB r c
 |_,_=>0
def eX:List CK→Nat→Bool
 |.own (.row _ _)::_,0=>true
 |_::r,c+1=>eX r c
 |_,_=>false
def K3(id:Nat):Option AV→Bool
 |some (.bp ly)=>ly==id
 |_=>false
def vw(c:List CK)(cs:List AV)(id s off:Nat)(a:Nat×Nat×Nat):Bool :=
 K3 id (cs[lB c a.1]?)&&(decide (s=a.2.1)&&(decide (off=a.2.2)&&eX c a.1))
def lX(bs:List BK)(h:Heap)(ids:List Nat)(b:Nat)(alts:List (Nat×Nat×Nat))(v:AV):Option (Option (Fin alts.length×Nat)) :=
 match v with
 |.kb=>some none
 |.ref id s i off =>
  (match ids[b]?,bs[b]? with
  |some bi,some bk=>(match h.get bi with
   |some (.box _ cs)=>(match (List.finRange alts.length).find? (fun a=>vw bk.cW cs id s off (alts.get a)) with
    |some a=>some (some (a,i))
    |none=>none)
   |_=>none)
  |_,_=>none)
 |_=>none
def xn(c:List CK)(h:Heap)(v:AV):Option (oP c) :=
 match v with
 |.agg cs=>cv c h cs
 |_=>none
def bq(bs:List BK):(rs:List RK)→Heap→List Nat→List AV→Option (kD rs)
 |[],_,_,[]=>some ()
 |.val k::r,h,ids,v::vs =>
  match eW k h v,bq bs r h ids vs with
  |some x,some y=>some (x,y)
  |_,_=>none
 |.own ok::r,h,ids,v::vs =>
  match dz h ok v,bq bs r h ids vs with
  |some x,some y=>some (x,y)
  |_,_=>none
 |.dM b alts::r,h,ids,v::vs =>
  match lX bs h ids b alts v,bq bs r h ids vs with
  |some x,some y=>some (x,y)
  |_,_=>none
 |.agg c::r,h,ids,v::vs =>
  match xn c h v,bq bs r h ids vs with
  |some x,some y=>some (x,y)
  |_,_=>none
 |_,_,_,_=>none
def fg:List RK→List AV→List AV
 |.val _::r,v::vs=>v.cells++fg r vs
 |.agg c::r,v::vs=>oo c v.cells++fg r vs
 |_::r,_::vs=>fg r vs
 |_,_=>[]
def dp:List RK→List AV→List Nat
 |.own _::r,v::vs=>nk v++dp r vs
 |.agg c::r,v::vs=>eQ c v.cells++dp r vs
 |_::r,_::vs=>dp r vs
 |_,_=>[]
def sE(b n:Nat)(alts:List (Nat×Nat×Nat)):Option (Fin alts.length×Nat)→AV
 |none=>.kb
 |some (a,i)=>.ref (n+16*b+(alts.get a).1) (alts.get a).2.1 i (alts.get a).2.2
def aJ:(rs:List RK)→(ids:List Nat)→(n m:Nat)→kD rs→List AV
 |[],_,_,_,_=>[]
 |.val k::r,ids,n,m,x=>bS k x.1::aJ r ids n (m+1) x.2
 |.agg c::r,ids,n,m,x=>.agg (aw c m x.1)::aJ r ids n (m+1) x.2
 |.own _::r,ids,n,m,x=>.bp m::aJ r ids n (m+1) x.2
 |.dM b alts::r,ids,n,m,x=>sE b n alts x.1::aJ r ids n (m+1) x.2
def ag:(rs:List RK)→(m:Nat)→kD rs→Heap
 |[],_,_=>[]
 |.own ok::r,m,x=>(m,.own ok x.1)::ag r (m+1) x.2
 |.agg c::r,m,x=>aL c m x.1++ag r (m+1) x.2
 |.val _::r,m,x=>ag r (m+1) x.2
 |.dM _ _::r,m,x=>ag r (m+1) x.2
def dQ:List AV→AV
 |[v]=>v
 |vs=>.lW vs
def bT:List CK→Nat→List Nat
 |[],_=>[]
 |.val _::r,n=>bT r (n+1)
 |.own _::r,n=>n::bT r (n+1)
def bK:List BK→List Nat→Nat→List Nat
 |b::r,i::is,n=>i::(bT b.cW n++bK r is (n+16))
 |_,_,_=>[]
def aY:List RK→Nat→List Nat
 |[],_=>[]
 |.own _::r,m=>m::aY r (m+1)
 |.agg c::r,m=>bT c m++aY r (m+1)
 |.val _::r,m=>aY r (m+1)
 |.dM _ _::r,m=>aY r (m+1)
def aE(n:Nat):List Nat:=(List.range n).map fun i=>1000+20*i
def oQ(g:aK):List Nat:=bK g.bs (aE g.bs.length) 2000++aY g.rs 3000
def Dq:List AV→Bool
 |[]=>true
 |.bp _::_=>false
 |_::r=>Dq r
def oR:List AV→Bool
 |[]=>true
 |v::r=>Dq v.cells&&oR r
def bP:List Nat→Bool
 |[]=>true
 |i::r => !(r.contains i)&&bP r
def um(kept:List Nat)(jV:List AV):Bool:=bP kept&&kept.all fun i=>F4 i jV
section
variable (P:Program) (Eqs:TypeId→Option K) (Sg:FuncId→Option aK) (F:(f:FuncId)→(g:aK)→g.A→Option g.B)
variable {R:Type}
def rJ(f:FuncId):List AV→FuncId
 |[]=>f
 |.fn g _::_=>f+1000*(g+1)
 |_::r=>rJ f r
def xp:List AV→Bool
 |[]=>false
 |.bp _::_=>true
 |.agg cs::r=>(cs.any fun c=>match c with | .bp _=>true|_=>false) || xp r
 |_::r=>xp r
def keyOf(f:FuncId)(vs:List AV):FuncId:=if xp vs&&(Sg (rJ f vs+500000)).isSome then rJ f vs+500000 else rJ f vs
def Ap(bs:List BK)(r:RK):Bool:=match r with
 |.dM b alts=>match bs[b]? with
  |some bk=>(alts.all fun a=>eX bk.cW a.1)&&decide ((alts.map fun a=>(a.1,a.2.2)).Nodup)
  |none=>false
 |.agg c=>decide (c.length≤16)
 |_=>true
def oS(bs:List BK)(rs:List RK):Bool:=rs.all (Ap bs)
def K4(f:FuncId)(g:aK):Bool:=oS g.bs g.rs&&( (decide (g.bs.length≤8)&&(g.bs.all fun b=>decide (b.cW.length≤16)))&&((decide (g.rs.length≤100)&&decide (f<1000))&&bP (oQ g)))
def oT{α R:Type}(o:Option α)(a:Option R)(f:α→Option R):Option R:=match o with
 |none=>a
 |some x=>f x
def TV{R:Type}(n:Nat)(a:Fin n)(f:Fin n→Option R):Option R:=(List.finRange n).foldr (fun j r=>cond (a.val==j.val) (f j) r) none
def iQ{R:Type}:(rs:List RK)→kD rs→(kD rs→Option R)→Option R
 |[],_,K=>K ()
 |.dM _ alts::r,x,K=>oT x.1 (iQ r x.2 fun z=>K (none,z)) (fun p=>TV alts.length p.1 fun a=>iQ r x.2 fun z=>K (some (a,p.2),z))
 |.val _::r,x,K=>iQ r x.2 fun z=>K (x.1,z)
 |.own _::r,x,K=>iQ r x.2 fun z=>K (x.1,z)
 |.agg _::r,x,K=>iQ r x.2 fun z=>K (x.1,z)
def ig(h:Heap)(id:Nat)(f:FuncId)(vs:List AV)(K:bm→Option R):Option R :=
 match Sg (keyOf Sg f vs) with
 |none=>none
 |some g=>match g.x with
 |some u=>if f<1000 then(u h id vs).bind fun p=>cond p.1 (K p.2) none else none
 |none =>
  match ck g.ps vs,K4 f g with
  |some is,true =>
   if is.isEmpty&&g.rs.all RK.plain then
   match dL g.ps h vs,cE g.bs h [],g.rs.all RK.plain with
   |some x,some b,true =>
    (F (keyOf Sg f vs) g (x,b)).bind fun y =>
     cond (g.rs.all RK.flat || oR vs)
      (K (.new (dQ (aJ g.rs [] id (id+128) y.1)) (ag g.rs (id+128) y.1)))
      (K (.wr (dQ (aJ g.rs [] id (id+128) y.1)) (ag g.rs (id+128) y.1++cq h (cU g.ps vs))))
   |_,_,_=>none
   else
   match dL g.ps h vs,cE g.bs h is,um (cF g.bs h is) (cU g.ps vs++fe g.bs h is)&&bP (bK g.bs is id++aY g.rs (id+128)) with
   |some x,some b,true =>
    (F (keyOf Sg f vs) g (x,b)).bind fun y=>iQ g.rs y.1 fun z =>
     K (.wr (dQ (aJ g.rs is id (id+128) z))
      (aX g.bs is id y.2++(ag g.rs (id+128) z++fW (cq h (cU g.ps vs++fe g.bs h is)) (cF g.bs h is))))
   |_,_,_=>none
  |_,_=>none
def oU{α:Type}(xs:List α)(i:Int)(ys:List α):Bool:=decide (0≤i)&&(decide (i≤xs.length)&&(decide (ys.length=1)&&b4 xs.length ys.length))
def fh{α:Type}(xs:List α)(i:Int)(ys:List α):List α:=xs.take i.toNat++(ys++xs.drop i.toNat)
def iM{α:Type}(xs:List α)(i j:Int):Bool:=decide (0≤i)&&(decide (i<j)&&(decide (j≤xs.length)&&b4 xs.length 0))
def cX{α:Type}(xs:List α)(i j:Int):List α:=xs.take i.toNat++xs.drop j.toNat
def xq(n:Int):Bool:=decide (0≤n)&&decide (n≤eP)
def K5(ty:TypeId)(k:K)(h:Heap)(id:Nat):List AV→Option (Bool×bm)
 |[.bp o,.int .i64 i,.bp j]=>match dz h (.row ty k) (.bp o),dz h (.row ty k) (.bp j) with
  |some xs,some ys=>if o=j then none else some (oU xs i ys,.wr (.bp id) ((id,.own (.row ty k) (fh xs i ys))::h.del o))
  |_,_=>none
 |_=>none
def Ow(ty:TypeId)(k:K)(h:Heap)(id:Nat):List AV→Option (Bool×bm)
 |[.bp o,.int .i64 i,.int .i64 j]=>match dz h (.row ty k) (.bp o) with
  |some xs=>some (iM xs i j,.wr (.bp id) ((id,.own (.row ty k) (cX xs i j))::h.del o))
  |none=>none
 |_=>none
def K6(ty:TypeId)(k:K)(_:Heap)(id:Nat):List AV→Option (Bool×bm)
 |[.eY,.int .i64 n]=>some (xq n,.new (.bp id) [(id,.own (.row ty k) [])])
 |_=>none
def uo(id:Nat)(t:TypeId)(vs:List AV)(K:bm→Option R):Option R :=
 K (.new (.ref id vs.length 0 0) [(id,.box t vs)])
def Qm:AV→Bool
 |.no=>false
 |_=>true
def p7(t:TypeId)(parts:List (Nat×AV))(K:bm→Option R):Option R :=
 match xk P t,P.underlying t with
 |some z,some (.struct fs) =>
  match AO (fun i=>(fs[i]?).map fun f=>(f.offset,P.cellsOf f.type)) z parts,fs.toList.all (fun f=>(P.info? f.type).isSome)&&parts.all (fun p=>Qm p.2) with
  |some cs,true=>K (.val (.agg cs))
  |_,_=>none
 |_,_=>none
def oV(k:K)(h:Heap):Nat→List (Nat×AV)→Option (List k.T)
 |_,[]=>some []
 |i,(j,v)::r =>
  if j=i then match dh k (v.cells.map (ct h)),oV k h (i+1) r with
   |some x,some xs=>some (x::xs)
   |_,_=>none
  else none
def sF(h:Heap)(id:Nat)(t:TypeId)(n:Nat)(parts:List (Nat×AV))(K:bm→Option R):Option R :=
 match vu P t with
 |none=>none
 |some e =>
  match oO P 8 e with
  |none=>none
  |some k =>
   match oV k h 0 parts,B9 P e k with
   |none,_=>none
   |some _,false=>none
   |some xs,true =>
    if parts.length=n∧n*k.sz≤1048576 then
     cond (oR (parts.map (·.2))) (K (.new (.bp id) [(id,.own (.row e k) xs)])) (K (.wr (.bp id) ((id,.own (.row e k) xs)::cq h (parts.flatMap (·.2.cells)))))
    else none
def Ox:bm→bm
 |.new (.bp _) [(_,.own (.row _ k) xs)]=>.new (.sl true k xs) []
 |e=>e
def uq(jV:Bool)(h:Heap)(id:Nat)(t:TypeId)(n:Nat)(parts:List (Nat×AV))(K:bm→Option R):Option R :=
 sF P h id t n parts fun e=>K (if jV then Ox e else e)
def xt(src dst:TypeId)(x:AV)(K:bm→Option R):Option R :=
 match P.underlying src,P.underlying dst,x with
 |some (.int _),some (.int k),.int _ n=>K (.val (.int k (k.wrap n)))
 |some .string,some .string,.str s=>K (.val (.str s))
 |_,_,_=>none
def Jf(mx:Bool)(vs:List AV)(K:bm→Option R):Option R :=
 match vs with
 |[.int k a,.int k' b]=>if k=k' then K (.val (.int k (cond mx (max a b) (min a b)))) else none
 |_=>none
def Qn(t id:Nat):Bool:=(Sg (900000+t)).isSome&&(Sg (2000003+1000*(id / 256-128))).isSome
def cy(id:Nat)(h:Heap)(s:List (Nat×AV))(o:Oper)(K:bm→Option R):Option R :=
 match o.op with
 |.move x | .assign x=>K (.val (ρ s x))
 |.pick c a b=>match ρ s c with
  |.bool t=>K (.val (Ql t (ρ s a) (ρ s b)))
  |_=>none
 |.box t x=>if(ρ s x).cells.all uh then uo id t (ρ s x).cells K else none
 |.alloc t=>match xk P t with
  |some z=>uo id t z K
  |none=>none
 |.build t ps=>p7 P t (ps.toList.map fun p=>(p.1,ρ s p.2)) K
 |.buildSlice t n ps=>uq P (Qn Sg t id) h id t n (ps.toList.map fun p=>(p.1,ρ s p.2)) K
 |.load t a=>kE P h t (ρ s a) K
 |.store t a v=>pZ P h t (ρ s a) (ρ s v) K
 |.nilCheck x=>match ρ s x with
  |.ref id s i off=>K (.val (.ref id s i off))
  |.fp k x off=>K (.val (.fp k x off))
  |.fn f cap=>K (.val (.fn f cap))
  |_=>none
 |.binOp op t x y _=>vv P Eqs op t (ρ s x) (ρ s y) K
 |.unOp .not _ x=>match ρ s x with
  |.bool b=>K (.val (.bool (!b)))
  |_=>none
 |.convert src dst x=>xt P src dst (ρ s x) K
 |.makeFunc (.func f) first cap=>if first.size=0 then K (.val (.fn f (cap.toList.map (ρ s)))) else none
 |.slice t x lo hi mx=>match P.underlying t with
  |some .string=>ui (ρ s x) (lo.map (ρ s)) (hi.map (ρ s)) (mx.map (ρ s)) K
  |some (.slice e)=>if(P.info? e).isSome then ni h (P.cellsOf e) (ρ s x) (lo.map (ρ s)) (hi.map (ρ s)) (mx.map (ρ s)) K else none
  |_=>none
 |.fieldAddr t x f=>match fV P t f,ρ s x with
  |some (n,ft),.ref id s i off=>if P.cellsOf ft=0 then none else K (.val (.ref id s i (off+n)))
  |some (n,ft),.fp k x off=>if P.cellsOf ft=0 then none else K (.val (.fp k x (off+n)))
  |_,_=>none
 |.field t x f=>match fV P t f,ρ s x with
  |some (n,ft),.agg cs=>match dD P ft (cs.drop n) with
   |some v=>K (.val v)
   |none=>none
  |_,_=>none
 |.indexAddr t x i=>c7 P h t (ρ s x) (ρ s i) K
 |.index t x i=>match P.underlying t,ρ s x,ρ s i with
  |some .string,.str b,.int _ n=>(if 0≤n then b[n.toNat]? else none).bind fun c=>K (.val (.int .u8 (c.toNat:Int)))
  |_,_,_=>none
 |.makeMap t none=>kq P Eqs id t K
 |.lookup t m i ok=>mv P Eqs h t (ρ s m) (ρ s i) ok K
 |.mapUpdate t m i v=>gN P Eqs h t (ρ s m) (ρ s i) (ρ s v) K
 |.range t x=>my P id t (ρ s x) K
 |.next x true=>p4 h (ρ s x) K
 |.entry x=>p6 h (ρ s x) K
 |.extract t i=>match ρ s t with
  |.lW vs=>match vs[i]? with
   |some v=>K (.val v)
   |none=>none
  |_=>none
 |.call c =>
  match c.callee with
  |.value f=>match ρ s f with
   |.fn f cap=>ig Sg F h id f (c.args.toList.map (ρ s)++cap) K
   |_=>none
  |.builtin .len=>match c.args.toList,c.argTypes.toList with
   |[x],[t]=>if F5 P t then uj h (ρ s x) K else if Rm P t (ρ s x) then AP h (ρ s x) K else none
   |_,_=>none
  |.builtin .append=>match c.args.toList,c.argTypes.toList with
   |[x,y],[t,t']=>if t'=t then mu P h id t (ρ s x) (ρ s y) K else none
   |_,_=>none
  |.builtin .delete=>match c.args.toList,c.argTypes.toList with
   |[m,x],t::_=>mw P Eqs h t (ρ s m) (ρ s x) K
   |_,_=>none
  |.builtin .max=>Jf true (c.args.toList.map (ρ s)) K
  |.builtin .min=>Jf false (c.args.toList.map (ρ s)) K
  |_=>none
 |_=>none
def lY:Op→Bool
 |.move _ | .assign _ | .extract .. | .unOp .. | .pick .. | .fieldAddr .. | .nilCheck _ | .makeFunc .. | .build .. | .slice ..=>true
 |.binOp op ..=>match op with
  |.eql | .neq=>false
  |_=>true
 |_=>false
def makes:Op→Bool
 |.box .. | .alloc _ | .buildSlice .. | .makeMap .. | .range ..=>true
 |.call c=>match c.callee with
  |.builtin .append | .value _=>true
  |_=>false
 |_=>false
def opId(rid i:Nat):Nat:=((rid+1)*128+i)*256
def sG(ops:Array Oper)(b:Array Nat):Bool :=
 (List.range ops.size).all fun i=>match ops[i]? with
  |some o=>(o.after.toList.all fun e => !Region.binds .any e || decide (e.on<i)) &&
   b.getD i 0==o.after.toList.foldl (fun s e=>if Region.binds .any e then s ||| 2 ^ e.on ||| b.getD e.on 0 else s) 0
  |none=>false
def xu(ops:Array Oper)(b:Array Nat):Bool :=
 (List.range ops.size).all fun j=>(List.range j).all fun i =>
  (b.getD j 0).testBit i || (match ops[i]?,ops[j]? with
   |some x,some y=>x.apart ops y
   |_,_=>false)
def ij:Op→Option Operand
 |.load _ x=>some x
 |.indexAddr _ x _=>some x
 |_=>none
def Cb:Op→Bool
 |.store ..=>true
 |.call c=>match c.callee with
  |.value _=>true
  |_=>false
 |_=>false
def sH(ops:Array Oper)(i j:Nat):Bool :=
 match (ops[j]?).bind (ij ·.op) with
 |some (.tmp d)=>(List.range ops.size).all fun m => !(decide (min i j≤m)&&decide (m<max i j)) || (match (ops[m]?).bind (·.dst) with|some d'=>d' != d|none=>true)
 |some _=>true
 |none=>false
def sI:AV→List Nat
 |.ref id _ _ _=>[id]
 |.bp id=>[id]
 |_=>[]
def Rn(ops:Array Oper)(b:Array Nat)(i:Nat)(tmps:List (Nat×AV)):List Nat :=
 (List.range ops.size).flatMap fun j=>if j==i || (b.getD j 0).testBit i || (b.getD i 0).testBit j then[] else match (ops[j]?).bind (ij ·.op) with
  |some x=>sI (ρ tmps x)
  |none=>[]
def fX(ops:Array Oper)(b:Array Nat)(i:Nat)(tmps:List (Nat×AV))(o:Oper):List Nat:=if Cb o.op then Rn ops b i tmps else[]
def F6(ops:Array Oper)(b:Array Nat)(i:Nat):Bool :=
 (List.range ops.size).all fun j =>
  j==i || (b.getD j 0).testBit i || (b.getD i 0).testBit j || (match ops[j]? with|some o=>lY o.op|none=>true) || ((match ops[i]? with|some o=>Cb o.op|none=>false)&&sH ops i j)
def ahead(rid:Nat)(F7:Nat)(h:Heap):Heap:=h.filter fun p=>(p.1 / 32768 != rid+1) || F7.testBit (p.1 / 256%128)
def gx(n:Nat)(o:Oper):Bool :=
 match o.dst with
 |some d=>decide (d<n)
 |none=>true
end
def oW(rid bits id:Nat):Bool:=(id / 32768 != rid+1) || bits.testBit (id / 256%128)
mutual
def qV(rid bits:Nat):AV→Bool
 |.ref id _ _ _=>oW rid bits id
 |.bp id=>oW rid bits id
 |.fn _ cap=>xw rid bits cap
 |.agg cs=>xw rid bits cs
 |.lW vs=>xw rid bits vs
 |.no=>true
 |.bool _=>true
 |.int _ _=>true
 |.str _=>true
 |.kb=>true
 |.eY=>true
 |.fp _ _ _=>true
 |.sl _ _ _=>true
 |.mp _ _ _=>true
def xw(rid bits:Nat):List AV→Bool
 |[]=>true
 |v::r=>qV rid bits v&&xw rid bits r
end
def vx(rid bits:Nat):Heap→Bool
 |[]=>true
 |(id,.box _ cs)::r=>oW rid bits id&&xw rid bits cs&&vx rid bits r
 |(id,.own _ _)::r=>oW rid bits id&&vx rid bits r
def fP(draw:Bool)(rid:Nat)(ops:Array Oper)(b:Array Nat)(i F7:Nat):bm→Bool
 |.wr v h=>(!draw || F6 ops b i)&&qV rid (F7 ||| 2 ^ i) v&&vx rid (F7 ||| 2 ^ i) h
 |.new v os=>qV rid (F7 ||| 2 ^ i) v&&(os.all fun p=>p.1 / 256==(rid+1)*128+i)&&vx rid (F7 ||| 2 ^ i) os
 |.val v=>qV rid F7 v
def dS(ft:List Nat)(hp h:Heap):Heap:=(ft.filterMap fun i=>(hp.get i).map fun o=>(i,o))++h
def fQ(ft:List Nat)(hp:Heap):bm→bm
 |.wr v h=>.wr v (dS ft hp h)
 |.val v=>.val v
 |.new v os=>.new v os
mutual
def oX(ft:List Nat):AV→Bool
 |.ref id _ _ _ => !(ft.contains id)
 |.bp id => !(ft.contains id)
 |.fn _ cap=>rK ft cap
 |.agg cs=>rK ft cs
 |.lW vs=>rK ft vs
 |.no=>true
 |.bool _=>true
 |.int _ _=>true
 |.str _=>true
 |.kb=>true
 |.eY=>true
 |.fp _ _ _=>true
 |.sl _ _ _=>true
 |.mp _ _ _=>true
def rK(ft:List Nat):List AV→Bool
 |[]=>true
 |v::r=>oX ft v&&rK ft r
end
def rL(ft:List Nat):Heap→Bool
 |[]=>true
 |(id,.box _ cs)::r => !(ft.contains id)&&(rK ft cs&&rL ft r)
 |(id,.own _ _)::r => !(ft.contains id)&&rL ft r
def lZ(ft:List Nat):bm→Bool
 |.wr v h=>oX ft v&&rL ft h
 |_=>true
section
variable (P:Program) (Eqs:TypeId→Option K) (Sg:FuncId→Option aK) (F:(f:FuncId)→(g:aK)→g.A→Option g.B)
variable {R:Type}
noncomputable def oY(n:Nat)(f:Nat→Option R):Option R:=open Classical in if h:∃r,∀j,j<n→f j=some r then some (Classical.choose h) else none
def wj(m:Nat)(d:AV):AV→AV
 |.bp i=>if i=m then d else .bp i
 |v=>v
def np(id:Nat)(st:St)(o:Oper):Option St :=
 match o.op with
 |.range t x=>match P.underlying t,ρ st.tmps x with
  |some (.map _ _),.bp m=>match st.heap.get m with
   |some (.own (.map kk vk) es)=>some (({ tmps:=st.tmps.map fun p=>(p.1,wj m (.mp kk vk es) p.2),heap:=(id,.own (.iter kk vk) (none,es))::st.heap.del m }:St).put o.dst (.bp id))
   |_=>none
  |_,_=>none
 |_=>none
def sJ(o:Oper):Option Operand :=
 match o.op with
 |.next x false=>some x
 |_=>none
noncomputable def kd(h:Heap)(x:AV)(K:AV→Heap→Option R):Option R :=
 match x with
 |.bp id=>match h.get id with
  |some (.own (.iter kk vk) p)=>cond p.2.isEmpty (K (.lW [.bool false]) h) (oY p.2.length fun j=>(p.2[j]?).bind fun c=>K (.lW [.bool true,bS kk c.1,bS vk c.2]) (h.set id (.own (.iter kk vk) (some c,p.2.eraseIdx j))))
  |_=>none
 |_=>none
def isNil(o:Oper):Option (Operand×Bool) :=
 match o.op with
 |.binOp op t x (.const v) _=>match op,P.underlying t,uf v with
  |.eql,some (.slice _),.eY=>some (x,true)
  |.neq,some (.slice _),.eY=>some (x,false)
  |_,_,_=>none
 |_=>none
noncomputable def sK(h:Heap)(x:AV)(want:Bool)(K:AV→Option R):Option R :=
 match ct h x with
 |.eY=>K (.bool want)
 |.sl _ _ xs=>cond xs.isEmpty (oY 2 fun j=>K (.bool ((j==0)==want))) (K (.bool (!want)))
 |_=>none
noncomputable def ba(rid:Nat)(draw:Bool)(ops:Array Oper)(b:Array Nat):List (Nat×Oper)→St→(St→Option R)→Option R
 |[],st,K=>K st
 |(i,o)::r,st,K =>
  let run (st:St):Option R :=
   match (if draw then none else np P (opId rid i) st o) with
   |some dI=>ba rid draw ops b r dI K
   |none =>
   match (if draw then none else sJ o) with
   |some x=>kd st.heap (ρ st.tmps x) fun v h=>ba rid draw ops b r (({ st with heap:=h }:St).put o.dst v) K
   |none =>
   match (if draw then none else isNil P o) with
   |some (x,want)=>sK st.heap (ρ st.tmps x) want fun v=>ba rid draw ops b r (st.put o.dst v) K
   |none =>
   if draw then
    cy P Eqs Sg F (opId rid i) (fW (ahead rid (b.getD i 0) st.heap) (fX ops b i st.tmps o)) st.tmps o fun e =>
     if fP true rid ops b i (b.getD i 0) (fQ (fX ops b i st.tmps o) (ahead rid (b.getD i 0) st.heap) e)&&lZ (fX ops b i st.tmps o) e then
      ba rid draw ops b r ({ st with heap:=match fQ (fX ops b i st.tmps o) (ahead rid (b.getD i 0) st.heap) e with | .wr _ h=>h|e=>e.h st.heap }.put o.dst e.v) K else none
   else
    cy P Eqs Sg F (opId rid i) st.heap st.tmps o fun e =>
     if fP false rid ops b i (2 ^ i-1) e then ba rid draw ops b r ({ st with heap:=match e with | .wr _ h=>h|e=>e.h st.heap }.put o.dst e.v) K else none
  let skip (st:St):Option R:=ba rid draw ops b r (st.put o.dst (.lW [])) K
  match o.guard with
  |none=>run st
  |some (j,want) =>
   match (ops[j]?).bind (·.dst) with
   |none=>none
   |some d =>
    match look st.tmps d with
    |.bool t=>cond t (if want then run (st.put (some d) (.bool true)) else skip (st.put (some d) (.bool true))) (if want then skip (st.put (some d) (.bool false)) else run (st.put (some d) (.bool false)))
    |.lW _=>skip st
    |_=>none
end
mutual
def bf(rid:Nat):AV→AV
 |.ref id s i off=>if id / 32768=rid+1 then .no else .ref id s i off
 |.bp id=>if id / 32768=rid+1 then .no else .bp id
 |.fn f cap=>.fn f (kF rid cap)
 |.agg cs=>.agg (kF rid cs)
 |.lW vs=>.lW (kF rid vs)
 |.no=>.no
 |.bool b=>.bool b
 |.int k n=>.int k n
 |.str s=>.str s
 |.kb=>.kb
 |.eY=>.eY
 |.fp k x off=>.fp k x off
 |.sl ex k xs=>.sl ex k xs
 |.mp kk vk es=>.mp kk vk es
def kF(rid:Nat):List AV→List AV
 |[]=>[]
 |v::r=>bf rid v::kF rid r
end
def xx(rid:Nat):Ob→Ob
 |.box ty cs=>.box ty (kF rid cs)
 |.own ok x=>.own ok x
def j7(draw:Bool)(rid:Nat)(ops:Array Oper)(st:St):St :=
 if draw || ops.any (makes ·.op) then
  { tmps:=st.tmps.map fun p=>(p.1,bf rid p.2),heap:=(st.heap.filter fun p=>p.1 / 32768 != rid+1).map fun p=>(p.1,xx rid p.2) }
 else st
section
variable (P:Program) (Eqs:TypeId→Option K) (Sg:FuncId→Option aK) (F:(f:FuncId)→(g:aK)→g.A→Option g.B)
variable {R:Type}
noncomputable def gy(n rid:Nat)(ops:Array Oper)(draw:Bool)(st:St)(K:St→Option R):Option R :=
 let b:=if draw then Region.before ops else #[]
 if(ops.all fun o=>gx n o)&&(!draw || (sG ops b&&(xu ops b&&bP (ops.toList.filterMap (·.dst)))))&&decide (ops.size≤128) then
  ba P Eqs Sg F rid draw ops b (ops.toList.zipIdx.map fun p=>(p.2,p.1)) (j7 draw rid ops st) K
 else none
inductive Src where
 |slot (s:Nat)
 |cap (s j:Nat)
structure Shape where
 wm:List (Nat×K)
 boxes:List (Src×Nat×BK)
 rows:List (Nat×Nat×OK)
 fns:List (Nat×FuncId×List Nat)
def Shape.ks(sh:Shape):List K:=sh.wm.map (·.2)
def Shape.bs(sh:Shape):List BK:=sh.boxes.map (·.2.2)
def F8:List OK→Type
 |[]=>Unit
 |k::r=>k.T×F8 r
abbrev Shape.T(sh:Shape):Type:=Dp sh.ks×ug sh.bs×F8 (sh.rows.map (·.2.2))
def oZ(st:St):(l:List (Nat×K))→Option (Dp (l.map (·.2)))
 |[]=>some ()
 |(s,k)::r =>
  match eW k st.heap (look st.tmps s),oZ st r with
  |some x,some y=>some (x,y)
  |_,_=>none
def Qo(st:St):Src→Option Nat
 |.slot s=>AR (look st.tmps s)
 |.cap s j=>match look st.tmps s with
  |.fn _ cap=>match cap[j]? with
   |some v=>AR v
   |none=>none
  |_=>none
def Cc(st:St):List (Src×Nat×BK)→Option (List Nat)
 |[]=>some []
 |p::r=>match Qo st p.1,Cc st r with
  |some i,some is=>some (i::is)
  |_,_=>none
def l0(st:St):(l:List (Nat×Nat×OK))→Option (F8 (l.map (·.2.2)))
 |[]=>some ()
 |(s,_,ok)::r =>
  match dz st.heap ok (look st.tmps s),l0 st r with
  |some x,some y=>some (x,y)
  |_,_=>none
def wE(st:St)(sh:Shape)(ids:List Nat):List AV:=(sh.wm.flatMap fun p=>(look st.tmps p.1).cells)++fe sh.bs st.heap ids
def Dt(st:St)(sh:Shape)(ids:List Nat):List Nat:=cF sh.bs st.heap ids++sh.rows.flatMap fun p=>nk (look st.tmps p.1)
def mz(st:St)(m:Nat):List (Nat×Nat×OK)→Bool
 |[]=>false
 |(s,id,_)::r=>(id==m&&(match look st.tmps s with | .bp i=>i==m|_=>false)) || mz st m r
def qa(sh:Shape):List Nat:=bK sh.bs (sh.boxes.map (·.2.1)) 9000++sh.rows.map (·.2.1)
def HY(st:St)(ids:List (Nat×Nat)):List (Nat×FuncId×List Nat)→Bool
 |[]=>true
 |(s,f,Aq)::r =>
  (match look st.tmps s with
  |.fn f' cap=>decide (f'=f)&&(match iP cap with|some is=>decide (is.map (fun i=>(ids.find? (·.1==i)).map (·.2))=Aq.map some)|none=>false)
  |_=>false)&&HY st ids r
def cm(sh:Shape)(st:St):Option sh.T :=
 match Cc st sh.boxes with
 |none=>none
 |some ids =>
  match oZ st sh.wm,cE sh.bs st.heap ids,l0 st sh.rows,um (Dt st sh ids) (wE st sh ids)&&(bP (qa sh)&&((qa sh).all (fun m=>decide (2000≤m) || ((ids.zip (sh.boxes.map (·.2.1))).any fun p=>p.1==m&&p.2==m) || mz st m sh.rows)&&HY st (ids.zip (sh.boxes.map (·.2.1))) sh.fns)) with
  |some x,some y,some z,true=>some (x,y,z)
  |_,_,_,_=>none
def o4:(l:List (Nat×K))→Dp (l.map (·.2))→List (Nat×AV)
 |[],_=>[]
 |(s,k)::r,x=>(s,bS k x.1)::o4 r x.2
def iR:List (Src×Nat×BK)→List (Nat×AV)
 |[]=>[]
 |(.slot s,id,_)::r=>(s,.ref id 0 0 0)::iR r
 |(.cap _ _,_,_)::r=>iR r
def wF(l:List (Nat×FuncId×List Nat)):List (Nat×AV):=l.map fun p=>(p.1,.fn p.2.1 (p.2.2.map fun i=>.ref i 0 0 0))
def o5:(l:List (Nat×Nat×OK))→F8 (l.map (·.2.2))→Heap
 |[],_=>[]
 |(_,id,ok)::r,x=>(id,.own ok x.1)::o5 r x.2
def aj(sh:Shape)(x:sh.T):St :=
  { tmps:=o4 sh.wm x.1++(iR sh.boxes++(wF sh.fns++sh.rows.map fun p=>(p.1,.bp p.2.1))),
    heap:=aX sh.bs (sh.boxes.map (·.2.1)) 9000 x.2.1++o5 sh.rows x.2.2 }
def qb:Code→Nat
 |.region id _ _=>id
 |.seq a _=>qb a
 |.block _ a=>qb a
 |.loop a=>qb a
 |.scope a=>qb a
 |_=>0
def K7(s:Nat)(st:St):St:=match look st.tmps s with
 |.bp m=>match st.heap.get m with
  |some (.own (.row _ k) xs)=>{ tmps:=st.tmps.map fun p=>(p.1,wj m (.sl false k xs) p.2),heap:=st.heap.del m }
  |_=>st
 |_=>st
def Du(o:Option Shape)(st:St):St:=match o with
 |some sh=>sh.rows.foldl (fun st p=>K7 p.1 st) st
 |none=>st
noncomputable def av(n:Nat)(ann:Nat→Option Shape)(J:(sh:Shape)→List Item→sh.T→Option R)(ret:St→Option R):Nat→List Item→St→Option R
 |0,_,_=>none
 |_+1,[],st=>ret st
 |m+1,.inBlock _::k,st=>av n ann J ret m k st
 |m+1,.inScope _::k,st=>av n ann J ret m k st
 |_+1,.inLoop c::k,st =>
  match ann (qb c) with
  |none=>none
  |some sh=>match cm sh st with
   |some x=>J sh (.inLoop c::k) x
   |none=>none
 |m+1,.code c::k,st =>
  match c with
  |.skip | .label _=>av n ann J ret m k st
  |.seq a b=>av n ann J ret m (.code a::.code b::k) st
  |.cond c a b=>match ρ st.tmps c with
   |.bool t=>cond t (av n ann J ret m (.code a::k) st) (av n ann J ret m (.code b::k) st)
   |_=>none
  |.block id c=>av n ann J ret m (.code c::.inBlock id::k) st
  |.scope c=>av n ann J ret m (.code c::.inScope c::k) st
  |.loop c=>av n ann J ret m (.inLoop c::k) st
  |.exit id=>match exitTo id k with
   |some k'=>av n ann J ret m k' st
   |none=>none
  |.ret=>ret st
  |.region id ops draw=>gy P Eqs Sg F n id ops draw (Du (ann (500000+id)) st) fun dI=>av n ann J ret m k dI
  |_=>none
 |_,_,_=>none
def vz(h:Heap)(tmps:List (Nat×AV))(rvs:List ResultVar):Option (List AV) :=
 match rvs with
 |[]=>some []
 |.tmp t::r=>match vz h tmps r with
  |some vs=>some (look tmps t::vs)
  |none=>none
 |.cell a t::r=>match look tmps a with
  |.ref id _ 0 off=>(match h.get id with
   |some (.box _ cs)=>(match dD P t (cs.drop off),vz h tmps r with
    |some v,some vs=>some (v::vs)
    |_,_=>none)
   |_=>none)
  |_=>none
def o6(g:aK)(fn:Func)(st:St):Option g.B :=
 match vz P st.heap st.tmps fn.results.toList with
 |none=>none
 |some vs =>
  match bq g.bs g.rs st.heap (aE g.bs.length) vs,cE g.bs st.heap (aE g.bs.length),
   um (cF g.bs st.heap (aE g.bs.length)++dp g.rs vs) (fg g.rs vs++fe g.bs st.heap (aE g.bs.length))&&bP (oQ g) with
  |some x,some y,true=>some (x,y)
  |_,_,_=>none
def entry(g:aK)(x:g.A):St :=
 { tmps:=aH g.ps (aE g.bs.length) 0 x.1,heap:=aX g.bs (aE g.bs.length) 2000 x.2 }
def fuel:Nat:=100000
end
section
variable (P:Program) (Eqs:TypeId→Option K) (Sg:FuncId→Option aK) (An:FuncId→Nat→Option Shape) (G:(f:FuncId)→(g:aK)→Option (g.A→Option g.B))
variable (F:(f:FuncId)→(g:aK)→g.A→Option g.B)
def body(f:FuncId):Option (Func×Code):=(P.funcs[f]?).bind fun fn=>fn.body.map fun c=>(fn,c)
noncomputable def lz(f:FuncId)(g:aK)(fn:Func):Nat→(sh:Shape)→List Item→sh.T→Option g.B
 |0,_,_,_=>none
 |n+1,sh,.inLoop c::k,x=>av P Eqs Sg F fn.ntmps (An f) (lz f g fn n) (o6 P g fn) fuel (.code c::.inLoop c::k) (aj sh x)
 |_+1,_,_,_=>none
noncomputable def F9(f:FuncId)(g:aK)(n:Nat)(x:g.A):Option g.B :=
 match body P (f%1000) with
 |none=>none
 |some (fn,c)=>if decide (g.ps.length≤fn.ntmps)&&decide (g.bs.length≤8) then av P Eqs Sg F fn.ntmps (An f) (lz P Eqs Sg An F f g fn n) (o6 P g fn) fuel [.code c] (entry g x) else none
end
section
variable (P:Program) (Eqs:TypeId→Option K) (Sg:FuncId→Option aK) (An:FuncId→Nat→Option Shape) (G:(f:FuncId)→(g:aK)→Option (g.A→Option g.B))
noncomputable def Fn:Nat→(f:FuncId)→(g:aK)→g.A→Option g.B
 |0,f,g,x=>match G f g with
  |some u=>u x
  |none=>none
 |m+1,f,g,x=>match G f g with
  |some u=>u x
  |none=>F9 P Eqs Sg An (Fn m) f g m x
end
end Go.Vs
namespace Go.Vs
def o8:Code→List Item→List (List Item)
 |.seq a b,k=>o8 a (.code b::k)++o8 b k
 |.cond _ a b,k=>o8 a k++o8 b k
 |.block id c,k=>o8 c (.inBlock id::k)
 |.scope c,k=>o8 c (.inScope c::k)
 |.loop c,k=>(.inLoop c::k)::o8 c (.inLoop c::k)
 |_,_=>[]
def bY(P:Program)(f:FuncId)(j:Nat):List Item :=
 match body P f with
 |some (_,c)=>(o8 c []).getD j []
 |none=>[]
def round:List Item→List Item
 |.inLoop c::k=>.code c::.inLoop c::k
 |k=>k
end Go.Vs
namespace Go.Vs
theorem sL(a:Addr)(n m:Nat):(a.add n).add m=a.add (n+m):=by
 unfold Addr.add
 by_cases h1:n=0<;>by_cases h2:m=0<;>simp[h1,h2,Nat.add_assoc]
theorem AS(a:Addr):a.add 0=a:=by simp[Addr.add]
theorem cd(a:Addr)(n:Nat):(a.add n).block=a.block:=by unfold Addr.add;split<;>rfl
theorem bW(g i n:Nat):(⟨g,i,none⟩:Addr).add n=⟨g,i+n,none⟩:=by unfold Addr.add;split<;>simp_all
def b5(Z:Nat→Prop)(w w':World):Prop:=∀b,Z b→w'.heap[b]? = w.heap[b]?
theorem b5.refl(Z:Nat→Prop)(w:World):b5 Z w w:=fun _ _=>rfl
theorem b5.trans{Z:Nat→Prop}{w w1 w2:World}(h:b5 Z w w1)(k:b5 Z w1 w2):b5 Z w w2:=fun b hb=>(k b hb).trans (h b hb)
theorem b5.cell{Z:Nat→Prop}{w w':World}(h:b5 Z w w'){a:Addr}(ha:Z a.block):w'.cell? a=w.cell? a:=World.cell?_of_block (h _ ha)
def Yn{α:Type}(r:α→List Value→Prop)(Z:Nat→Prop)(sz:Nat)(w:World)(xs:List α)(v:Value):Prop :=
 ∃A c,v=.slice A xs.length c∧xs.length≤c∧(A=none→c=0) ∧
  ∀(i:Nat) (x:α),xs[i]? = some x→∃a us,A=some a∧Z a.block∧r x us∧∀(j:Nat) u,us[j]? = some u→w.cell? (a.add (i*sz+j))=some u
def Cd{α β:Type}(ra:α→List Value→Prop)(rb:β→List Value→Prop)(pa pb:Bool)(es:List (α×β))(bG:List MapEntry):Prop :=
 es.length=bG.length∧∀(i:Nat) (x:α×β) (e:MapEntry),es[i]? = some x→bG[i]? = some e →
  (ra x.1 e.key.cells.toList∧(pa=true→∃vs,e.key=.agg vs)∧(pa=false→e.key.cells=#[e.key]))∧rb x.2 e.val.cells.toList∧(pb=true→∃vs,e.val=.agg vs)∧(pb=false→e.val.cells=#[e.val])
def ax(Z:Nat→Prop)(w:World):(k:K)→k.T→List Value→Prop
 |.int ik,n,vs=>vs=[.int ik n]
 |.bool,b,vs=>vs=[.bool b]
 |.str,s,vs=>vs=[.string s]
 |.sl k,xs,vs=>∃v,vs=[v]∧Yn (ax Z w k) Z k.sz w xs v
 |.pair a b,x,vs=>∃us ws,vs=us++ws∧ax Z w a x.1 us∧ax Z w b x.2 ws
 |.one k,x,vs=>ax Z w k x vs
 |.mp kk vk,es,vs=>∃A,vs=[.map A]∧((A=none∧es=[])∨∃m bG clock,A=some m∧Z m∧w.heap[m]? = some (.map bG clock)∧Cd (ax Z w kk) (ax Z w vk) kk.isAgg vk.isAgg es bG.toList)
variable {Z Z':Nat→Prop} {w w':World}
theorem ax.len:∀{k:K} {x:k.T} {vs:List Value},ax Z w k x vs→vs.length=k.sz
 |.int _,_,_,h=>by simp only[ax]at h;subst h;rfl
 |.bool,_,_,h=>by simp only[ax]at h;subst h;rfl
 |.str,_,_,h=>by simp only[ax]at h;subst h;rfl
 |.sl _,_,_,h=>by simp only[ax]at h;obtain⟨v,rfl,_⟩:=h;rfl
 |.pair a b,x,_,h=>by
  simp only[ax]at h
  obtain⟨us,ws,rfl,h1,h2⟩:=h
  rw[List.length_append,ax.len h1,ax.len h2];rfl
 |.one k,x,_,h=>by
  simp only[ax]at h
  exact ax.len (k:=k) h
 |.mp _ _,_,_,h=>by simp only[ax]at h;obtain⟨A,rfl,_⟩:=h;rfl
theorem K.gD:∀k:K,0<k.sz
 |.int _=>Nat.one_pos
 |.bool=>Nat.one_pos
 |.str=>Nat.one_pos
 |.sl _=>Nat.one_pos
 |.pair a _=>Nat.lt_of_lt_of_le (K.gD a) (Nat.le_add_right _ _)
 |.one k=>K.gD k
 |.mp _ _=>Nat.one_pos
theorem ax.one:∀{k:K} {x:k.T} {vs:List Value},ax Z w k x vs→∀u∈vs,u.oneCell'=true
 |.int _,_,_,h=>by simp only[ax]at h;subst h;simp[Value.oneCell']
 |.bool,_,_,h=>by simp only[ax]at h;subst h;simp[Value.oneCell']
 |.str,_,_,h=>by simp only[ax]at h;subst h;simp[Value.oneCell']
 |.sl _,_,_,h=>by simp only[ax]at h;obtain⟨v,rfl,A,c,rfl,_⟩:=h;simp[Value.oneCell']
 |.pair a b,x,_,h=>by
  simp only[ax]at h
  obtain⟨us,ws,rfl,h1,h2⟩:=h
  intro u hu
  rcases List.mem_append.1 hu with hu|hu
  ·exact ax.one h1 u hu
  ·exact ax.one h2 u hu
 |.one k,x,_,h=>by
  simp only[ax]at h
  exact ax.one (k:=k) h
 |.mp _ _,_,_,h=>by simp only[ax]at h;obtain⟨A,rfl,_⟩:=h;simp[Value.oneCell']
theorem Cd.imp{α β:Type}{ra ra':α→List Value→Prop}{rb rb':β→List Value→Prop}{pa pb:Bool}(ha:∀x vs,ra x vs→ra' x vs)(hb:∀x vs,rb x vs→rb' x vs){es:List (α×β)}{bG:List MapEntry}(h:Cd ra rb pa pb es bG):Cd ra' rb' pa pb es bG :=
 ⟨h.1,fun i x e h1 h2=>by obtain⟨⟨a,b⟩,c,d⟩:=h.2 i x e h1 h2;exact⟨⟨ha _ _ a,b⟩,hb _ _ c,d⟩⟩
theorem ax.mono(hz:∀b,Z b→Z' b)(hs:b5 Z w w'):∀{k:K} {x:k.T} {vs:List Value},ax Z w k x vs→ax Z' w' k x vs
 |.int _,_,_,h=>h
 |.bool,_,_,h=>h
 |.str,_,_,h=>h
 |.sl k,xs,_,h=>by
  simp only[ax]at h ⊢
  obtain⟨v,rfl,A,c,rfl,hl,hn,he⟩:=h
  refine⟨_,rfl,A,c,rfl,hl,hn,fun i x hx=>?_⟩
  obtain⟨a,us,ha,TW,hr,hc⟩:=he i x hx
  refine⟨a,us,ha,hz _ TW,ax.mono hz hs hr,fun j u hu=>?_⟩
  rw[hs.cell (by rw[cd];exact TW)]
  exact hc j u hu
 |.pair a b,x,_,h=>by
  simp only[ax]at h ⊢
  obtain⟨us,ws,rfl,h1,h2⟩:=h
  exact⟨us,ws,rfl,ax.mono hz hs h1,ax.mono hz hs h2⟩
 |.one k,x,_,h=>by
  simp only[ax]at h ⊢
  exact ax.mono hz hs (k:=k) h
 |.mp kk vk,es,_,h=>by
  simp only[ax]at h ⊢
  obtain⟨A,rfl,h⟩:=h
  refine⟨A,rfl,h.imp (fun h=>h) fun⟨m,bG,clock,h1,h2,h3,h4⟩=>⟨m,bG,clock,h1,hz _ h2,(hs m h2).trans h3,h4.imp (fun _ _ h=>ax.mono hz hs h) (fun _ _ h=>ax.mono hz hs h)⟩⟩
def Oy:Value→Nat
 |.pointer (some a)=>a.block
 |.slice (some a) _ _=>a.block
 |_=>0
def ob:Value→Option Nat
 |.pointer (some a)=>some a.block
 |.slice (some a) _ c=>if c=0 then none else some a.block
 |.map (some m)=>some m
 |_=>none
mutual
def ar(Z:Nat→Prop)(ψ:Nat→Value)(h:Nat→Option Ob)(w:World):AV→Value→Prop
 |.no,_=>True
 |.bool b,v=>v=.bool b
 |.int k n,v=>v=.int k n
 |.str s,v=>v=.string s
 |.kb,v=>v=.pointer none
 |.eY,v=>v=.slice none 0 0
 |.ref id s i off,v=>∃a,v=.pointer (some a)∧(h id≠none→a=⟨Oy (ψ id),i*s+off,none⟩)
 |.fp k x off,v=>∃a us,v=.pointer (some a)∧Z a.block∧ax Z w k x us∧∀(j:Nat) u,us[off+j]? = some u→w.cell? (a.add j)=some u
 |.sl ex k xs,v=>ax Z w (.sl k) xs [v]∧(ex=true→∃A c,v=.slice A c c)
 |.mp kk vk es,v=>ax Z w (.mp kk vk) es [v]
 |.bp id,v=>(v.cells=#[v]∧v.oneCell'=true)∧(h id≠none→v=ψ id)
 |.fn f cap,v=>∃vs,v=.func (.func f) #[] vs∧ai Z ψ h w cap vs.toList
 |.agg cs,v=>∃vs,v=.agg vs∧ai Z ψ h w cs vs.toList
 |.lW cs,v=>∃vs,v=.tuple vs∧ai Z ψ h w cs vs.toList
def ai(Z:Nat→Prop)(ψ:Nat→Value)(h:Nat→Option Ob)(w:World):List AV→List Value→Prop
 |[],vs=>vs=[]
 |a::r,vs=>∃v us,vs=v::us∧ar Z ψ h w a v∧ai Z ψ h w r us
end
mutual
def aA(p:Nat→Prop):AV→Prop
 |.ref id _ _ _=>p id
 |.bp id=>p id
 |.fn _ cap=>au p cap
 |.agg cs=>au p cs
 |.lW vs=>au p vs
 |.no=>True
 |.bool _=>True
 |.int _ _=>True
 |.str _=>True
 |.kb=>True
 |.eY=>True
 |.fp _ _ _=>True
 |.sl _ _ _=>True
 |.mp _ _ _=>True
def au(p:Nat→Prop):List AV→Prop
 |[]=>True
 |v::r=>aA p v∧au p r
end
section
variable {Z Z':Nat→Prop} {w w':World} {ψ ψ':Nat→Value} {h h':Nat→Option Ob} {p:Nat→Prop}
mutual
theorem ar.move(hz:∀b,Z b→Z' b)(hs:b5 Z w w')(hh:∀id,p id→h' id≠none→h id≠none∧ψ' id=ψ id):∀{a:AV} {v:Value},aA p a→ar Z ψ h w a v→ar Z' ψ' h' w' a v
 |.no,_,_,_=>by simp only[ar]
 |.bool b,_,_,hr=>by simpa only[ar] using hr
 |.int k n,_,_,hr=>by simpa only[ar] using hr
 |.str s,_,_,hr=>by simpa only[ar] using hr
 |.kb,_,_,hr=>by simpa only[ar] using hr
 |.eY,_,_,hr=>by simpa only[ar] using hr
 |.ref id s i off,_,hm,hr=>by
  simp only[ar,aA]at hr hm ⊢
  obtain⟨a,rfl,ha⟩:=hr
  refine⟨a,rfl,fun hn=>?_⟩
  obtain⟨h1,h2⟩:=hh id hm hn
  rw[h2];exact ha h1
 |.fp k x off,_,_,hr=>by
  simp only[ar]at hr ⊢
  obtain⟨a,us,rfl,TW,hk,hc⟩:=hr
  refine⟨a,us,rfl,hz _ TW,hk.mono hz hs,fun j u hu=>?_⟩
  rw[hs.cell (by rw[cd];exact TW)]
  exact hc j u hu
 |.sl ex k xs,_,_,hr=>by
  simp only[ar]at hr ⊢
  exact⟨ax.mono hz hs hr.1,hr.2⟩
 |.mp kk vk es,_,_,hr=>by
  simp only[ar]at hr ⊢
  exact ax.mono hz hs hr
 |.bp id,_,hm,hr=>by
  simp only[ar,aA]at hr hm ⊢
  refine⟨hr.1,fun hn=>?_⟩
  obtain⟨h1,h2⟩:=hh id hm hn
  rw[h2];exact hr.2 h1
 |.fn f cap,_,hm,hr=>by
  simp only[ar,aA]at hr hm ⊢
  obtain⟨vs,rfl,hl⟩:=hr
  exact⟨vs,rfl,ai.move hz hs hh hm hl⟩
 |.agg cs,_,hm,hr=>by
  simp only[ar,aA]at hr hm ⊢
  obtain⟨vs,rfl,hl⟩:=hr
  exact⟨vs,rfl,ai.move hz hs hh hm hl⟩
 |.lW cs,_,hm,hr=>by
  simp only[ar,aA]at hr hm ⊢
  obtain⟨vs,rfl,hl⟩:=hr
  exact⟨vs,rfl,ai.move hz hs hh hm hl⟩
theorem ai.move(hz:∀b,Z b→Z' b)(hs:b5 Z w w')(hh:∀id,p id→h' id≠none→h id≠none∧ψ' id=ψ id):∀{a:List AV} {v:List Value},au p a→ai Z ψ h w a v→ai Z' ψ' h' w' a v
 |[],_,_,hr=>by simpa only[ai] using hr
 |a::r,_,hm,hr=>by
  simp only[ai,au]at hr hm ⊢
  obtain⟨v,us,rfl,h1,h2⟩:=hr
  exact⟨v,us,rfl,ar.move hz hs hh hm.1 h1,ai.move hz hs hh hm.2 h2⟩
end
mutual
theorem aA.top:∀a:AV,aA (fun _=>True) a
 |.no=>by simp only[aA]
 |.bool b=>by simp only[aA]
 |.int k n=>by simp only[aA]
 |.str s=>by simp only[aA]
 |.kb=>by simp only[aA]
 |.eY=>by simp only[aA]
 |.ref id s i off=>by simp only[aA]
 |.fp k x off=>by simp only[aA]
 |.sl ex k xs=>by simp only[aA]
 |.mp kk vk es=>by simp only[aA]
 |.bp id=>by simp only[aA]
 |.fn f cap=>by simp only[aA];exact au.top cap
 |.agg cs=>by simp only[aA];exact au.top cs
 |.lW cs=>by simp only[aA];exact au.top cs
theorem au.top:∀a:List AV,au (fun _=>True) a
 |[]=>by simp only[au]
 |a::r=>by simp only[au];exact⟨aA.top a,au.top r⟩
end
theorem ar.less(hz:∀b,Z b→Z' b)(hs:b5 Z w w')(hh:∀id,h' id≠none→h id≠none∧ψ' id=ψ id){a:AV}{v:Value}(hr:ar Z ψ h w a v):ar Z' ψ' h' w' a v :=
 ar.move (p:=fun _=>True) hz hs (fun id _ hn=>hh id hn) (aA.top a) hr
theorem ai.less(hz:∀b,Z b→Z' b)(hs:b5 Z w w')(hh:∀id,h' id≠none→h id≠none∧ψ' id=ψ id){a:List AV}{v:List Value}(hr:ai Z ψ h w a v):ai Z' ψ' h' w' a v :=
 ai.move (p:=fun _=>True) hz hs (fun id _ hn=>hh id hn) (au.top a) hr
theorem ai.length:∀{a:List AV} {v:List Value},ai Z ψ h w a v→a.length=v.length
 |[],_,hr=>by simp only[ai]at hr;subst hr;rfl
 |a::r,_,hr=>by
  simp only[ai]at hr
  obtain⟨v,us,rfl,_,h2⟩:=hr
  simp[ai.length h2]
theorem ai.get:∀{a:List AV} {v:List Value} (i:Nat) {x:AV},ai Z ψ h w a v→a[i]? = some x→∃u,v[i]? = some u∧ar Z ψ h w x u
 |[],_,i,x,_,hx=>by simp at hx
 |a::r,_,0,x,hr,hx=>by
  simp only[ai]at hr
  obtain⟨v,us,rfl,h1,h2⟩:=hr
  simp only[List.getElem?_cons_zero,Option.some.injEq]at hx;subst hx
  exact⟨v,rfl,h1⟩
 |a::r,_,i+1,x,hr,hx=>by
  simp only[ai]at hr
  obtain⟨v,us,rfl,h1,h2⟩:=hr
  obtain⟨u,hu,hr⟩:=ai.get i h2 (by simpa using hx)
  exact⟨u,by simpa using hu,hr⟩
theorem ai.append:∀{a b:List AV} {v u:List Value},ai Z ψ h w a v→ai Z ψ h w b u→ai Z ψ h w (a++b) (v++u)
 |[],b,_,u,hr,hb=>by simp only[ai]at hr;subst hr;exact hb
 |a::r,b,_,u,hr,hb=>by
  simp only[ai]at hr
  obtain⟨v,us,rfl,h1,h2⟩:=hr
  simp only[List.cons_append,ai]
  exact⟨v,us++u,rfl,h1,ai.append h2 hb⟩
theorem ai.split:∀{a b:List AV} {v:List Value},ai Z ψ h w (a++b) v→∃us ws,v=us++ws∧ai Z ψ h w a us∧ai Z ψ h w b ws
 |[],b,v,hr=>⟨[],v,rfl,by simp only[ai],hr⟩
 |a::r,b,v,hr=>by
  simp only[List.cons_append,ai]at hr
  obtain⟨x,us,rfl,h1,h2⟩:=hr
  obtain⟨hM,ws,rfl,h3,h4⟩:=ai.split h2
  exact⟨x::hM,ws,rfl,by simp only[ai];exact⟨x,hM,rfl,h1,h3⟩,h4⟩
theorem ai.drop(n:Nat){a:List AV}{v:List Value}(hr:ai Z ψ h w a v):ai Z ψ h w (a.drop n) (v.drop n):=by
 by_cases hn:n≤a.length
 ·have qc:ai Z ψ h w (a.take n++a.drop n) v:=by rw[List.take_append_drop];exact hr
  obtain⟨us,ws,rfl,h1,h2⟩:=ai.split qc
  have hl:=h1.length
  rw[List.length_take,Nat.min_eq_left hn]at hl
  rw[hl,List.drop_left];rw[←hl];exact h2
 ·have:=hr.length
  rw[List.drop_eq_nil_of_le (by omega),List.drop_eq_nil_of_le (by omega)];simp only[ai]
theorem ai.take(n:Nat){a:List AV}{v:List Value}(hr:ai Z ψ h w a v):ai Z ψ h w (a.take n) (v.take n):=by
 by_cases hn:n≤a.length
 ·have qc:ai Z ψ h w (a.take n++a.drop n) v:=by rw[List.take_append_drop];exact hr
  obtain⟨us,ws,rfl,h1,h2⟩:=ai.split qc
  have hl:=h1.length
  rw[List.length_take,Nat.min_eq_left hn]at hl
  conv=>rhs;rw[hl,List.take_left]
  exact h1
 ·have:=hr.length
  rw[List.take_of_length_le (by omega),List.take_of_length_le (by omega)];exact hr
theorem ai.set:∀{a:List AV} {v:List Value} (i:Nat) {x:AV} {u:Value},ai Z ψ h w a v→ar Z ψ h w x u→ai Z ψ h w (a.set i x) (v.set i u)
 |[],_,i,x,u,hr,_=>by simp only[ai]at hr;subst hr;simp only[List.set_nil,ai]
 |a::r,_,0,x,u,hr,hx=>by
  simp only[ai]at hr
  obtain⟨v,us,rfl,h1,h2⟩:=hr
  simp only[List.set_cons_zero,ai];exact⟨u,us,rfl,hx,h2⟩
 |a::r,_,i+1,x,u,hr,hx=>by
  simp only[ai]at hr
  obtain⟨v,us,rfl,h1,h2⟩:=hr
  simp only[List.set_cons_succ,ai];exact⟨v,_,rfl,h1,ai.set i h2 hx⟩
theorem fF:∀{k:K} {x:k.T} {vs:List Value},ax Z w k x vs→ai Z ψ h w (enc k x) vs
 |.int _,_,_,hr=>by simp only[ax]at hr;subst hr;simp[enc,ai,ar]
 |.bool,_,_,hr=>by simp only[ax]at hr;subst hr;simp[enc,ai,ar]
 |.str,_,_,hr=>by simp only[ax]at hr;subst hr;simp[enc,ai,ar]
 |.sl k,xs,_,hr=>by
  have qc:=hr
  simp only[ax]at qc
  obtain⟨v,rfl,_⟩:=qc
  simp only[enc,ai,ar]
  exact⟨v,[],rfl,⟨hr,by simp⟩,rfl⟩
 |.pair a b,x,_,hr=>by
  simp only[ax]at hr
  obtain⟨us,ws,rfl,h1,h2⟩:=hr
  simp only[enc]
  exact ai.append (fF h1) (fF h2)
 |.one k,x,_,hr=>by
  simp only[ax]at hr
  simp only[enc]
  exact fF (k:=k) hr
 |.mp kk vk,es,_,hr=>by
  have qc:=hr
  simp only[ax]at qc
  obtain⟨A,rfl,_⟩:=qc
  simp only[enc,ai,ar]
  exact⟨_,[],rfl,hr,rfl⟩
theorem K8{k:K}{v:Value}(hr:ar Z ψ h w .eY v):ax Z w (.sl k) [] [v]:=by
 simp only[ar]at hr
 subst hr
 simp only[ax]
 exact⟨_,rfl,none,0,rfl,Nat.le_refl _,fun _=>rfl,fun i x hx=>by simp at hx⟩
theorem wG:∀{k:K} {cs:List AV} {x:k.T} {r:List AV} {vs:List Value},dec k cs=some (x,r)→ai Z ψ h w cs vs→∃us ws,vs=us++ws∧ax Z w k x us∧ai Z ψ h w r ws
 |.int ik,cs,x,r,vs,hd,hr=>by
  simp only[dec]at hd
  unfold B7 at hd
  split at hd
  ·split at hd
   ·rename_i he
    subst he
    cases hd
    simp only[ai,ar]at hr
    obtain⟨v,us,rfl,rfl,h2⟩:=hr
    exact⟨[_],us,rfl,by simp only[ax],h2⟩
   ·cases hd
  ·cases hd
 |.bool,cs,x,r,vs,hd,hr=>by
  simp only[dec]at hd
  unfold wD at hd
  split at hd
  ·cases hd
   simp only[ai,ar]at hr
   obtain⟨v,us,rfl,rfl,h2⟩:=hr
   exact⟨[_],us,rfl,by simp only[ax],h2⟩
  ·cases hd
 |.str,cs,x,r,vs,hd,hr=>by
  simp only[dec]at hd
  unfold B8 at hd
  split at hd
  ·cases hd
   simp only[ai,ar]at hr
   obtain⟨v,us,rfl,rfl,h2⟩:=hr
   exact⟨[_],us,rfl,by simp only[ax],h2⟩
  ·cases hd
 |.sl k,cs,x,r,vs,hd,hr=>by
  simp only[dec]at hd
  unfold HT at hd
  split at hd
  ·split at hd
   ·rename_i he
    subst he
    cases hd
    simp only[ai]at hr
    obtain⟨v,us,rfl,h1,h2⟩:=hr
    simp only[ar]at h1
    exact⟨[_],us,rfl,h1.1,h2⟩
   ·cases hd
  ·cases hd
   simp only[ai]at hr
   obtain⟨v,us,rfl,h1,h2⟩:=hr
   exact⟨[_],us,rfl,K8 h1,h2⟩
  ·cases hd
 |.pair a b,cs,x,r,vs,hd,hr=>by
  simp only[dec]at hd
  split at hd
  ·rename_i x1 r1 h1
   split at hd
   ·rename_i y1 r2 h2
    cases hd
    obtain⟨us,ws,rfl,k1,k2⟩:=wG h1 hr
    obtain⟨hM,Yo,rfl,k3,k4⟩:=wG h2 k2
    exact⟨us++hM,Yo,by rw[List.append_assoc],by simp only[ax];exact⟨us,hM,rfl,k1,k3⟩,k4⟩
   ·cases hd
  ·cases hd
 |.one k,cs,x,r,vs,hd,hr=>by
  simp only[dec]at hd
  obtain⟨us,ws,e,k1,k2⟩:=wG (k:=k) hd hr
  exact⟨us,ws,e,by simp only[ax];exact k1,k2⟩
 |.mp kk vk,cs,x,r,vs,hd,hr=>by
  simp only[dec]at hd
  unfold HU at hd
  split at hd
  ·split at hd
   ·rename_i he
    obtain⟨rfl,rfl⟩:=he
    cases hd
    simp only[ai]at hr
    obtain⟨v,us,rfl,h1,h2⟩:=hr
    simp only[ar]at h1
    exact⟨[_],us,rfl,h1,h2⟩
   ·cases hd
  ·cases hd
theorem di{k:K}{cs:List AV}{x:k.T}{vs:List Value}(hd:dh k cs=some x)(hr:ai Z ψ h w cs vs):ax Z w k x vs:=by
 unfold dh at hd
 split at hd
 ·rename_i x' h1
  cases hd
  obtain⟨us,ws,rfl,k1,k2⟩:=wG h1 hr
  simp only[ai]at k2
  subst k2
  rw[List.append_nil];exact k1
 ·cases hd
theorem kG{k:K}{x:k.T}{v:Value}(hr:ax Z w k x v.cells.toList)(hp:k.isAgg=true→∃vs,v=.agg vs)(hn:k.isAgg=false→v.cells=#[v]):ar Z ψ h w (bS k x) v:=by
 cases k with
 |int ik=>rw[hn rfl]at hr;simp only[ax]at hr;simp only[bS,ar];simpa using hr
 |bool=>rw[hn rfl]at hr;simp only[ax]at hr;simp only[bS,ar];simpa using hr
 |str=>rw[hn rfl]at hr;simp only[ax]at hr;simp only[bS,ar];simpa using hr
 |sl k=>rw[hn rfl]at hr;simp only[bS,ar];exact⟨hr,by simp⟩
 |mp kk vk=>rw[hn rfl]at hr;simp only[bS,ar];exact hr
 |pair a b =>
  obtain⟨vs,rfl⟩:=hp rfl
  simp only[bS,ar]
  exact⟨vs,rfl,fF hr⟩
 |one k =>
  obtain⟨vs,rfl⟩:=hp rfl
  simp only[bS,ar]
  exact⟨vs,rfl,fF hr⟩
end
end Go.Vs
namespace Go.Vs
theorem Heap.gE{n m:Nat}(aU:m≠n):∀h:Heap,(h.del n).get m=h.get m
 |[]=>rfl
 |(i,o)::r=>by
  simp only[Heap.del]
  split
  ·rename_i hi
   rw[Heap.gE aU r]
   simp only[Heap.get]
   rw[if_neg (by omega)]
  ·simp only[Heap.get]
   split
   ·rfl
   ·exact Heap.gE aU r
theorem Heap.fG(n:Nat):∀h:Heap,(h.del n).get n=none
 |[]=>rfl
 |(i,o)::r=>by
  simp only[Heap.del]
  split
  ·exact Heap.fG n r
  ·rename_i hi
   simp only[Heap.get]
   rw[if_neg hi];exact Heap.fG n r
theorem Heap.Ce(h:Heap)(n:Nat)(o:Ob):(h.set n o).get n=some o:=by simp[Heap.set,Heap.get]
theorem Heap.Ga{n m:Nat}(aU:m≠n)(h:Heap)(o:Ob):(h.set n o).get m=h.get m:=by
 simp only[Heap.set,Heap.get]
 rw[if_neg (by omega)]
 exact Heap.gE aU h
theorem Heap.sM{n m:Nat}{h:Heap}{o:Ob}(hg:(h.del n).get m=some o):h.get m=some o∧m≠n:=by
 by_cases aU:m=n
 ·subst aU;rw[Heap.fG]at hg;cases hg
 ·rw[Heap.gE aU]at hg;exact⟨hg,aU⟩
theorem Heap.get_append(a b:Heap)(n:Nat):(a++b).get n=(match a.get n with|some o=>some o|none=>b.get n):=by
 induction a with
 |nil=>rfl
 |cons p r ih =>
  obtain⟨i,o⟩:=p
  simp only[List.cons_append,Heap.get]
  split
  ·rfl
  ·exact ih
def l6(Z:Nat→Prop)(w:World)(k:K)(xs:List k.T)(vs:List Value):Prop :=
 ∀(i:Nat) (x:k.T),xs[i]? = some x→ax Z w k x ((vs.drop (i*k.sz)).take k.sz)
abbrev Hp:=Nat→Option Ob
def db(w:World)(e:TypeId)(size:Nat)(v:Value)(n:Nat)(vs:List Value):Prop :=
  vs.length=n*size ∧
  ((n=0∧∃A,v=.slice A 0 0) ∨
   ∃g cap cur,v=.slice (some ⟨g,0,none⟩) n cap∧0<cap∧w.heap[g]? = some (.cells cur e (0,0))∧n≤cap∧cap≤maxLen∧cur.size=cap*size∧cur.toList.take (n*size)=vs)
theorem db.of{w:World}{base e size n:Nat}{v:Value}{vs:List Value}(h:w.ownsRow base e size v n vs):db w e size v n vs:=by
 obtain⟨h1,h2⟩:=h
 refine⟨h1,?_⟩
 rcases h2 with⟨rfl,h2⟩|⟨g,cap,cur,rfl,_,h3,h4,h5,h6,h7⟩
 ·exact .inl ⟨h2,none,rfl⟩
 ·by_cases hc:cap=0
  ·subst hc
   have:n=0:=by omega
   subst this
   exact .inl ⟨rfl,_,rfl⟩
  ·exact .inr ⟨g,cap,cur,rfl,by omega,h3,h4,h5,h6,h7⟩
theorem db.slice{w:World}{e size n:Nat}{v:Value}{vs:List Value}(h:db w e size v n vs):∃A c,v=.slice A n c:=by
 rcases h.2 with⟨h0,A,rfl⟩|⟨g,cap,cur,rfl,_⟩
 ·subst h0;exact⟨A,0,rfl⟩
 ·exact⟨_,_,rfl⟩
theorem db.one{w:World}{e size n:Nat}{v:Value}{vs:List Value}(h:db w e size v n vs):v.cells=#[v]∧v.oneCell'=true:=by
 obtain⟨A,c,rfl⟩:=h.slice
 exact⟨rfl,by simp[Value.oneCell']⟩
theorem db.kept{w w':World}{e size n:Nat}{v:Value}{vs:List Value}(ho:db w e size v n vs)(hk:∀g,ob v=some g→w'.heap[g]? = w.heap[g]?):db w' e size v n vs:=by
 obtain⟨h1,h2⟩:=ho
 refine⟨h1,?_⟩
 rcases h2 with h2|⟨g,cap,cur,rfl,hc,hh,r⟩
 ·exact .inl h2
 ·exact .inr ⟨g,cap,cur,rfl,hc,(hk g (by simp only[ob];rw[if_neg (by omega)])).trans hh,r⟩
def iO(Z:Nat→Prop)(w:World):(ok:OK)→Value→ok.T→Prop
 |.row ty k,v,xs=>∃vs,db w ty k.sz v xs.length vs∧l6 Z w k xs vs
 |.map kk vk,v,es=>∃m bG clock,v=.map (some m)∧w.heap[m]? = some (.map bG clock)∧Cd (ax Z w kk) (ax Z w vk) kk.isAgg vk.isAgg es bG.toList∧bG.toList.Pairwise (fun a b=>a.born≠b.born)∧∀e∈bG.toList,e.born<clock
 |.iter kk vk,v,x=>∃r m since seen bG clock,v=.pointer (some ⟨r,0,none⟩)∧w.heap[r]? = some (.mapIter (some m) since seen clock)∧Z m∧w.heap[m]? = some (.map bG clock) ∧
   bG.toList.Pairwise (fun a b=>a.born≠b.born)∧since=clock∧(∀e∈bG.toList,e.born<clock)∧Cd (ax Z w kk) (ax Z w vk) kk.isAgg vk.isAgg x.2 (bG.toList.filter fun e => !seen.contains e.born) ∧
   (match x.1 with|none=>True|some c=>∃e∈bG.toList,seen.back? = some e.born∧Cd (ax Z w kk) (ax Z w vk) kk.isAgg vk.isAgg [c] [e])
 |.mq,v,x=>∃r,v=.pointer (some ⟨r,0,none⟩)∧w.heap[r]? = some (.stringIter x.1 x.2)
theorem iO.lt{Z:Nat→Prop}{w:World}:∀{ok:OK} {v:Value} {x:ok.T} {b:Nat},iO Z w ok v x→ob v=some b→b<w.heap.size
 |.row ty k,v,xs,b,h,hb=>by
  obtain⟨vs,⟨_,h⟩,_⟩:=h
  rcases h with⟨_,A,rfl⟩|⟨g,cap,cur,rfl,hc,h2,_⟩
  ·cases A<;>simp[ob]at hb
  ·simp only[ob]at hb
   rw[if_neg (by omega)]at hb
   cases hb
   exact(Array.getElem?_eq_some_iff.1 h2).1
 |.map _ _,v,_,b,h,hb=>by
  obtain⟨m,bG,clock,rfl,h2,_⟩:=h
  simp only[ob,Option.some.injEq]at hb;subst hb
  exact(Array.getElem?_eq_some_iff.1 h2).1
 |.iter _ _,v,_,b,h,hb=>by
  obtain⟨r,m,since,seen,bG,clock,rfl,h2,_⟩:=h
  simp only[ob,Option.some.injEq]at hb;subst hb
  exact(Array.getElem?_eq_some_iff.1 h2).1
 |.mq,v,_,b,h,hb=>by
  obtain⟨r,rfl,h2⟩:=h
  simp only[ob,Option.some.injEq]at hb;subst hb
  exact(Array.getElem?_eq_some_iff.1 h2).1
theorem iO.one{Z:Nat→Prop}{w:World}:∀{ok:OK} {v:Value} {x:ok.T},iO Z w ok v x→v.cells=#[v]∧v.oneCell'=true
 |.row ty k,v,xs,h=>by
  obtain⟨vs,h,_⟩:=h
  obtain⟨A,c,rfl⟩:=h.slice
  exact⟨rfl,by simp[Value.oneCell']⟩
 |.map _ _,v,_,h=>by obtain⟨m,bG,clock,rfl,_⟩:=h;exact⟨rfl,by simp[Value.oneCell']⟩
 |.iter _ _,v,_,h=>by obtain⟨r,m,since,seen,bG,clock,rfl,_⟩:=h;exact⟨rfl,by simp[Value.oneCell']⟩
 |.mq,v,_,h=>by obtain⟨r,rfl,_⟩:=h;exact⟨rfl,by simp[Value.oneCell']⟩
theorem iO.kept{Z Z':Nat→Prop}{w w':World}(hz:∀b,Z b→Z' b)(sm:b5 Z w w'):∀{ok:OK} {v:Value} {x:ok.T},(∀g,ob v=some g→w'.heap[g]? = w.heap[g]?)→iO Z w ok v x→iO Z' w' ok v x
 |.row ty k,v,xs,hk,h=>by
  obtain⟨vs,h1,h2⟩:=h
  exact⟨vs,h1.kept hk,fun i x hx=>(h2 i x hx).mono hz sm⟩
 |.map _ _,v,_,hk,h=>by
  obtain⟨m,bG,clock,rfl,h2,h3,h4⟩:=h
  exact⟨m,bG,clock,rfl,(hk m rfl).trans h2,h3.imp (fun _ _ h=>h.mono hz sm) (fun _ _ h=>h.mono hz sm),h4⟩
 |.iter _ _,v,x,hk,h=>by
  obtain⟨r,m,since,seen,bG,clock,rfl,h2,h3,h4,h5,h6,h7,h8,h9⟩:=h
  refine⟨r,m,since,seen,bG,clock,rfl,(hk r rfl).trans h2,hz _ h3,(sm m h3).trans h4,h5,h6,h7,h8.imp (fun _ _ h=>h.mono hz sm) (fun _ _ h=>h.mono hz sm),?_⟩
  split
  ·trivial
  ·rename_i c hc
   rw[hc]at h9
   obtain⟨e,he,l8,wo⟩:=h9
   exact⟨e,he,l8,wo.imp (fun _ _ h=>h.mono hz sm) (fun _ _ h=>h.mono hz sm)⟩
 |.mq,v,_,hk,h=>by
  obtain⟨r,rfl,h2⟩:=h
  exact⟨r,rfl,(hk r rfl).trans h2⟩
structure Good(Z:Nat→Prop)(ψ:Nat→Value)(h:Hp)(w:World)(B0:Nat)(O:Nat→Prop):Prop where
 box:∀id ty cs,h id=some (.box ty cs)→∃g vs,ψ id=.pointer (some ⟨g,0,none⟩)∧w.heap[g]? = some (.cells vs ty (0,0))∧ai Z ψ h w cs vs.toList∧∀u∈vs.toList,u.oneCell'=true
 row:∀id ok x,h id=some (.own ok x)→iO Z w ok (ψ id) x
 live:∀id g,h id≠none→ob (ψ id)=some g→¬Z g∧(B0≤g∨O g)
 apart:∀id ly g,h id≠none→h ly≠none→ob (ψ id)=some g→ob (ψ ly)=some g→id=ly
 iS:∀b,Z b→b<w.heap.size
variable {Z Z':Nat→Prop} {ψ ψ':Nat→Value} {h h':Hp} {w w':World} {B0:Nat} {O:Nat→Prop}
theorem Good.sub(g:Good Z ψ h w B0 O)(hs:∀id o,h' id=some o→h id=some o):Good Z ψ h' w B0 O:=by
 have hn:∀id,h' id≠none→h id≠none:=fun id hn=>by
  obtain⟨o,ho⟩:=Option.ne_none_iff_exists'.1 hn
  rw[hs id o ho];simp
 refine⟨fun id ty cs hb=>?_,fun id ok x hb=>g.row id ok x (hs _ _ hb),fun id b h1 h2=>g.live id b (hn id h1) h2,fun id ly b h1 h2 h3 h4=>g.apart id ly b (hn _ h1) (hn _ h2) h3 h4,g.iS⟩
 obtain⟨b,vs,h1,h2,h3,h4⟩:=g.box id ty cs (hs _ _ hb)
 exact⟨b,vs,h1,h2,ai.less (fun _ h=>h) (b5.refl _ _) (fun id bw=>⟨hn id bw,rfl⟩) h3,h4⟩
theorem Good.freeze(g:Good Z ψ h w B0 O)(hs:∀id o,h' id=some o→h id=some o)(hz:∀b,Z b→Z' b)
  (KP:∀b,Z' b→Z b∨∃id,h id≠none∧h' id=none∧ob (ψ id)=some b):Good Z' ψ h' w B0 O:=by
 have hn:∀id,h' id≠none→h id≠none:=fun id hn=>by
  obtain⟨o,ho⟩:=Option.ne_none_iff_exists'.1 hn
  rw[hs id o ho];simp
 have lt:∀id b,h id≠none→ob (ψ id)=some b→b<w.heap.size:=by
  intro id b h1 h2
  obtain⟨o,ho⟩:=Option.ne_none_iff_exists'.1 h1
  cases o with
  |box ty cs =>
   obtain⟨gg,vs,e1,e2,_⟩:=g.box id ty cs ho
   rw[e1]at h2;simp only[ob,Option.some.injEq]at h2;subst h2
   exact(Array.getElem?_eq_some_iff.1 e2).1
  |own ok x=>exact(g.row id ok x ho).lt h2
 refine⟨fun id ty cs hb=>?_,fun id ok x hb=>?_,fun id b h1 h2=>⟨fun TX=>?_,(g.live id b (hn id h1) h2).2⟩,fun id ly b h1 h2 h3 h4=>g.apart id ly b (hn _ h1) (hn _ h2) h3 h4,fun b hb=>?_⟩
 ·obtain⟨b,vs,h1,h2,h3,h4⟩:=g.box id ty cs (hs _ _ hb)
  exact⟨b,vs,h1,h2,ai.less hz (b5.refl _ _) (fun id bw=>⟨hn id bw,rfl⟩) h3,h4⟩
 ·exact(g.row id ok x (hs _ _ hb)).kept hz (b5.refl _ _) (fun _ _=>rfl)
 ·rcases KP b TX with h3|⟨ly,h3,h4,h5⟩
  ·exact(g.live id b (hn id h1) h2).1 h3
  ·have:=g.apart id ly b (hn id h1) h3 h2 h5
   subst this;exact h1 h4
 ·rcases KP b hb with h3|⟨ly,h3,h4,h5⟩
  ·exact g.iS b h3
  ·exact lt ly b h3 h5
theorem sN{ty:TypeId}{k:K}{xs:List k.T}{v:Value}{vs:List Value}(ho:db w ty k.sz v xs.length vs)(hv:l6 Z w k xs vs)(hz:∀b,Z b→Z' b)(hb:∀b,ob v=some b→Z' b) :
  ax Z' w (.sl k) xs [v]:=by
 simp only[ax]
 refine⟨v,rfl,?_⟩
 obtain⟨hl,e⟩:=ho
 rcases e with⟨h0,A,rfl⟩|⟨g,cap,cur,rfl,Gb,hh,hc,_,hs,Yp⟩
 ·have:xs=[]:=List.eq_nil_of_length_eq_zero h0
  subst this
  exact⟨A,0,rfl,Nat.le_refl _,fun _=>rfl,fun i x hx=>by simp at hx⟩
 ·refine⟨some ⟨g,0,none⟩,cap,rfl,hc,fun e=>(by cases e),fun i x hx=>?_⟩
  have hi:i<xs.length:=(List.getElem?_eq_some_iff.1 hx).1
  refine⟨⟨g,0,none⟩,_,rfl,hb g (by simp only[ob];rw[if_neg (by omega)]),(hv i x hx).mono hz (b5.refl _ _),fun j u hu=>?_⟩
  rw[bW,Nat.zero_add]
  simp only[World.cell?,hh]
  rw[List.getElem?_take]at hu
  split at hu
  ·rename_i hj
   rw[List.getElem?_drop]at hu
   rw[←Yp,List.getElem?_take]at hu
   split at hu
   ·simpa using hu
   ·cases hu
  ·cases hu
theorem AT{hh:Heap}{a:AV}{v:Value}(g:Good Z ψ hh.get w B0 O)(hz:∀b,Z b→Z' b)(hb:∀id b,a=.bp id→hh.get id≠none→ob (ψ id)=some b→Z' b)(hr:ar Z ψ hh.get w a v):ar Z' ψ hh.get w (ct hh a) v:=by
 unfold ct
 split
 ·rename_i id
  split
  ·rename_i ty k xs hg
   simp only[ar]at hr
   have hv:=hr.2 (by rw[hg];simp)
   subst hv
   obtain⟨vs,h1,h2⟩:=g.row id (.row ty k) xs hg
   simp only[ar]
   exact⟨sN h1 h2 hz (fun b Ro=>hb id b rfl (by rw[hg];simp) Ro),by simp⟩
  ·rename_i kk vk es hg
   simp only[ar]at hr
   have hv:=hr.2 (by rw[hg];simp)
   subst hv
   obtain⟨m,bG,clock,h1,h2,h3,_⟩:=g.row id (.map kk vk) es hg
   simp only[ar,ax]
   refine⟨some m,by rw[h1],.inr ⟨m,bG,clock,rfl,hb id m rfl (by rw[hg];simp) (by rw[h1];rfl),h2,h3.imp (fun _ _ h=>h.mono hz (b5.refl _ _)) (fun _ _ h=>h.mono hz (b5.refl _ _))⟩⟩
  ·simp only[ar]
 ·exact hr.less hz (b5.refl _ _) (fun id bw=>⟨bw,rfl⟩)
theorem mA{hh:Heap}(g:Good Z ψ hh.get w B0 O)(hz:∀b,Z b→Z' b):∀{cs:List AV} {vs:List Value},(∀id b,AV.bp id∈cs→hh.get id≠none→ob (ψ id)=some b→Z' b)→ai Z ψ hh.get w cs vs→ai Z' ψ hh.get w (cs.map (ct hh)) vs
 |[],_,_,hr=>by simpa only[ai,List.map_nil] using hr
 |a::r,_,hb,hr=>by
  simp only[ai,List.map_cons]at hr ⊢
  obtain⟨v,us,rfl,h1,h2⟩:=hr
  exact⟨v,us,rfl,AT g hz (fun id b e=>hb id b (by rw[e];simp)) h1,mA g hz (fun id b e=>hb id b (List.mem_cons_of_mem _ e)) h2⟩
theorem Jg(hh:Heap)(a:AV):∀id o,(drop1 hh a).get id=some o→hh.get id=some o:=by
 intro id o hg
 unfold drop1 at hg
 split at hg
 ·exact(Heap.sM hg).1
 ·exact hg
theorem dE:∀(cs:List AV) (hh:Heap),∀id o,(cq hh cs).get id=some o→hh.get id=some o
 |[],_,_,_,hg=>hg
 |c::r,hh,id,o,hg=>Jg hh c id o (dE r (drop1 hh c) id o hg)
theorem xy:∀(cs:List AV) (hh:Heap) (id:Nat),AV.bp id∈cs→(cq hh cs).get id=none
 |[],_,_,hm=>by simp at hm
 |c::r,hh,id,hm=>by
  simp only[cq]
  rcases List.mem_cons.1 hm with rfl|hm
  ·cases hg:(cq (drop1 hh (.bp id)) r).get id with
   |none=>rfl
   |some o =>
    have:=dE r _ id o hg
    simp only[drop1,Heap.fG]at this;cases this
  ·exact xy r _ id hm
theorem nq:∀(cs:List AV) (hh:Heap) (id:Nat),AV.bp id∉cs→(cq hh cs).get id=hh.get id
 |[],_,_,_=>rfl
 |c::r,hh,id,hm=>by
  simp only[cq]
  rw[nq r _ id (fun h=>hm (List.mem_cons_of_mem _ h))]
  unfold drop1
  split
  ·rename_i ly
   exact Heap.gE (fun e=>hm (by rw[e];simp)) hh
  ·rfl
def oL(Z:Nat→Prop)(ψ:Nat→Value)(h:Hp)(cs:List AV):Nat→Prop:=fun b=>Z b∨∃id,AV.bp id∈cs∧h id≠none∧ob (ψ id)=some b
theorem gF{hh:Heap}(g:Good Z ψ hh.get w B0 O)(cs:List AV):Good (oL Z ψ hh.get cs) ψ (cq hh cs).get w B0 O :=
 g.freeze (dE cs hh) (fun _ hb=>.inl hb) (fun b hb=>by
  rcases hb with hb|⟨id,h1,h2,h3⟩
  ·exact .inl hb
  ·exact .inr ⟨id,h2,xy cs hh id h1,h3⟩)
end Go.Vs
namespace Go.Vs
def Own(ψ:Nat→Value)(h:Hp)(b:Nat):Prop:=∃id,h id≠none∧ob (ψ id)=some b
structure cG(ψ:Nat→Value)(h:Hp)(w w':World):Prop where
 os:w'.os=w.os
 tape:w'.tape=w.tape
 output:w'.output=w.output
 size:w.heap.size≤w'.heap.size
 block:∀b,b<w.heap.size→¬Own ψ h b→w'.heap[b]? = w.heap[b]?
structure Next(Z:Nat→Prop)(ψ:Nat→Value)(h:Hp)(w:World)(B0:Nat)(O:Nat→Prop)(N:Nat→Prop)(Z':Nat→Prop)(ψ':Nat→Value)(h':Hp)(w':World):Prop where
 eR:∀b,Z b→Z' b
 dJ:∀b,Z' b→Z b∨Own ψ h b∨w.heap.size≤b
 keep:cG ψ h w w'
 ids:∀id,h' id≠none→(h id≠none∧ψ' id=ψ id)∨N id
 dx:Good Z' ψ' h' w' B0 O
variable {Z Z':Nat→Prop} {ψ ψ':Nat→Value} {h h':Hp} {w w':World} {B0:Nat} {O:Nat→Prop} {N:Nat→Prop}
theorem cG.refl(ψ:Nat→Value)(h:Hp)(w:World):cG ψ h w w:=⟨rfl,rfl,rfl,Nat.le_refl _,fun _ _ _=>rfl⟩
theorem cG.same(k:cG ψ h w w')(g:Good Z ψ h w B0 O):b5 Z w w':=fun b hb=>k.block b (g.iS b hb) (fun⟨id,h1,h2⟩=>(g.live id b h1 h2).1 hb)
theorem Next.same(n:Next Z ψ h w B0 O N Z' ψ' h' w')(g:Good Z ψ h w B0 O):b5 Z w w':=n.keep.same g
theorem Next.refl(g:Good Z ψ h w B0 O):Next Z ψ h w B0 O N Z ψ h w :=
 ⟨fun _ h=>h,fun _ h=>.inl h,cG.refl _ _ _,fun _ bw=>.inl ⟨bw,rfl⟩,g⟩
theorem Next.rep(n:Next Z ψ h w B0 O N Z' ψ' h' w')(g:Good Z ψ h w B0 O){a:AV}{v:Value}(hm:aA (fun id=>¬N id) a)(hr:ar Z ψ h w a v):ar Z' ψ' h' w' a v :=
 hr.move n.eR (n.same g) (fun id hp bw=>(n.ids id bw).resolve_right hp) hm
theorem Good.bA(g:Good Z ψ h w B0 O){b:Nat}(ho:Own ψ h b):b<w.heap.size:=by
 obtain⟨id,h1,h2⟩:=ho
 obtain⟨o,ho⟩:=Option.ne_none_iff_exists'.1 h1
 cases o with
 |box ty cs =>
  obtain⟨gg,vs,e1,e2,_⟩:=g.box id ty cs ho
  rw[e1]at h2;simp only[ob,Option.some.injEq]at h2;subst h2
  exact(Array.getElem?_eq_some_iff.1 e2).1
 |own ok x=>exact(g.row id ok x ho).lt h2
theorem Good.more(g:Good Z ψ h w B0 O)(k:cG ψ h w w')(qW:∀b,Own ψ h b→w'.heap[b]? = w.heap[b]?)
  (hold:∀id,¬N id→h' id=h id∧ψ' id=ψ id)
  (aR:∀id ty cs,h id=some (.box ty cs)→au (fun i=>¬N i) cs)
  (K9:∀id ty cs,N id→h' id=some (.box ty cs)→∃g vs,ψ' id=.pointer (some ⟨g,0,none⟩)∧w'.heap[g]? = some (.cells vs ty (0,0))∧ai Z ψ' h' w' cs vs.toList∧∀u∈vs.toList,u.oneCell'=true)
  (mB:∀id ok x,N id→h' id=some (.own ok x)→iO Z w' ok (ψ' id) x)
  (xz:∀id b,N id→h' id≠none→ob (ψ' id)=some b→w.heap.size≤b)
  (Gc:∀id ly b,N id→N ly→h' id≠none→h' ly≠none→ob (ψ' id)=some b→ob (ψ' ly)=some b→id=ly) (hB:B0≤w.heap.size) :
  Next Z ψ h w B0 O N Z ψ' h' w':=by
 have qO:∀id,h' id≠none→(h id≠none∧ψ' id=ψ id)∨N id:=fun id bw=>by
  by_cases hn:N id
  ·exact .inr hn
  ·obtain⟨e1,e2⟩:=hold id hn
   exact .inl ⟨by rwa [e1]at bw,e2⟩
 have sm:b5 Z w w':=k.same g
 have vA:∀id b,¬N id→h' id≠none→ob (ψ' id)=some b→Own ψ h b:=fun id b hn h1 h2=>by
  obtain⟨e1,e2⟩:=hold id hn
  exact⟨id,by rwa [e1]at h1,by rwa [e2]at h2⟩
 refine⟨fun _ h=>h,fun _ h=>.inl h,k,qO,⟨fun id ty cs hb=>?_,fun id ok x hb=>?_,fun id b h1 h2=>?_,fun id ly b h1 h2 h3 h4=>?_,fun b hb=>Nat.lt_of_lt_of_le (g.iS b hb) k.size⟩⟩
 ·by_cases hn:N id
  ·exact K9 id ty cs hn hb
  ·obtain⟨e1,e2⟩:=hold id hn
   rw[e1]at hb
   obtain⟨gg,vs,h1,h2,h3,h4⟩:=g.box id ty cs hb
   have ho:Own ψ h gg:=⟨id,by rw[hb];simp,by rw[h1];rfl⟩
   exact⟨gg,vs,by rw[e2,h1],(qW gg ho).trans h2,h3.move (fun _ h=>h) sm (fun i hp bw=>(qO i bw).resolve_right hp) (aR id ty cs hb),h4⟩
 ·by_cases hn:N id
  ·exact mB id ok x hn hb
  ·obtain⟨e1,e2⟩:=hold id hn
   rw[e1]at hb
   rw[e2]
   exact(g.row id ok x hb).kept (fun _ h=>h) sm (fun gg Jh=>qW gg ⟨id,by rw[hb];simp,Jh⟩)
 ·by_cases hn:N id
  ·have:=xz id b hn h1 h2
   exact⟨fun hz=>by have:=g.iS b hz;omega,.inl (by omega)⟩
  ·obtain⟨e1,e2⟩:=hold id hn
   rw[e1]at h1;rw[e2]at h2
   exact g.live id b h1 h2
 ·by_cases hn:N id<;>by_cases Gd:N ly
  ·exact Gc id ly b hn Gd h1 h2 h3 h4
  ·have:=xz id b hn h1 h3
   have:=g.bA (vA ly b Gd h2 h4);omega
  ·have:=xz ly b Gd h2 h4
   have:=g.bA (vA id b hn h1 h3);omega
  ·obtain⟨e1,e2⟩:=hold id hn
   obtain⟨e3,e4⟩:=hold ly Gd
   rw[e1]at h1;rw[e2]at h3;rw[e3]at h2;rw[e4]at h4
   exact g.apart id ly b h1 h2 h3 h4
end Go.Vs
namespace Go.Vs
variable {P:Program} {Z Z':Nat→Prop} {ψ ψ':Nat→Value} {h h':Hp} {w w':World} {B0:Nat} {O:Nat→Prop} {N:Nat→Prop}
theorem qd{α:Type}:∀(vs cs:List α) (off:Nat),off+vs.length≤cs.length→dA cs off vs=cs.take off++vs++cs.drop (off+vs.length)
 |[],cs,off,_=>by simp[dA]
 |v::r,cs,off,hl=>by
  simp only[List.length_cons]at hl
  simp only[dA]
  rw[qd r (cs.set off v) (off+1) (by rw[List.length_set];omega)]
  have h1:(cs.set off v).take (off+1)=cs.take off++[v]:=by
   rw[List.take_set,List.take_succ_eq_append_getElem (by omega),List.set_append_right _ _ (by rw[List.length_take];omega)]
   rw[List.length_take,Nat.min_eq_left (by omega)]
   simp
  have h2:(cs.set off v).drop (off+1+r.length)=cs.drop (off+(r.length+1)):=by
   rw[List.drop_set_of_lt (by omega)];congr 1;omega
  rw[h1,h2,List.append_assoc,List.append_assoc,List.append_assoc];rfl
theorem fi{t:TypeId}{b:Bool}(hb:AM P t=some b):(isAgg t).run P w=.ok b w:=by
 unfold AM at hb
 obtain⟨d,hd,rfl⟩:=Option.map_eq_some_iff.1 hb
 simp only[isAgg,Sem.run_bind,run_underlying hd,Result.andThen_ok]
 cases d<;>rfl
theorem qX{t:TypeId}{d:TypeDesc}(hd:P.underlying t=some d):∃i,P.info? t=some i:=by
 unfold Program.underlying at hd
 split at hd
 ·rename_i heq;exact⟨_,heq⟩
 ·rename_i heq;exact⟨_,heq⟩
 ·cases hd
theorem c8{t:TypeId}{i:TypeInfo}(hi:P.info? t=some i):(sizeOf t).run P w=.ok (P.cellsOf t) w:=by
 simp[sizeOf,typeInfo,hi,Program.cellsOf]
theorem vB{t:TypeId}{b:Bool}(hb:AM P t=some b):∃i,P.info? t=some i:=by
 unfold AM at hb
 obtain⟨d,hd,rfl⟩:=Option.map_eq_some_iff.1 hb
 exact qX hd
theorem iU{t:TypeId}{cs:List AV}{us:List Value}{a:Addr}{x:AV}(hr:ai Z ψ h w cs us)(hc:∀(j:Nat) u,us[j]? = some u→w.cell? (a.add j)=some u)(hx:dD P t cs=some x) :
  ∃V,(Instr.loadAt t (.pointer (some a))).run P w=.ok V w∧ar Z ψ h w x V:=by
 unfold dD at hx
 have hlen:=hr.length
 split at hx
 ·rename_i hb
  split at hx
  ·rename_i hl
   cases hx
   obtain⟨i,hi⟩:=vB hb
   refine⟨.agg (us.take (P.cellsOf t)).toArray,?_,by simp only[ar];exact⟨_,rfl,by simpa using hr.take (P.cellsOf t)⟩⟩
   have aG:(us.take (P.cellsOf t)).length=P.cellsOf t:=by rw[List.length_take];omega
   have hld:=run_loadCells_list (P:=P) w a (us.take (P.cellsOf t)) (fun j v hv=>hc j v (by
    rw[List.getElem?_take]at hv;split at hv
    ·exact hv
    ·cases hv))
   rw[aG]at hld
   simp[Instr.loadAt,Instr.sureAddr,loadVar,fi hb,c8 hi,hld]
  ·cases hx
 ·rename_i hb
  split at hx
  ·rename_i c r
   cases hx
   simp only[ai]at hr
   obtain⟨v,hM,rfl,h1,h2⟩:=hr
   refine⟨v,?_,h1⟩
   have:=hc 0 v rfl
   rw[AS]at this
   simp[Instr.loadAt,Instr.sureAddr,loadVar,fi hb,this]
  ·cases hx
 ·cases hx
theorem jY{t:TypeId}{i:TypeInfo}(hi:P.info? t=some i)(g off:Nat)(V:Value)(cur:Array Value)(ty:TypeId)(hg:w.heap[g]? = some (.cells cur ty (0,0)))(hs:V.cells.size=P.cellsOf t)
  (hl:off+V.cells.size≤cur.size) (h1:∀v∈V.cells.toList,v.oneCell'=true) :
  (Instr.storeAt t (.pointer (some ⟨g,off,none⟩)) V).run P w=.ok () (w.setRow g (cur.toList.take off++V.cells.toList++cur.toList.drop (off+V.cells.size)).toArray):=by
 have sO:=run_storeCells_at P g off ty V.cells.toList 0 cur w hg (by simpa using hl) h1
 simp only[Nat.add_zero,Array.length_toList]at sO
 simp[Instr.storeAt,Instr.sureAddr,storeVar,c8 hi,hs,sO]
end Go.Vs
namespace Go.Vs
variable {P:Program} {Z Z':Nat→Prop} {ψ ψ':Nat→Value} {h h':Hp} {w w':World} {B0:Nat} {O:Nat→Prop} {N:Nat→Prop}
def dy{α:Type}(f:Nat→α)(i:Nat)(v:α):Nat→α:=fun j=>if j=i then v else f j
theorem aS{α:Type}(f:Nat→α)(i:Nat)(v:α):dy f i v i=v:=by simp[dy]
theorem cI{α:Type}(f:Nat→α){i j:Nat}(v:α)(aU:j≠i):dy f i v j=f j:=by simp[dy,aU]
theorem cG.alloc(ψ:Nat→Value)(h:Hp)(w:World)(o:Obj):cG ψ h w (w.alloc o) :=
 ⟨rfl,rfl,rfl,by rw[World.size_alloc];omega,fun b hb _=>heap_alloc_old w o hb⟩
theorem sP(g:Good Z ψ h w B0 O)(hB:B0≤w.heap.size)(id:Nat)(ty:TypeId){cs:List AV}{vs:Array Value}(hN:N id)(hr:ai Z ψ h w cs vs.toList)(h1:∀u∈vs.toList,u.oneCell'=true)
  (aR:∀i ty cs,h i=some (.box ty cs)→au (fun i=>i≠id) cs) (hm:au (fun i=>i≠id) cs) :
  Next Z ψ h w B0 O N Z (dy ψ id (.pointer (some ⟨w.heap.size,0,none⟩))) (dy h id (some (.box ty cs))) (w.alloc (.cells vs ty)):=by
 have n:Next Z ψ h w B0 O (·=id) Z (dy ψ id (.pointer (some ⟨w.heap.size,0,none⟩))) (dy h id (some (.box ty cs))) (w.alloc (.cells vs ty)):=by
  refine g.more (cG.alloc _ _ _ _) (fun b hb=>heap_alloc_old w _ (g.bA hb)) (fun i hi=>⟨cI _ _ hi,cI _ _ hi⟩) (fun i wi cs' hb=>?_) (fun i wi cs' hi hb=>?_) (fun i ok x hi hb=>?_) (fun i b hi aU hb=>?_) (fun i i' b hi sQ _ _ _ _=>by subst hi;exact sQ.symm) hB
  ·exact aR i wi cs' hb
  ·subst hi
   rw[aS]at hb;cases hb
   refine⟨w.heap.size,vs,aS _ _ _,heap_alloc_new _ _,?_,h1⟩
   refine hr.move (fun _ h=>h) ((cG.alloc ψ h w _).same g) (fun j hj aU=>?_) hm
   rw[cI _ _ hj]at aU
   exact⟨aU,cI _ _ hj⟩
  ·subst hi;rw[aS]at hb;cases hb
  ·subst hi;rw[aS]at hb;simp only[ob,Option.some.injEq]at hb;omega
 exact⟨n.eR,n.dJ,n.keep,fun i hi=>(n.ids i hi).imp (fun h=>h) (fun e=>by subst e;exact hN),n.dx⟩
theorem La{h:Hp}{id:Nat}{o:Ob}(bw:h id≠none):∀i,dy h id (some o) i≠none→h i≠none:=fun i hi=>by
 by_cases e:i=id
 ·subst e;exact bw
 ·rwa [cI _ _ e]at hi
theorem Good.write(g:Good Z ψ h w B0 O)(id:Nat)(bw:h id≠none)(k:cG ψ h w w')(Lb:∀b,ob (ψ id)≠some b→b<w.heap.size→w'.heap[b]? = w.heap[b]?)(o':Ob)
  (K9:∀ty cs,o'=.box ty cs→∃gg vs,ψ id=.pointer (some ⟨gg,0,none⟩)∧w'.heap[gg]? = some (.cells vs ty (0,0))∧ai Z ψ h w' cs vs.toList∧∀u∈vs.toList,u.oneCell'=true)
  (mB:∀ok x,o'=.own ok x→iO Z w' ok (ψ id) x) :
  Next Z ψ h w B0 O N Z ψ (dy h id (some o')) w':=by
 have hs:=La (o:=o') bw
 have sm:=k.same g
 refine⟨fun _ h=>h,fun _ h=>.inl h,k,fun i hi=>.inl ⟨hs i hi,rfl⟩,⟨fun i ty cs hb=>?_,fun i ok x hb=>?_,fun i b h1 h2=>g.live i b (hs i h1) h2,fun i i' b h1 h2 h3 h4=>g.apart i i' b (hs i h1) (hs i' h2) h3 h4,fun b hb=>Nat.lt_of_lt_of_le (g.iS b hb) k.size⟩⟩
 ·by_cases e:i=id
  ·subst e
   rw[aS]at hb;cases hb
   obtain⟨gg,vs,h1,h2,h3,h4⟩:=K9 _ _ rfl
   exact⟨gg,vs,h1,h2,h3.less (fun _ h=>h) (b5.refl _ _) (fun j hj=>⟨hs j hj,rfl⟩),h4⟩
  ·rw[cI _ _ e]at hb
   obtain⟨gg,vs,h1,h2,h3,h4⟩:=g.box i ty cs hb
   refine⟨gg,vs,h1,?_,h3.less (fun _ h=>h) sm (fun j hj=>⟨hs j hj,rfl⟩),h4⟩
   rw[Lb gg (fun hh=>e (g.apart i id gg (by rw[hb];simp) bw (by rw[h1];rfl) hh)) (Array.getElem?_eq_some_iff.1 h2).1]
   exact h2
 ·by_cases e:i=id
  ·subst e
   rw[aS]at hb;cases hb
   exact mB _ _ rfl
  ·rw[cI _ _ e]at hb
   exact(g.row i ok x hb).kept (fun _ h=>h) sm (fun gg Jh=>Lb gg (fun hh=>e (g.apart i id gg (by rw[hb];simp) bw Jh hh)) (g.bA ⟨i,by rw[hb];simp,Jh⟩))
theorem cG.setRow{gg:Nat}(ho:Own ψ h gg)(arr:Array Value):cG ψ h w (w.setRow gg arr) :=
 ⟨rfl,rfl,rfl,by simp[World.setRow],fun b _ hb=>by
  have:gg≠b:=fun e=>hb (e▸ho)
  simp[World.setRow,Array.getElem?_modify,this]⟩
theorem setRow_other{gg b:Nat}(arr:Array Value)(aU:gg≠b):(w.setRow gg arr).heap[b]? = w.heap[b]? := by
 simp[World.setRow,Array.getElem?_modify,aU]
theorem xC(g:Good Z ψ h w B0 O){id:Nat}{ty:TypeId}{cs vs:List AV}(hb:h id=some (.box ty cs)){t:TypeId}{i:TypeInfo}(hi:P.info? t=some i){off:Nat}{V:Value}
  (hv:ai Z ψ h w vs V.cells.toList) (h1:∀u∈V.cells.toList,u.oneCell'=true) (hs:V.cells.size=P.cellsOf t) (hl:off+vs.length≤cs.length) {a:Addr} (ha:a=⟨Oy (ψ id),off,none⟩) :
  ∃w',(Instr.storeAt t (.pointer (some a)) V).run P w=.ok () w'∧Next Z ψ h w B0 O N Z ψ (dy h id (some (.box ty (dA cs off vs)))) w':=by
 obtain⟨gg,arr,e1,e2,e3,e4⟩:=g.box id ty cs hb
 have hlen:=hv.length
 have Lc:=e3.length
 simp only[Array.length_toList]at hlen Lc
 have bw:h id≠none:=by rw[hb];simp
 have ho:Own ψ h gg:=⟨id,bw,by rw[e1];rfl⟩
 rw[e1]at ha
 simp only[Oy]at ha
 subst ha
 refine⟨_,jY hi gg off V arr ty e2 hs (by omega) h1,?_⟩
 have kk:=cG.setRow (w:=w) ho ((arr.toList.take off++V.cells.toList++arr.toList.drop (off+V.cells.size)).toArray)
 refine g.write id bw kk (fun b hb _=>setRow_other _ (fun e=>hb (by rw[e1];simp[ob,e]))) _ (fun wi cs' he=>?_) (fun _ _ he=>by cases he)
 cases he
 refine⟨gg,_,e1,setRow_heap w gg arr _ ty _ e2,?_,?_⟩
 ·rw[qd _ _ _ hl]
  have h5:ai Z ψ h w (cs.take off++vs++cs.drop (off+vs.length)) (arr.toList.take off++V.cells.toList++arr.toList.drop (off+V.cells.size)):=by
   rw[←hlen];exact((e3.take off).append hv).append (e3.drop (off+vs.length))
  exact h5.less (fun _ h=>h) (kk.same g) (fun j hj=>⟨hj,rfl⟩)
 ·intro u hu
  rw[List.toList_toArray]at hu
  rcases List.mem_append.1 hu with hu|hu
  ·rcases List.mem_append.1 hu with hu|hu
   ·exact e4 u (List.mem_of_mem_take hu)
   ·exact h1 u hu
  ·exact e4 u (List.mem_of_mem_drop hu)
theorem Rp{α:Type}(cur V:List α)(m off sz L:Nat)(h:off+V.length≤sz)(h1:m+sz≤L)(h2:L≤cur.length) :
  ((cur.take (m+off)++V++cur.drop (m+off+V.length)).take L |>.drop m |>.take sz)=((cur.drop m).take sz).take off++V++((cur.drop m).take sz).drop (off+V.length):=by
 apply List.ext_getElem?
 intro q
 simp only[List.getElem?_take,List.getElem?_drop,List.getElem?_append,List.length_append,List.length_take,List.length_drop]
 rw[Nat.min_eq_left (show m+off≤cur.length by omega),Nat.min_eq_left (show off≤min sz (cur.length-m) by omega)]
 repeat' split
 all_goals first|rfl|(exfalso;omega)|(congr 1;omega)|(rw[List.getElem?_eq_none (by omega)])
theorem Oz{α:Type}(cur V:List α)(m off sz L p:Nat)(h:off+V.length≤sz)(h1:m+sz≤L)(h2:L≤cur.length)(h3:p+sz≤L)(h4:p+sz≤m∨m+sz≤p) :
  ((cur.take (m+off)++V++cur.drop (m+off+V.length)).take L |>.drop p |>.take sz)=(cur.drop p).take sz:=by
 apply List.ext_getElem?
 intro q
 simp only[List.getElem?_take,List.getElem?_drop,List.getElem?_append,List.length_append,List.length_take]
 rw[Nat.min_eq_left (show m+off≤cur.length by omega)]
 repeat' split
 all_goals first|rfl|(exfalso;omega)|(congr 1;omega)|(rw[List.getElem?_eq_none (by omega)])
theorem ax.xD{k:K}{x:k.T}{vs us:List Value}(e:vs=us)(hr:ax Z w k x vs):ax Z w k x us:=e▸hr
theorem xF(g:Good Z ψ h w B0 O){id:Nat}{ty:TypeId}{kk:K}{xs:List kk.T}(hb:h id=some (.own (.row ty kk) xs)){t:TypeId}{i:TypeInfo}(hi:P.info? t=some i){n off:Nat}{x y:kk.T}{V:Value}
  (hx:xs[n]? = some x) (hs:V.cells.size=P.cellsOf t) (hl:off+V.cells.size≤kk.sz) {a:Addr} (ha:a=⟨Oy (ψ id),n*kk.sz+off,none⟩)
  (hy:∀us,ax Z w kk x us→ax Z w kk y (us.take off++V.cells.toList++us.drop (off+V.cells.size))) (h1:∀u∈V.cells.toList,u.oneCell'=true) :
  ∃w',(Instr.storeAt t (.pointer (some a)) V).run P w=.ok () w'∧Next Z ψ h w B0 O N Z ψ (dy h id (some (.own (.row ty kk) (xs.set n y)))) w':=by
 obtain⟨vs,ho,hv⟩:=g.row id (.row ty kk) xs hb
 have bw:h id≠none:=by rw[hb];simp
 have hn:n<xs.length:=(List.getElem?_eq_some_iff.1 hx).1
 have Gb:=kk.gD
 have hmul:n*kk.sz+kk.sz≤xs.length*kk.sz:=by rw[←Nat.succ_mul];exact Nat.mul_le_mul_right _ hn
 obtain⟨XG,e⟩:=ho
 rcases e with⟨h0,_⟩|⟨gg,cap,cur,e1,e2,e3,e4,e5,e6,e7⟩
 ·omega
 have Rq:xs.length*kk.sz≤cap*kk.sz:=Nat.mul_le_mul_right _ e4
 have iV:ob (ψ id)=some gg:=by rw[e1];simp only[ob];rw[if_neg (by omega)]
 have ho:Own ψ h gg:=⟨id,bw,iV⟩
 have Dv:a=⟨gg,n*kk.sz+off,none⟩:=by rw[ha,e1];rfl
 subst Dv
 refine⟨_,jY hi gg (n*kk.sz+off) V cur ty e3 hs (by omega) h1,?_⟩
 have hk:=cG.setRow (w:=w) ho ((cur.toList.take (n*kk.sz+off)++V.cells.toList++cur.toList.drop (n*kk.sz+off+V.cells.size)).toArray)
 have sm:=hk.same g
 refine g.write id bw hk (fun b hb _=>setRow_other _ (fun e=>hb (by rw[iV,e]))) _ (fun _ _ he=>by cases he) (fun Tq x' he=>?_)
 cases he
 have rM:cur.toList.length=cap*kk.sz:=by rw[Array.length_toList];exact e6
 have XH:V.cells.toList.length=V.cells.size:=Array.length_toList
 let cJ:=cur.toList.take (n*kk.sz+off)++V.cells.toList++cur.toList.drop (n*kk.sz+off+V.cells.size)
 have Ge:cJ.length=cap*kk.sz:=by
  simp only[cJ,List.length_append,List.length_take,List.length_drop,rM,XH];omega
 have OC:(xs.set n y).length=xs.length:=List.length_set
 have qe:vs=cur.toList.take (xs.length*kk.sz):=e7.symm
 refine⟨cJ.take (xs.length*kk.sz),⟨by rw[List.length_take,Ge,OC];omega,.inr ⟨gg,cap,cJ.toArray,by rw[OC];exact e1,e2,setRow_heap w gg cur _ ty _ e3,by rw[OC];exact e4,e5,by simpa using Ge,by rw[OC]⟩⟩,fun j z hz=>?_⟩
 have hj:j<xs.length:=by have:=(List.getElem?_eq_some_iff.1 hz).1;rwa [OC]at this
 have XI:j*kk.sz+kk.sz≤xs.length*kk.sz:=by rw[←Nat.succ_mul];exact Nat.mul_le_mul_right _ hj
 have TY:∀p,p+kk.sz≤xs.length*kk.sz→(vs.drop p).take kk.sz=(cur.toList.drop p).take kk.sz:=fun p hp=>by
  rw[qe,List.drop_take,List.take_take,Nat.min_eq_left (by omega)]
 by_cases KQ:j=n
 ·subst KQ
  rw[List.getElem?_set_self hn]at hz;cases hz
  have hu:=hy _ (hv j x hx)
  rw[TY _ XI,←XH]at hu
  refine ax.mono (fun _ h=>h) sm (ax.xD ?_ hu)
  have:=Rp cur.toList V.cells.toList (j*kk.sz) off kk.sz (xs.length*kk.sz) (by omega) XI (by omega)
  rw[←this,XH]
 ·rw[List.getElem?_set_ne (fun e=>KQ e.symm)]at hz
  have hu:=hv j z hz
  rw[TY _ XI]at hu
  refine ax.mono (fun _ h=>h) sm (ax.xD ?_ hu)
  have h4:j*kk.sz+kk.sz≤n*kk.sz∨n*kk.sz+kk.sz≤j*kk.sz:=by
   rcases Nat.lt_or_ge j n with h|h
   ·left;rw[←Nat.succ_mul];exact Nat.mul_le_mul_right _ h
   ·right;rw[←Nat.succ_mul];exact Nat.mul_le_mul_right _ (by omega)
  have:=Oz cur.toList V.cells.toList (n*kk.sz) off kk.sz (xs.length*kk.sz) (j*kk.sz) (by omega) hmul (by omega) XI h4
  rw[←this,XH]
theorem rN{k:K}{ys:List k.T}{u:Value}(hr:ax Z w (.sl k) ys [u]) :
  (u=.slice none 0 0∧ys=[])∨∃a c news,u=.slice (some a) ys.length c∧ys.length≤c∧news.length=ys.length*k.sz∧(∀(j:Nat) q,news[j]? = some q→w.cell? (a.add j)=some q)∧(∀q∈news,q.oneCell'=true)∧l6 Z w k ys news:=by
 simp only[ax]at hr
 obtain⟨v,hv,A,c,rfl,hl,hn,he⟩:=hr
 cases hv
 cases A with
 |none =>
  left
  cases ys with
  |nil=>exact⟨by rw[hn rfl];rfl,rfl⟩
  |cons y r=>obtain⟨a,us,h1,_⟩:=he 0 y rfl;cases h1
 |some a =>
  right
  have Rr:∀i (hi:i<ys.length),∃us,ax Z w k ys[i] us∧∀(j:Nat) u,us[j]? = some u→w.cell? (a.add (i*k.sz+j))=some u:=fun i hi=>by
   obtain⟨a',us,h1,_,h3,h4⟩:=he i _ (List.getElem?_eq_getElem hi)
   cases h1
   exact⟨us,h3,h4⟩
  have Gb:=k.gD
  let news:=(List.range (ys.length*k.sz)).map fun j=>(w.cell? (a.add j)).getD default
  have AU:∀j,j<ys.length*k.sz→∃q,w.cell? (a.add j)=some q∧q.oneCell'=true:=fun j hj=>by
   have hi:j / k.sz<ys.length:=Nat.div_lt_of_lt_mul (by rw[Nat.mul_comm];exact hj)
   obtain⟨us,h3,h4⟩:=Rr (j / k.sz) hi
   have hm:j%k.sz<us.length:=by rw[h3.len];exact Nat.mod_lt _ Gb
   refine⟨us[j%k.sz],?_,h3.one _ (List.getElem_mem hm)⟩
   have:=h4 (j%k.sz) _ (List.getElem?_eq_getElem hm)
   rwa [Nat.mul_comm,Nat.div_add_mod]at this
  have l9:∀j,j<ys.length*k.sz→∃q,news[j]? = some q∧w.cell? (a.add j)=some q:=fun j hj=>by
   obtain⟨q,hq,_⟩:=AU j hj
   exact⟨q,by simp[news,List.getElem?_map,List.getElem?_range hj,hq],hq⟩
  have hlen:news.length=ys.length*k.sz:=by simp[news]
  refine⟨a,c,news,rfl,hl,hlen,fun j q hq=>?_,fun q hq=>?_,fun i x hx=>?_⟩
  ·have hj:j<ys.length*k.sz:=by rw[←hlen];exact(List.getElem?_eq_some_iff.1 hq).1
   obtain⟨q',h1,h2⟩:=l9 j hj
   rw[h1]at hq;cases hq;exact h2
  ·obtain⟨j,hj,rfl⟩:=List.mem_iff_getElem.1 hq
   obtain⟨q',h1,h2⟩:=l9 j (by omega)
   obtain⟨q2,h3,h4⟩:=AU j (by omega)
   rw[List.getElem?_eq_getElem hj]at h1;cases h1
   rw[h2]at h3;cases h3;exact h4
  ·have hi:i<ys.length:=(List.getElem?_eq_some_iff.1 hx).1
   obtain⟨us,h3,h4⟩:=Rr i hi
   rw[List.getElem?_eq_getElem hi]at hx;cases hx
   refine ax.xD ?_ h3
   have hul:=h3.len
   have hmul:i*k.sz+k.sz≤ys.length*k.sz:=by rw[←Nat.succ_mul];exact Nat.mul_le_mul_right _ hi
   apply List.ext_getElem?
   intro q
   rw[List.getElem?_take,List.getElem?_drop]
   by_cases hq:q<k.sz
   ·rw[if_pos hq]
    obtain⟨q',h5,h6⟩:=l9 (i*k.sz+q) (by omega)
    rw[h5]
    have h7:=h4 q _ (List.getElem?_eq_getElem (by omega))
    rw[List.getElem?_eq_getElem (by omega)]
    rw[h6]at h7;cases h7;rfl
   ·rw[if_neg hq,List.getElem?_eq_none (by omega)]
theorem Ji{hh:Heap}(g:Good Z ψ hh.get w B0 O){x:AV}{u:Value}{k:K}{ys:List k.T}(hx:rowOf hh x k=some ys)(hr:ar Z ψ hh.get w x u) :
  (u=.slice none 0 0∧ys=[])∨∃a c news,u=.slice (some a) ys.length c∧ys.length≤c∧news.length=ys.length*k.sz∧(∀(j:Nat) q,news[j]? = some q→w.cell? (a.add j)=some q)∧(∀q∈news,q.oneCell'=true)∧l6 Z w k ys news:=by
 unfold rowOf at hx
 split at hx
 ·rename_i ex k' xs heq
  split at hx
  ·rename_i e
   subst e
   cases hx
   cases x with
   |sl ex' k'' TZ =>
    simp only[ct]at heq
    cases heq
    simp only[ar]at hr
    exact rN hr.1
   |bp id =>
    simp only[ct]at heq
    split at heq
    ·rename_i ty kk zs hg
     cases heq
     simp only[ar]at hr
     have hv:=hr.2 (by rw[hg];simp)
     subst hv
     obtain⟨vs,ho,hv⟩:=g.row id (.row ty _) _ hg
     have h1:=rN (sN (Z':=fun b=>Z b∨ob (ψ id)=some b) ho hv (fun b hb=>.inl hb) (fun b hb=>.inr hb))
     rcases h1 with h1|⟨a,c,news,h1,h2,h3,h4,h5,_⟩
     ·exact .inl h1
     ·right
      refine⟨a,c,news,h1,h2,h3,h4,h5,?_⟩
      have OD:news=vs:=by
       obtain⟨hl,e⟩:=ho
       rcases e with⟨e,_⟩|⟨gg,cap,cur,e,_,e3,_,_,_,e7⟩
       ·rw[e,Nat.zero_mul]at h3 hl
        rw[List.eq_nil_of_length_eq_zero h3,List.eq_nil_of_length_eq_zero hl]
       ·rw[e]at h1;cases h1
        apply List.ext_getElem?
        intro j
        by_cases hj:j<xs.length*k'.sz
        ·have hn:=h4 j _ (List.getElem?_eq_getElem (by omega))
         rw[bW,Nat.zero_add]at hn
         simp only[World.cell?,e3]at hn
         have vC:vs[j]? = cur.toList[j]? := by rw[←e7,List.getElem?_take,if_pos hj]
         rw[vC,List.getElem?_eq_getElem (by omega)]
         simpa using hn.symm
        ·rw[List.getElem?_eq_none (by omega),List.getElem?_eq_none (by omega)]
      rw[OD];exact hv
    ·cases heq
    ·cases heq
   |_=>simp only[ct]at heq<;>cases heq
  ·cases hx
 ·rename_i heq
  cases hx
  cases x with
  |eY=>simp only[ar]at hr;exact .inl ⟨hr,rfl⟩
  |bp id=>simp only[ct]at heq;split at heq<;>cases heq
  |_=>simp only[ct]at heq<;>cases heq
 ·cases hx
structure nr(P:Program)(e:TypeId)(k:K)(i:TypeInfo)(z:Value):Prop where
 info:P.info? e=some i
 zero:i.zero=some z
 size:i.size=k.sz
 qY:z.cells.size=k.sz
 bytes:i.bytes≤65536
theorem cf{e:TypeId}{k:K}(he:B9 P e k=true):∃i z,nr P e k i z:=by
 unfold B9 at he
 split at he
 ·rename_i i hi
  split at he
  ·rename_i z hz
   simp only[Bool.and_eq_true,decide_eq_true_eq]at he
   exact⟨i,z,hi,hz,he.1,he.2.1,he.2.2⟩
  ·cases he
 ·cases he
theorem l6.append{k:K}{xs ys:List k.T}{vs us:List Value}(h1:l6 Z w k xs vs)(h2:l6 Z w k ys us)(hl:vs.length=xs.length*k.sz):l6 Z w k (xs++ys) (vs++us):=fun i x hx=>by
 by_cases hi:i<xs.length
 ·rw[List.getElem?_append_left hi]at hx
  have hm:i*k.sz+k.sz≤xs.length*k.sz:=by rw[←Nat.succ_mul];exact Nat.mul_le_mul_right _ hi
  have h3:=h1 i x hx
  rw[List.drop_append_of_le_length (by omega),List.take_append_of_le_length (by rw[List.length_drop];omega)]
  exact h3
 ·rw[List.getElem?_append_right (by omega)]at hx
  have h3:=h2 (i-xs.length) x hx
  have e:i*k.sz=vs.length+(i-xs.length)*k.sz:=by
   rw[hl,←Nat.add_mul];congr 1;omega
  rw[e,List.drop_append,List.drop_eq_nil_of_le (by omega),List.nil_append,Nat.add_sub_cancel_left]
  exact h3
theorem l6.Dx{k:K}{xs:List k.T}{vs:List Value}(h:l6 Z w k xs vs)(sm:b5 Z w w'):l6 Z w' k xs vs:=fun i x hx=>(h i x hx).mono (fun _ h=>h) sm
theorem Dy(g:Good Z ψ h w B0 O)(hB:B0≤w.heap.size)(id:Nat)(hN:N id){ok:OK}{x:ok.T}{v:Value}(kk:cG ψ h w w')(qW:∀b,Own ψ h b→w'.heap[b]? = w.heap[b]?)
  (ho:iO Z w' ok v x) (hb:∀b,ob v=some b→w.heap.size≤b)
  (aR:∀i ty cs,h i=some (.box ty cs)→au (fun i=>i≠id) cs) :
  Next Z ψ h w B0 O N Z (dy ψ id v) (dy h id (some (.own ok x))) w':=by
 have n:Next Z ψ h w B0 O (·=id) Z (dy ψ id v) (dy h id (some (.own ok x))) w':=by
  refine g.more kk qW (fun i hi=>⟨cI _ _ hi,cI _ _ hi⟩) (fun i wi cs' hb=>aR i wi cs' hb) (fun i wi cs' hi hb=>?_) (fun i ok x hi hb=>?_) (fun i b hi aU Ro=>?_) (fun i i' b hi sQ _ _ _ _=>by subst hi;exact sQ.symm) hB
  ·subst hi;rw[aS]at hb;cases hb
  ·subst hi
   rw[aS]at hb;cases hb
   rw[aS];exact ho
  ·subst hi;rw[aS]at Ro;exact hb b Ro
 exact⟨n.eR,n.dJ,n.keep,fun i hi=>(n.ids i hi).imp (fun h=>h) (fun e=>by subst e;exact hN),n.dx⟩
theorem o9(g:Good Z ψ h w B0 O)(hB:B0≤w.heap.size)(id:Nat)(ty:TypeId)(hN:N id){k:K}{xs:List k.T}{vs:List Value}{v:Value}(kk:cG ψ h w w')(qW:∀b,Own ψ h b→w'.heap[b]? = w.heap[b]?)
  (ho:db w' ty k.sz v xs.length vs) (hv:l6 Z w' k xs vs) (hb:∀b,ob v=some b→w.heap.size≤b)
  (aR:∀i ty cs,h i=some (.box ty cs)→au (fun i=>i≠id) cs) :
  Next Z ψ h w B0 O N Z (dy ψ id v) (dy h id (some (.own (.row ty k) xs))) w':=Dy g hB id hN (ok:=.row ty k) kk qW ⟨vs,ho,hv⟩ hb aR
theorem cG.grown{row:Option Nat}(hg:w.grownBy w' row)(hr:∀b,row=some b→Own ψ h b):cG ψ h w w' :=
 ⟨hg.os,hg.tape,hg.output,hg.size,fun b hb hn=>hg.block b hb (fun e=>hn (hr b e.symm))⟩
theorem pe(g:Good Z ψ h w B0 O)(hB:B0≤w.heap.size)(id da:Nat)(hN:N id){ok:OK}{x y:ok.T}(ho:h da=some (.own ok x))(aU:da≠id)
  (hg:w.grownBy w' (ob (ψ da))) {v:Value} (hv:iO Z w' ok v y)
  (hb:ob v=ob (ψ da)∨∀b,ob v=some b→w.heap.size≤b)
  (aR:∀i ty cs,h i=some (.box ty cs)→au (fun i=>i≠id) cs) :
  Next Z ψ h w B0 O N Z (dy ψ id v) (dy (dy h da none) id (some (.own ok y))) w':=by
 have hold:h da≠none:=by rw[ho];simp
 have iV:∀b,ob (ψ da)=some b→ob (ψ da)=some b:=fun _ h=>h
 have kk:cG ψ h w w':=cG.grown hg (fun b e=>⟨da,hold,iV b e⟩)
 have sm:=kk.same g
 have other:∀i b,h i≠none→i≠da→ob (ψ i)=some b→w'.heap[b]? = w.heap[b]? := fun i b h1 h2 h3 =>
  hg.block b (g.bA ⟨i,h1,h3⟩) (fun e=>h2 (g.apart i da b h1 hold h3 (iV b e.symm)))
 have at_:∀i,i≠id→dy (dy h da none) id (some (.own ok y)) i≠none→h i≠none∧i≠da:=fun i hi h1=>by
  rw[cI _ _ hi]at h1
  by_cases e:i=da
  ·subst e;rw[aS]at h1;exact absurd rfl h1
  ·rw[cI _ _ e]at h1;exact⟨h1,e⟩
 have ids:∀i,dy (dy h da none) id (some (.own ok y)) i≠none→(h i≠none∧dy ψ id v i=ψ i)∨i=id:=fun i h1=>by
  by_cases e:i=id
  ·exact .inr e
  ·exact .inl ⟨(at_ i e h1).1,cI _ _ e⟩
 have vob:∀b,ob v=some b→ob (ψ da)=some b∨w.heap.size≤b:=fun b Ro=>by
  rcases hb with hb|hb
  ·left;rw[←hb];exact Ro
  ·right;exact hb b Ro
 refine⟨fun _ h=>h,fun _ h=>.inl h,kk,fun i h1=>(ids i h1).imp (fun h=>h) (fun e=>by subst e;exact hN),⟨fun i wi cs oE=>?_,fun i Tq z oE=>?_,fun i b h1 h2=>?_,fun i i' b h1 h2 h3 h4=>?_,fun b hz=>Nat.lt_of_lt_of_le (g.iS b hz) kk.size⟩⟩
 ·by_cases e:i=id
  ·subst e;rw[aS]at oE;cases oE
  ·have Gf:=at_ i e (by rw[oE];simp)
   rw[cI _ _ e,cI _ _ Gf.2]at oE
   obtain⟨gg,us,h1,h2,h3,h4⟩:=g.box i wi cs oE
   refine⟨gg,us,by rw[cI _ _ e];exact h1,(other i gg Gf.1 Gf.2 (by rw[h1];rfl)).trans h2,?_,h4⟩
   exact h3.move (fun _ h=>h) sm (fun j hj hn=>(ids j hn).resolve_right hj) (aR i wi cs oE)
 ·by_cases e:i=id
  ·subst e;rw[aS]at oE;cases oE
   rw[aS];exact hv
  ·have Gf:=at_ i e (by rw[oE];simp)
   rw[cI _ _ e,cI _ _ Gf.2]at oE
   rw[cI _ _ e]
   exact(g.row i Tq z oE).kept (fun _ h=>h) sm (fun gg Jh=>other i gg Gf.1 Gf.2 Jh)
 ·by_cases e:i=id
  ·subst e;rw[aS]at h2
   rcases vob b h2 with h3|h3
   ·exact g.live da b hold h3
   ·exact⟨fun hz=>by have:=g.iS b hz;omega,.inl (by omega)⟩
  ·rw[cI _ _ e]at h2
   exact g.live i b (at_ i e h1).1 h2
 ·have key:∀j,j≠id→dy (dy h da none) id (some (.own ok y)) j≠none→ob (ψ j)=some b→ob v=some b→False:=fun j hj h5 h6 h7=>by
   obtain⟨h8,h9⟩:=at_ j hj h5
   rcases vob b h7 with l8|l8
   ·exact h9 (g.apart j da b h8 hold h6 l8)
   ·have:=g.bA ⟨j,h8,h6⟩;omega
  by_cases e:i=id<;>by_cases e':i'=id
  ·rw[e,e']
  ·subst e;rw[aS]at h3;rw[cI _ _ e']at h4
   exact(key i' e' h2 h4 h3).elim
  ·subst e';rw[aS]at h4;rw[cI _ _ e]at h3
   exact(key i e h1 h3 h4).elim
  ·rw[cI _ _ e]at h3;rw[cI _ _ e']at h4
   exact g.apart i i' b (at_ i e h1).1 (at_ i' e' h2).1 h3 h4
def Jj(w:World)(sz:Nat)(u:Value)(m:Nat)(news:List Value):Prop :=
 news.length=m*sz∧(∀q∈news,q.oneCell'=true)∧((u=.slice none 0 0∧m=0)∨∃a c,u=.slice (some a) m c∧∀(j:Nat) q,news[j]? = some q→w.cell? (a.add j)=some q)
theorem Cf{hh:Heap}(g:Good Z ψ hh.get w B0 O){x:AV}{u:Value}{k:K}{ys:List k.T}(hx:rowOf hh x k=some ys)(hr:ar Z ψ hh.get w x u):∃news,Jj w k.sz u ys.length news∧l6 Z w k ys news:=by
 rcases Ji g hx hr with⟨rfl,rfl⟩|⟨a,c,news,h1,_,h2,h3,h4,h5⟩
 ·exact⟨[],⟨by simp,by simp,.inl ⟨rfl,rfl⟩⟩,fun i x hx=>by simp at hx⟩
 ·exact⟨news,⟨h2,h4,.inr ⟨a,c,h1,h3⟩⟩,h5⟩
theorem dU{t ty e:TypeId}{i:TypeInfo}(ht:P.underlying t=some (.slice e))(hi:P.info? e=some i)(A:Option Addr)(n c:Nat)(hc:n≤c)(A':Option Addr)(c':Nat) :
  (Builtin.append_ #[t,t] ty #[.slice A n c,.slice A' 0 c']).run P w=.ok (.slice A n c) w:=by
 cases A<;>cases A'<;>simp[Builtin.append_,run_underlying ht,sizeOf,typeInfo,hi,Builtin.lenOf,Builtin.firstCells,hc,storeCells,loadCells,loadCellsFrom]
theorem dk{t ty e:TypeId}{k:K}{i:TypeInfo}{z:Value}(ht:P.underlying t=some (.slice e))(he:nr P e k i z){v:Value}{n:Nat}{xs:List Value}(ho:db w e k.sz v n xs)
  {u:Value} {m:Nat} {news:List Value} (hu:Jj w k.sz u m news) (hm:n+m≤eP) :
  ∃v' w',(Builtin.append_ #[t,t] ty #[v,u]).run P w=.ok v' w'∧db w' e k.sz v' (n+m) (xs++news)∧w.grownBy w' (ob v)∧(ob v'=ob v∨∀b,ob v'=some b→w.heap.size≤b):=by
 obtain⟨h1,h3,hu⟩:=hu
 obtain⟨A0,c0,Rs⟩:=ho.slice
 by_cases XJ:m=0
 ·subst XJ
  have T0:news=[]:=List.eq_nil_of_length_eq_zero (by rw[h1,Nat.zero_mul])
  subst T0
  have Ar:n≤c0:=by
   rcases ho.2 with⟨h0,A,e⟩|⟨g,cap,cur,e,hc,h2,h3,_⟩
   ·omega
   ·rw[Rs]at e;cases e;exact h3
  refine⟨v,w,?_,by simpa using ho,World.grownBy.refl w _,.inl rfl⟩
  subst Rs
  rcases hu with⟨rfl,_⟩|⟨a,c,rfl,_⟩<;>exact dU ht he.info A0 n c0 Ar _ _
 ·rcases hu with⟨_,h0⟩|⟨a,c,rfl,h2⟩
  ·exact absurd h0 XJ
  have hb:=he.bytes
  unfold eP at hm
  have iW:(n+m)*i.bytes≤140737488355328:=Nat.le_trans (Nat.mul_le_mul hm hb) (by decide)
  have new:∀v',w.heap.size≤w.heap.size→∀(w':World),w'.ownsRow w.heap.size e k.sz v' (n+m) (xs++news)→∀b,ob v'=some b→w.heap.size≤b:=fun v' _ w' ma b hb=>by
   rcases ma.2 with⟨rfl,_⟩|⟨g,cap,cur,rfl,h5,_⟩
   ·simp[ob]at hb
   ·simp only[ob]at hb
    split at hb
    ·cases hb
    ·cases hb;exact h5
  rcases ho.2 with⟨rfl,A,rfl⟩|⟨g,cap,cur,rfl,Rq,h4,h5,h6,h7,h8⟩
  ·have qf:xs=[]:=List.eq_nil_of_length_eq_zero (by rw[ho.1,Nat.zero_mul])
   subst qf
   have iV:ob (.slice A 0 0)=none:=by cases A<;>simp[ob]
   cases A with
   |none =>
    obtain⟨v',w',hr,h4,h5,_,h6⟩:=run_append_own_at (P:=P) w w.heap.size t ty e i z k.sz i.bytes ht he.info he.zero he.size rfl he.qY k.gD (.slice none 0 0) 0 [] ⟨by simp,.inl ⟨rfl,rfl⟩⟩ a m c news h1 h2 h3 (by simp only[maxLen];omega) iW (Nat.le_refl _)
    exact⟨v',w',hr,db.of h4,by rw[iV];exact h5,.inr (new v' (Nat.le_refl _) w' h4)⟩
   |some b0 =>
    obtain⟨v',w',hr,h4,h5⟩:=run_append_arg_grows (P:=P) w t ty e i z k.sz i.bytes ht he.info he.zero he.size rfl he.qY k.gD b0 0 0 [] (by simp) (by simp) a m c news h1 h2 (by omega) (by simp only[maxLen];omega) iW
    exact⟨v',w',hr,db.of h4,by rw[iV];exact h5,.inr (new v' (Nat.le_refl _) w' h4)⟩
  ·have rO:w.ownsRow 0 e k.sz (.slice (some ⟨g,0,none⟩) n cap) n xs:=⟨ho.1,.inr ⟨g,cap,cur,rfl,Nat.zero_le _,h4,h5,h6,h7,h8⟩⟩
   have iV:ob (.slice (some ⟨g,0,none⟩) n cap)=some g:=by simp only[ob];rw[if_neg (by omega)]
   obtain⟨v',w',hr,h4,h5,_,h6⟩:=run_append_own_at (P:=P) w 0 t ty e i z k.sz i.bytes ht he.info he.zero he.size rfl he.qY k.gD _ n xs rO a m c news h1 h2 h3 (by simp only[maxLen];omega) iW (Nat.zero_le _)
   refine⟨v',w',hr,db.of h4,by rw[iV];exact h5,?_⟩
   rw[iV]
   rcases h4.2 with⟨rfl,h0⟩|⟨g',Yq,cJ,rfl,_,_,h9,_⟩
   ·omega
   ·have OE:ob (.slice (some ⟨g',0,none⟩) (n+m) Yq)=some g':=by simp only[ob];rw[if_neg (by omega)]
    rw[OE]
    simp only[Value.ownBlock,Option.some.injEq]at h6
    rcases h6 with h6|h6
    ·left;rw[h6]
    ·right;intro b hb;cases hb;omega
theorem ar.oF{h h':Hp}(hs:∀id o,h' id=some o→h id=some o){a:AV}{v:Value}(hr:ar Z ψ h w a v):ar Z ψ h' w a v :=
 hr.less (fun _ h=>h) (b5.refl _ _) (fun id bw=>by
  obtain⟨o,ho⟩:=Option.ne_none_iff_exists'.1 bw
  exact⟨by rw[hs id o ho];simp,rfl⟩)
theorem ai.oF{h h':Hp}(hs:∀id o,h' id=some o→h id=some o){a:List AV}{v:List Value}(hr:ai Z ψ h w a v):ai Z ψ h' w a v :=
 hr.less (fun _ h=>h) (b5.refl _ _) (fun id bw=>by
  obtain⟨o,ho⟩:=Option.ne_none_iff_exists'.1 bw
  exact⟨by rw[hs id o ho];simp,rfl⟩)
theorem ot{hh:Heap}(g:Good Z ψ h w B0 O)(aZ:∀id o,hh.get id=some o→h id=some o)(hB:B0≤w.heap.size){id:Nat}(hN:N id){t ty e:TypeId}{k:K}{i:TypeInfo}{z:Value}(ht:P.underlying t=some (.slice e))(he:nr P e k i z)
  {x:AV} {u:Value} {ys:List k.T} (hx:rowOf hh x k=some ys) (hr:ar Z ψ h w x u) (hm:ys.length≤eP)
  (aR:∀i ty cs,h i=some (.box ty cs)→au (fun i=>i≠id) cs) :
  ∃v' w',(Builtin.append_ #[t,t] ty #[.slice none 0 0,u]).run P w=.ok v' w'∧Next Z ψ h w B0 O N Z (dy ψ id v') (dy h id (some (.own (.row e k) ys))) w'∧v'.cells=#[v']∧v'.oneCell'=true:=by
 obtain⟨news,uu,hv⟩:=Cf (g.sub aZ) hx (hr.oF aZ)
 have Dz:db w e k.sz (.slice none 0 0) 0 []:=⟨by simp,.inl ⟨rfl,none,rfl⟩⟩
 obtain⟨v',w',cY,h4,h5,h6⟩:=dk (ty:=ty) ht he Dz uu (by omega)
 have hg:w.grownBy w' none:=h5
 have kk:cG ψ h w w':=cG.grown hg (fun b e=>by cases e)
 have sm:=kk.same g
 refine⟨v',w',cY,o9 g hB id e hN (vs:=news) kk (fun b hb=>hg.block b (g.bA hb) (by simp)) (by simpa using h4) (fun i x hx=>(hv i x hx).mono (fun _ h=>h) sm) (fun b hb=>?_) aR,h4.one⟩
 rcases h6 with h6|h6
 ·rw[h6]at hb;simp[ob]at hb
 ·exact h6 b hb
theorem wq{hh:Heap}(g:Good Z ψ h w B0 O)(aZ:∀id o,hh.get id=some o→h id=some o)(hB:B0≤w.heap.size){id da:Nat}(hN:N id)(aU:da≠id){t ty e:TypeId}{k:K}{i:TypeInfo}{z:Value}(ht:P.underlying t=some (.slice e))(he:nr P e k i z)
  {xs:List k.T} (ho:h da=some (.own (.row e k) xs)) {x:AV} {u:Value} {ys:List k.T} (hx:rowOf hh x k=some ys) (hr:ar Z ψ h w x u) (hm:xs.length+ys.length≤eP)
  (aR:∀i ty cs,h i=some (.box ty cs)→au (fun i=>i≠id) cs) :
  ∃v' w',(Builtin.append_ #[t,t] ty #[ψ da,u]).run P w=.ok v' w'∧Next Z ψ h w B0 O N Z (dy ψ id v') (dy (dy h da none) id (some (.own (.row e k) (xs++ys)))) w'∧v'.cells=#[v']∧v'.oneCell'=true:=by
 obtain⟨news,uu,hv⟩:=Cf (g.sub aZ) hx (hr.oF aZ)
 obtain⟨vs,XK,Rs⟩:=g.row da (.row e k) xs ho
 obtain⟨v',w',cY,h4,h5,h6⟩:=dk (ty:=ty) ht he XK uu hm
 have hold:h da≠none:=by rw[ho];simp
 have kk:cG ψ h w w':=cG.grown h5 (fun b e=>⟨da,hold,e⟩)
 have sm:=kk.same g
 refine⟨v',w',cY,pe g hB id da hN ho aU h5 (ok:=.row e k) (y:=xs++ys) ⟨_,by rw[List.length_append];exact h4,(Rs.append hv XK.1).Dx sm⟩ h6 aR,h4.one⟩
theorem xG{hh:Heap}(g:Good Z ψ h w B0 O)(aZ:∀id o,hh.get id=some o→h id=some o)(hB:B0≤w.heap.size){id:Nat}(hN:N id){t ty e:TypeId}{k:K}{i:TypeInfo}{z:Value}(ht:P.underlying t=some (.slice e))(he:nr P e k i z)
  {xs:List k.T} {v:Value} (hd:ar Z ψ h w (.sl true k xs) v) {x:AV} {u:Value} {ys:List k.T} (hx:rowOf hh x k=some ys) (hr:ar Z ψ h w x u) (Gb:0<ys.length∨xs=[]) (hm:xs.length+ys.length≤eP)
  (aR:∀i ty cs,h i=some (.box ty cs)→au (fun i=>i≠id) cs) :
  ∃v' w',(Builtin.append_ #[t,t] ty #[v,u]).run P w=.ok v' w'∧Next Z ψ h w B0 O N Z (dy ψ id v') (dy h id (some (.own (.row e k) (xs++ys)))) w'∧v'.cells=#[v']∧v'.oneCell'=true:=by
 simp only[ar]at hd
 obtain⟨hd,hex⟩:=hd
 obtain⟨A,c,KR⟩:=hex trivial
 rcases rN hd with⟨rfl,rfl⟩|⟨a,c',T1,h1,_,h2,h3,h4,h5⟩
 ·have:=ot (ty:=ty) (N:=N) g aZ hB hN ht he hx hr (by omega) aR
  simpa using this
 ·rw[h1]at KR;cases KR
  obtain⟨news,⟨h6,h7,hu⟩,hv⟩:=Cf (g.sub aZ) hx (hr.oF aZ)
  by_cases hy0:ys.length=0
  ·have hy:ys=[]:=List.eq_nil_of_length_eq_zero hy0
   have qf:xs=[]:=Gb.resolve_left (by omega)
   subst qf
   have Dz:db w e k.sz (.slice (some a) 0 0) 0 []:=⟨by simp,.inl ⟨rfl,_,rfl⟩⟩
   refine⟨v,w,?_,o9 g hB id e hN (vs:=[]) (cG.refl _ _ _) (fun _ _=>rfl) (by rw[hy,h1];exact Dz) (fun i x hx=>by rw[hy]at hx;simp at hx) (fun b hb=>by rw[h1]at hb;simp[ob]at hb) aR,by rw[h1];exact Dz.one⟩
   rw[h1]
   rw[hy0]at hu
   rcases hu with⟨rfl,_⟩|⟨b,cu,rfl,_⟩<;>exact dU ht he.info _ _ _ (Nat.le_refl _) _ _
  rcases hu with⟨_,h0⟩|⟨b,cu,rfl,h8⟩
  ·omega
  ·have hb:=he.bytes
   unfold eP at hm
   have iW:(xs.length+ys.length)*i.bytes≤140737488355328:=Nat.le_trans (Nat.mul_le_mul hm hb) (by decide)
   obtain⟨v',w',cY,h9,l8⟩:=run_append_arg_grows (P:=P) w t ty e i z k.sz i.bytes ht he.info he.zero he.size rfl he.qY k.gD a xs.length xs.length T1 h2 h3 b ys.length cu news h6 h8 (by omega) (by simp only[maxLen];omega) iW
   have kk:cG ψ h w w':=cG.grown l8 (fun b e=>by cases e)
   have sm:=kk.same g
   have XL:db w' e k.sz v' (xs++ys).length (T1++news):=by
    rw[List.length_append]
    exact db.of h9
   subst h1
   refine⟨v',w',cY,o9 g hB id e hN kk (fun b hb=>l8.block b (g.bA hb) (by simp)) XL ((h5.append hv h2).Dx sm) (fun b hb=>?_) aR,XL.one⟩
   rcases h9.2 with⟨e1,_⟩|⟨gg,cap,cur,e1,e2,_⟩
   ·rw[e1]at hb;simp[ob]at hb
   ·rw[e1]at hb
    simp only[ob]at hb
    split at hb
    ·cases hb
    ·cases hb;omega
end Go.Vs
namespace Go.Vs
variable {P:Program} {Z Z':Nat→Prop} {ψ ψ':Nat→Value} {h h':Hp} {w w':World} {B0:Nat} {O:Nat→Prop} {N:Nat→Prop}
theorem sR:∀(vs:List Value) (k off:Nat) (cells:Array Value),
  (vs.zipIdx k).foldl (fun cs (p:Value×Nat)=>cs.setIfInBounds (off+p.2) p.1) cells=(dA cells.toList (off+k) vs).toArray
 |[],k,off,cells=>by simp[dA]
 |v::r,k,off,cells=>by
  simp only[List.zipIdx_cons,List.foldl_cons,dA]
  rw[sR r (k+1) off]
  simp[Nat.add_assoc]
theorem vD(V:Array Value)(off:Nat)(cells:Array Value) :
  V.zipIdx.foldl (fun cs (p:Value×Nat)=>cs.setIfInBounds (off+p.2) p.1) cells=(dA cells.toList off V.toList).toArray:=by
 rw[←Array.foldl_toList,Array.toList_zipIdx]
 exact sR V.toList 0 off cells
theorem qZ{α:Type}:∀(vs cs:List α) (off:Nat),(dA cs off vs).length=cs.length
 |[],_,_=>rfl
 |v::r,cs,off=>by simp only[dA];rw[qZ r];simp
theorem ai.dA:∀{vs cs:List AV} {us ds:List Value} (off:Nat),ai Z ψ h w vs us→ai Z ψ h w cs ds→ai Z ψ h w (dA cs off vs) (dA ds off us)
 |[],cs,us,ds,off,h1,h2=>by simp only[ai]at h1;subst h1;exact h2
 |v::r,cs,us,ds,off,h1,h2=>by
  simp only[ai]at h1
  obtain⟨u,hM,rfl,h3,h4⟩:=h1
  simp only[Vs.dA]
  exact ai.dA (off+1) h4 (h2.set off h3)
theorem ar.cells{a:AV}{v:Value}(hk:a≠.no)(hr:ar Z ψ h w a v):ai Z ψ h w a.cells v.cells.toList:=by
 cases a with
 |no=>exact absurd rfl hk
 |agg cs=>simp only[ar]at hr;obtain⟨vs,rfl,hr⟩:=hr;simpa[AV.cells,Value.cells] using hr
 |bool b=>simp only[ar]at hr;subst hr;simp[AV.cells,Value.cells,ai,ar]
 |int k n=>simp only[ar]at hr;subst hr;simp[AV.cells,Value.cells,ai,ar]
 |str s=>simp only[ar]at hr;subst hr;simp[AV.cells,Value.cells,ai,ar]
 |kb=>simp only[ar]at hr;subst hr;simp[AV.cells,Value.cells,ai,ar]
 |eY=>simp only[ar]at hr;subst hr;simp[AV.cells,Value.cells,ai,ar]
 |ref id s i off=>obtain⟨a,rfl,h2⟩:=(by simpa only[ar] using hr:∃a,v=.pointer (some a)∧_);simp only[AV.cells,Value.cells,ai];exact⟨_,[],by simp,hr,rfl⟩
 |fp k x off=>obtain⟨a,us,rfl,h2⟩:=(by simpa only[ar] using hr:∃a us,v=.pointer (some a)∧_);simp only[AV.cells,Value.cells,ai];exact⟨_,[],by simp,hr,rfl⟩
 |sl ex k xs =>
  have qc:=hr
  simp only[ar,ax]at qc
  obtain⟨⟨v',hv,A,c,rfl,_⟩,_⟩:=qc
  cases hv
  simp only[AV.cells,Value.cells,ai];exact⟨_,[],by simp,hr,rfl⟩
 |bp id =>
  have qc:=hr
  simp only[ar]at qc
  obtain⟨⟨hc,_⟩,_⟩:=qc
  simp only[AV.cells,ai,hc];exact⟨_,[],by simp,hr,rfl⟩
 |mp kk vk es =>
  have qc:=hr
  simp only[ar,ax]at qc
  obtain⟨A,hv,_⟩:=qc
  cases hv
  simp only[AV.cells,Value.cells,ai];exact⟨_,[],by simp,hr,rfl⟩
 |fn f cap =>
  have qc:=hr
  simp only[ar]at qc
  obtain⟨vs,rfl,_⟩:=qc
  simp only[AV.cells,Value.cells,ai];exact⟨_,[],by simp,hr,rfl⟩
 |lW vs =>
  have qc:=hr
  simp only[ar]at qc
  obtain⟨us,rfl,_⟩:=qc
  simp only[AV.cells,Value.cells,ai];exact⟨_,[],by simp,hr,rfl⟩
def q6(Z:Nat→Prop)(ψ:Nat→Value)(h:Hp)(w:World):List (Nat×AV)→List (Nat×Value)→Prop
 |[],[]=>True
 |p::r,q::s=>p.1=q.1∧p.2≠.no∧ar Z ψ h w p.2 q.2∧q6 Z ψ h w r s
 |_,_=>False
theorem DA{place:Nat→Option (Nat×Nat)}:∀{ps:List (Nat×AV)} {qs:List (Nat×Value)} {cs cs':List AV} {cells:Array Value},q6 Z ψ h w ps qs→ai Z ψ h w cs cells.toList→AO place cs ps=some cs' →
  ∃eT,Instr.fill place cells qs=some eT∧ai Z ψ h w cs' eT.toList
 |[],[],cs,cs',cells,_,hr,hf=>by simp only[AO]at hf;cases hf;exact⟨cells,rfl,hr⟩
 |[],_::_,_,_,_,hp,_,_=>hp.elim
 |_::_,[],_,_,_,hp,_,_=>hp.elim
 |(i,a)::ps,(j,v)::qs,cs,cs',cells,hp,hr,hf=>by
  obtain⟨rfl,pf,hv,hp⟩:=hp
  simp only[AO]at hf
  simp only at pf hv
  have KR:=hv.cells pf
  have hl:=KR.length
  have wH:=hr.length
  simp only[Array.length_toList]at hl wH
  simp only[Instr.fill]
  split at hf
  ·cases hf
  ·rename_i off size Yr
   simp only[Yr]
   split at hf
   ·cases hf
   ·rename_i hc
    have Rt:a.cells.length=size:=Decidable.not_not.1 (fun e=>hc (.inl e))
    have ud:¬off+a.cells.length>cs.length:=fun e=>hc (.inr e)
    rw[if_neg (by simp only[Bool.or_eq_true,decide_eq_true_eq];omega)]
    refine DA hp ?_ hf
    rw[vD,List.toList_toArray]
    exact KR.dA off hr
theorem Ld(fs:Array Field)(hi:∀f∈fs.toList,∃i,P.info? f.type=some i):(fs.mapM fun f=>do pure (f.offset,←sizeOf f.type):Sem (Array (Nat×Nat))).run P w=.ok (fs.map fun f=>(f.offset,P.cellsOf f.type)) w:=by
 rw[←Array.toArray_toList (xs:=fs)]
 generalize fs.toList=l at hi
 have key:∀(l:List Field) (acc:Array (Nat×Nat)),(∀f∈l,∃i,P.info? f.type=some i) →
   (l.foldlM (fun(bs:Array (Nat×Nat)) f=>do let y ←(do pure (f.offset,←sizeOf f.type):Sem (Nat×Nat));pure (bs.push y)) acc:Sem (Array (Nat×Nat))).run P w=.ok (acc++(l.map fun f=>(f.offset,P.cellsOf f.type)).toArray) w:=by
  intro l
  induction l with
  |nil=>intro acc _;simp
  |cons f r ih =>
   intro acc hl
   obtain⟨i,hi⟩:=hl f (by simp)
   simp only[List.foldlM_cons,Sem.run_bind,c8 hi,Result.andThen_ok,Sem.run_pure]
   rw[ih _ (fun f hf=>hl f (List.mem_cons_of_mem _ hf))]
   simp
 have:=key l #[] hi
 simp only[Array.mapM_eq_foldlM,List.size_toArray,List.foldlM_toArray']
 simpa using this
theorem Cg(v:Value):ar Z ψ h w (uf v) v:=by
 cases v with
 |bool b=>simp only[uf,ar]
 |int k n=>simp only[uf,ar]
 |string s=>simp only[uf,ar]
 |pointer a =>
  simp only[uf];split
  ·rename_i e;subst e;simp only[ar]
  ·simp only[ar]
 |slice a n c =>
  simp only[uf];split
  ·rename_i e;obtain⟨rfl,rfl,rfl⟩:=e;simp only[ar]
  ·simp only[ar]
 |func fn first cap =>
  cases fn with
  |func f =>
   simp only[uf];split
   ·rename_i e
    have h1:first=#[]:=Array.eq_empty_of_size_eq_zero e.1
    have h2:cap=#[]:=Array.eq_empty_of_size_eq_zero e.2
    subst h1;subst h2
    simp only[ar];exact⟨#[],rfl,by simp[ai]⟩
   ·simp only[ar]
  |_=>simp only[uf,ar]
 |_=>simp only[uf,ar]
theorem xH:∀vs:List Value,ai Z ψ h w (vs.map uf) vs
 |[]=>by simp[ai]
 |v::r=>by simp only[List.map_cons,ai];exact⟨v,r,rfl,Cg v,xH r⟩
theorem DB(v:Value):ar Z ψ h w (rH v) v:=by
 cases v with
 |agg cs=>simp only[rH,ar];exact⟨cs,rfl,xH _⟩
 |_=>simp only[rH];exact Cg _
theorem AW(v:Value):(uf v).cells=[uf v]:=by
 cases v with
 |pointer a=>simp only[uf];split<;>rfl
 |slice a n c=>simp only[uf];split<;>rfl
 |func fn first cap =>
  cases fn with
  |func f=>simp only[uf];split<;>rfl
  |_=>rfl
 |_=>rfl
theorem xI(v:Value):ai Z ψ h w (rH v).cells v.cells.toList:=by
 cases v with
 |agg cs=>simp only[rH,AV.cells,Value.cells];exact xH _
 |_ =>
  simp only[rH]
  rw[AW]
  simp only[ai]
  exact⟨_,[],rfl,Cg _,rfl⟩
theorem ns{t:TypeId}{zs:List AV}(hz:xk P t=some zs):∃i z,P.info? t=some i∧i.zero=some z∧zs=(rH z).cells∧∀u∈z.cells.toList,u.oneCell'=true:=by
 unfold xk at hz
 obtain⟨i,hi,vE⟩:=Option.bind_eq_some_iff.1 hz
 obtain⟨z,Af,FN⟩:=Option.bind_eq_some_iff.1 vE
 split at FN
 ·rename_i eu
  cases FN
  exact⟨i,z,hi,Af,rfl,fun u hu=>List.all_eq_true.1 eu u hu⟩
 ·cases FN
theorem sS{t:TypeId}{i:TypeInfo}{z:Value}(hi:P.info? t=some i)(hz:i.zero=some z):(zeroValue t).run P w=.ok z w:=by
 simp[zeroValue,typeInfo,hi,hz]
theorem Jk{t:TypeId}{fs:Array Field}{zs cs:List AV}{ps:List (Nat×AV)}{qs:Array (Nat×Value)}(hz:xk P t=some zs)(ht:P.underlying t=some (.struct fs))(eu:fs.toList.all (fun f=>(P.info? f.type).isSome)=true)
  (hp:q6 Z ψ h w ps qs.toList) (hf:AO (fun i=>(fs[i]?).map fun f=>(f.offset,P.cellsOf f.type)) zs ps=some cs) :
  ∃V,(Instr.build t qs).run P w=.ok V w∧ar Z ψ h w (.agg cs) V:=by
 obtain⟨i,z,hi,T2,rfl,_⟩:=ns hz
 obtain⟨eT,h1,h2⟩:=DA hp (xI z) hf
 have Yr:=Ld (P:=P) (w:=w) fs (fun f hf=>Option.isSome_iff_exists.1 (List.all_eq_true.1 eu f hf))
 refine⟨.agg eT,?_,by simp only[ar];exact⟨_,rfl,h2⟩⟩
 have N1:Instr.fill (fun x=>(fs.map fun f=>(f.offset,P.cellsOf f.type))[x]?) z.cells qs.toList=some eT:=by
  rw[←h1];congr 1;funext x;simp
 simp only[Instr.build,Sem.run_bind,sS hi T2,run_underlying ht,Result.andThen_ok,Yr,N1]
 rfl
theorem Gg:∀(k:K) (cs:List AV) (x:k.T) (r:List AV),dec k cs=some (x,r)→cs.head?≠some .no
 |.int ik,cs,x,r,h,hc=>by
  cases cs with
  |nil=>simp at hc
  |cons a s=>simp at hc;subst hc;simp[dec,B7]at h
 |.bool,cs,x,r,h,hc=>by
  cases cs with
  |nil=>simp at hc
  |cons a s=>simp at hc;subst hc;simp[dec,wD]at h
 |.str,cs,x,r,h,hc=>by
  cases cs with
  |nil=>simp at hc
  |cons a s=>simp at hc;subst hc;simp[dec,B8]at h
 |.sl k,cs,x,r,h,hc=>by
  cases cs with
  |nil=>simp at hc
  |cons a s=>simp at hc;subst hc;simp[dec,HT]at h
 |.pair a b,cs,x,r,h,hc=>by
  simp only[dec]at h
  split at h
  ·rename_i x1 r1 h1
   exact Gg a cs x1 r1 h1 hc
  ·cases h
 |.one k,cs,x,r,h,hc=>by
  simp only[dec]at h
  exact Gg k cs x r h hc
 |.mp kk vk,cs,x,r,h,hc=>by
  cases cs with
  |nil=>simp at hc
  |cons a s=>simp at hc;subst hc;simp[dec,HU]at h
theorem AX{k:K}{hh:Heap}{a:AV}{x:k.T}(h:dh k (a.cells.map (ct hh))=some x):a≠.no:=by
 rintro rfl
 unfold dh at h
 split at h
 ·rename_i x' h1
  exact Gg k _ _ _ h1 (by simp[AV.cells,ct])
 ·cases h
theorem DC{k:K}{hh:Heap}(g:Good Z ψ hh.get w B0 O)(hz:∀b,Z b→Z' b):∀{ps:List (Nat×AV)} {qs:List (Nat×Value)} {xs:List k.T} {i:Nat} {cells:Array Value},
  (∀p∈ps,∀id b,AV.bp id∈p.2.cells→hh.get id≠none→ob (ψ id)=some b→Z' b)→q6 Z ψ hh.get w ps qs→oV k hh i ps=some xs→(i+ps.length)*k.sz≤cells.size →
  ∃eT flat,Instr.fill (fun i=>some (i*k.sz,k.sz)) cells qs=some eT∧eT.toList=cells.toList.take (i*k.sz)++flat++cells.toList.drop ((i+ps.length)*k.sz)∧flat.length=ps.length*k.sz∧l6 Z' w k xs flat∧(∀q∈flat,q.oneCell'=true)∧xs.length=ps.length
 |[],[],xs,i,cells,_,_,hl,_=>by
  simp only[oV]at hl;cases hl
  exact⟨cells,[],rfl,by simp,by simp,fun i x hx=>by simp at hx,by simp,rfl⟩
 |[],_::_,_,_,_,_,hp,_,_=>hp.elim
 |_::_,[],_,_,_,_,hp,_,_=>hp.elim
 |(j,a)::ps,(j',v)::qs,xs,i,cells,hb,hp,hl,hs=>by
  obtain⟨hjj,pf,hv,hp⟩:=hp
  simp only at hjj pf hv
  subst hjj
  simp only[oV]at hl
  split at hl
  ·rename_i e
   subst e
   split at hl
   ·rename_i y ys h1 h2
    cases hl
    simp only[List.length_cons]at hs
    have KR:=hv.cells pf
    have hvw:=mA g hz (hb (j,a) (by simp)) KR
    have hk:=di h1 hvw
    have Ru:=hk.len
    rw[Array.length_toList]at Ru
    have il:j*k.sz+k.sz≤cells.size:=by
     have:(j+1)*k.sz≤(j+(ps.length+1))*k.sz:=Nat.mul_le_mul_right _ (by omega)
     rw[Nat.succ_mul]at this;omega
    simp only[Instr.fill]
    rw[if_neg (by simp only[Bool.or_eq_true,decide_eq_true_eq];omega),vD]
    obtain⟨eT,flat,h3,h4,h5,h6,h7,h8⟩:=DC g hz (ps:=ps) (qs:=qs) (xs:=ys) (i:=j+1) (cells:=(dA cells.toList (j*k.sz) v.cells.toList).toArray) (fun p hp=>hb p (List.mem_cons_of_mem _ hp)) hp h2 (by
     rw[List.size_toArray,qZ]
     have e9:cells.toList.length=cells.size:=Array.length_toList
     rw[e9,show j+1+ps.length=j+(ps.length+1) by omega];exact hs)
    refine⟨eT,v.cells.toList++flat,h3,?_,?_,?_,?_,by simp[h8]⟩
    ·rw[h4,List.toList_toArray,qd _ _ _ (by rw[Array.length_toList,Array.length_toList];omega)]
     have e1:(j+1)*k.sz=j*k.sz+k.sz:=Nat.succ_mul _ _
     have e2:(j+1+ps.length)*k.sz=(j+(ps.length+1))*k.sz:=by congr 1;omega
     rw[List.length_cons,e1,e2]
     have l1:(cells.toList.take (j*k.sz)++v.cells.toList).length=j*k.sz+k.sz:=by
      rw[List.length_append,List.length_take,Array.length_toList,Array.length_toList];omega
     rw[←l1,List.take_left]
     have l2:(j+(ps.length+1))*k.sz=(cells.toList.take (j*k.sz)++v.cells.toList).length+(ps.length*k.sz):=by
      rw[l1,Nat.add_mul,Nat.add_mul];omega
     have hd:(cells.toList.take (j*k.sz)++v.cells.toList++cells.toList.drop (j*k.sz+v.cells.toList.length)).drop ((j+(ps.length+1))*k.sz)=cells.toList.drop ((j+(ps.length+1))*k.sz):=by
      rw[l2,List.drop_append,List.drop_eq_nil_of_le (by omega),List.nil_append,Nat.add_sub_cancel_left,List.drop_drop]
      congr 1
      rw[l1,Array.length_toList];omega
     rw[hd]
     simp[List.append_assoc]
    ·rw[List.length_append,h5,Array.length_toList,Ru,List.length_cons,Nat.succ_mul];omega
    ·intro n x hx
     cases n with
     |zero =>
      simp only[List.getElem?_cons_zero,Option.some.injEq]at hx;subst hx
      have Rv:v.cells.toList.length=k.sz:=by rw[Array.length_toList];exact Ru
      rw[Nat.zero_mul,List.drop_zero,←Rv,List.take_left]
      exact hk
     |succ n =>
      have:=h6 n x (by simpa using hx)
      have Rv:v.cells.toList.length=k.sz:=by rw[Array.length_toList];exact Ru
      have e:(n+1)*k.sz=v.cells.toList.length+n*k.sz:=by rw[Rv,Nat.succ_mul];omega
      rw[e,List.drop_append,List.drop_eq_nil_of_le (by omega),List.nil_append,Nat.add_sub_cancel_left]
      exact this
    ·intro q hq
     rcases List.mem_append.1 hq with hq|hq
     ·exact hk.one q hq
     ·exact h7 q hq
   ·cases hl
  ·cases hl
theorem Next.drop{Z1:Nat→Prop}{h1:Hp}(n:Next Z1 ψ h1 w B0 O N Z' ψ' h' w')(hz:∀b,Z b→Z1 b)(vE:∀b,Z1 b→Z b∨Own ψ h b)(aZ:∀id o,h1 id=some o→h id=some o):Next Z ψ h w B0 O N Z' ψ' h' w':=by
 have hn:∀id,h1 id≠none→h id≠none:=fun id hn=>by
  obtain⟨o,ho⟩:=Option.ne_none_iff_exists'.1 hn
  rw[aZ id o ho];simp
 have ho:∀b,Own ψ h1 b→Own ψ h b:=fun b ⟨id,h2,h3⟩=>⟨id,hn id h2,h3⟩
 refine⟨fun b hb=>n.eR b (hz b hb),fun b hb=>?_,⟨n.keep.os,n.keep.tape,n.keep.output,n.keep.size,fun b hb pf=>n.keep.block b hb (fun h=>pf (ho b h))⟩,fun id bw=>(n.ids id bw).imp (fun⟨h2,h3⟩=>⟨hn id h2,h3⟩) (fun h=>h),n.dx⟩
 rcases n.dJ b hb with h2|h2|h2
 ·exact(vE b h2).imp (fun h=>h) (fun h=>.inl h)
 ·exact .inr (.inl (ho b h2))
 ·exact .inr (.inr h2)
theorem q6.oF{h h':Hp}(hs:∀id o,h' id=some o→h id=some o):∀{ps:List (Nat×AV)} {qs:List (Nat×Value)},q6 Z ψ h w ps qs→q6 Z ψ h' w ps qs:=by
 intro ps
 induction ps with
 |nil=>intro qs hp;cases qs with
  |nil=>trivial
  |cons q r=>exact hp.elim
 |cons p r ih=>intro qs hp;cases qs with
  |nil=>exact hp.elim
  |cons q s=>exact⟨hp.1,hp.2.1,hp.2.2.1.oF hs,ih hp.2.2.2⟩
theorem DD{hh:Heap}{Z1:Nat→Prop}(g:Good Z1 ψ h w B0 O)(g0:Good Z ψ hh.get w B0 O)(hz:∀b,Z b→Z1 b)(hB:B0≤w.heap.size){id:Nat}(hN:N id){t e:TypeId}{k:K}{i:TypeInfo}{z:Value}(ht:P.underlying t=some (.slice e))(he:nr P e k i z)
  {ps:List (Nat×AV)} {qs:Array (Nat×Value)} {xs:List k.T} (KS:∀p∈ps,∀id b,AV.bp id∈p.2.cells→hh.get id≠none→ob (ψ id)=some b→Z1 b) (hp:q6 Z ψ hh.get w ps qs.toList) (hl:oV k hh 0 ps=some xs) (hn:ps.length*k.sz≤1048576)
  (aR:∀i ty cs,h i=some (.box ty cs)→au (fun i=>i≠id) cs) :
  ∃v' w',(Instr.buildSlice t ps.length qs).run P w=.ok v' w'∧Next Z1 ψ h w B0 O N Z1 (dy ψ id v') (dy h id (some (.own (.row e k) xs))) w'∧(v'.cells=#[v']∧v'.oneCell'=true)∧(∀b,Own ψ h b→w'.heap[b]? = w.heap[b]?)∧(∀b,ob v'=some b→w.heap.size≤b)∧∃A c,v'=.slice A c c:=by
 let DE:Array Value:=(Array.range (ps.length*k.sz)).map (z.cells[· % z.cells.size]!)
 have ux:DE.size=ps.length*k.sz:=by simp[DE]
 obtain⟨eT,flat,h1,h2,h3,h4,h5,h6⟩:=DC (Z':=Z1) g0 hz (ps:=ps) (qs:=qs.toList) (xs:=xs) (i:=0) (cells:=DE) KS hp hl (by rw[Nat.zero_add,ux];exact Nat.le_refl _)
 have Qp:eT.toList=flat:=by
  rw[h2,Nat.zero_mul,List.take_zero,List.nil_append,Nat.zero_add,List.drop_eq_nil_of_le (by rw[Array.length_toList,ux];exact Nat.le_refl _),List.append_nil]
 have Jl:eT.size=ps.length*k.sz:=by rw[←Array.length_toList,Qp];exact h3
 have Gb:=k.gD
 have hlen:ps.length≤1048576:=Nat.le_trans (Nat.le_mul_of_pos_right _ Gb) hn
 have rO:(w.alloc (.cells eT e)).ownsRow 0 e k.sz (.slice (some ⟨w.heap.size,0,none⟩) ps.length ps.length) xs.length flat:=by
  have:=World.ownsRow_lit (base:=0) (e:=e) (size:=k.sz) w eT ps.length (Nat.zero_le _) (by simp only[maxLen];omega) Jl
  rw[h6,←Qp];exact this
 refine⟨.slice (some ⟨w.heap.size,0,none⟩) ps.length ps.length,w.alloc (.cells eT e),?_,o9 g hB id e hN (vs:=flat) (cG.alloc _ _ _ _) (fun b hb=>heap_alloc_old w _ (g.bA hb)) (db.of rO) (h4.Dx ((cG.alloc ψ h w _).same g)) (fun b hb=>by simp only[ob]at hb;split at hb<;>cases hb;exact Nat.le_refl _) aR,(db.of rO).one,fun b hb=>heap_alloc_old w _ (g.bA hb),fun b hb=>by simp only[ob]at hb;split at hb<;>cases hb;exact Nat.le_refl _,_,_,rfl⟩
 ·show _=Result.ok (Value.slice (some ⟨w.heap.size,0,none⟩) ps.length ps.length) _
  have xJ:¬ps.length*k.sz>2 ^ 24:=by omega
  have hc:P.cellsOf e=k.sz:=by simp[Program.cellsOf,he.info,he.size]
  simp only[Instr.buildSlice,Sem.run_bind,run_underlying ht,Result.andThen_ok,c8 he.info,hc]
  rw[if_neg xJ]
  have As:(newRow e eT).run P w=.ok ⟨w.heap.size,0,none⟩ (w.alloc (.cells eT e)):=rfl
  by_cases h0:ps.length*k.sz=0
  ·have OF:DE=#[]:=Array.eq_empty_of_size_eq_zero (by rw[ux,h0])
   have vE:(Array.range (ps.length*k.sz)).map (fun x=>(#[]:Array Value)[x%(#[]:Array Value).size]!)=#[]:=Array.eq_empty_of_size_eq_zero (by simp[h0])
   rw[if_pos h0]
   rw[OF]at h1
   simp only[Sem.run_pure,Result.andThen_ok,vE,h1,Sem.run_bind,As]
  ·rw[if_neg h0]
   simp only[Sem.run_bind,sS he.info he.zero,Result.andThen_ok,Sem.run_pure]
   rw[show(Array.range (ps.length*k.sz)).map (fun x=>z.cells[x%z.cells.size]!)=DE from rfl,h1]
   simp only[Sem.run_bind,As,Result.andThen_ok,Sem.run_pure]
theorem Le(g:Good Z ψ h w B0 O)(hB:B0≤w.heap.size){id:Nat}{e:TypeId}{k:K}{xs:List k.T}{v':Value}(n:Next Z ψ h w B0 O N Z (dy ψ id v') (dy h id (some (.own (.row e k) xs))) w')
  (qW:∀b,Own ψ h b→w'.heap[b]? = w.heap[b]?) (As:∀b,ob v'=some b→w.heap.size≤b) (hex:∃A c,v'=.slice A c c) :
  Next Z ψ h w B0 O N (fun b=>Z b∨ob v'=some b) ψ h w'∧ar (fun b=>Z b∨ob v'=some b) ψ h w' (.sl true k xs) v':=by
 have mB:iO Z w' (.row e k) v' xs:=by
  have:=n.dx.row id (.row e k) xs (aS _ _ _)
  rwa [aS]at this
 obtain⟨vs,ho,hv⟩:=mB
 have m:Next Z ψ h w B0 O (fun _=>False) Z ψ h w':=g.more n.keep qW (fun _ _=>⟨rfl,rfl⟩) (fun i ty cs hb=>by
  have e:(fun _:Nat=>¬False)=fun _=>True:=by funext i;simp
  rw[e];exact au.top cs) (fun _ _ _ h=>h.elim) (fun _ _ _ h=>h.elim) (fun _ _ h=>h.elim) (fun _ _ _ h=>h.elim) hB
 have hz:∀b,Z b→Z b∨ob v'=some b:=fun b h=>.inl h
 refine⟨⟨hz,fun b hb=>hb.imp (fun h=>h) fun h=>.inr (As b h),m.keep,fun i hi=>.inl ((m.ids i hi).resolve_right (fun h=>h)),⟨fun i ty cs hb=>?_,fun i ok x hb=>?_,fun i b h1 h2=>?_,m.dx.apart,fun b hb=>?_⟩⟩,?_⟩
 ·obtain⟨gg,vs,f1,f2,f3,f4⟩:=m.dx.box i ty cs hb
  exact⟨gg,vs,f1,f2,ai.less hz (b5.refl _ _) (fun _ h=>⟨h,rfl⟩) f3,f4⟩
 ·exact(m.dx.row i ok x hb).kept hz (b5.refl _ _) (fun _ _=>rfl)
 ·obtain⟨k1,k2⟩:=m.dx.live i b h1 h2
  refine⟨fun hb=>hb.elim k1 fun hb=>?_,k2⟩
  have:=g.bA ⟨i,h1,h2⟩
  have:=As b hb
  omega
 ·rcases hb with hb|hb
  ·exact m.dx.iS b hb
  ·exact iO.lt (ok:=.row e k) ⟨vs,ho,hv⟩ hb
 ·simp only[ar]
  exact⟨sN ho hv (fun b h=>.inl h) (fun b h=>.inr h),fun _=>hex⟩
end Go.Vs
