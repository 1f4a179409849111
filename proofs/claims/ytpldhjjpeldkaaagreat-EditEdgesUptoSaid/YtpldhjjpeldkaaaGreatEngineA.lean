/- The value semantics of the loaded code: its definitions, what abstract values say of memory, and what single steps leave. -/
import Derived.Control
import Derived.Calls
import Derived.Orders
import GoSem.Machine.Frame
import Derived.Laws.AppendOwn
import GoSem.Core.Utf8
import Derived.Below
import Derived.Laws.OwnMore
import Derived.Laws.Rows
import Derived.Deep.Draws
import Derived.Laws.CopyRow
import Derived.Laws.Cells
import Derived.Laws.Sem
import Derived.Maps.AppendAt
import Derived.ArgAppend
import Derived.WalkKit
namespace Go.Vs
inductive K where
 |int (k:IntKind)|bool|str|sl (k:K)|pair (a b:K)|one (k:K)|mp (kk vk:K)
 deriving DecidableEq
def K.T:K→Type
 |.int _=>Int
 |.bool=>Bool
 |.str=>ByteArray
 |.sl k=>List k.T
 |.pair a b=>a.T×b.T
 |.one k=>k.T
 |.mp kk vk=>List (kk.T×vk.T)
def K.sz:K→Nat
 |.pair a b=>a.sz+b.sz
 |.one k=>k.sz
 |_=>1
def qH(P:Program):Nat→TypeId→Option K
 |0,_=>none
 |d+1,t =>
  match P.underlying t with
  |some (.int k)=>some (.int k)
  |some .bool=>some .bool
  |some .string=>some .str
  |some (.slice e)=>(qH P d e).map .sl
  |some (.map a b)=>match qH P d a,qH P d b with
   |some x,some y=>some (.mp x y)
   |_,_=>none
  |some (.struct fs) =>
   match (fs.toList.map fun f=>qH P d f.type).reverse with
   |[]=>none
   |[k]=>k.map .one
   |last::rest=>rest.foldl (fun acc k=>match k,acc with|some k,some a=>some (.pair k a)|_,_=>none) last
  |_=>none
def K.flat:K→Bool
 |.sl _=>false
 |.mp _ _=>false
 |.pair a b=>a.flat&&b.flat
 |.one k=>k.flat
 |_=>true
def K.isAgg:K→Bool
 |.pair _ _=>true
 |.one _=>true
 |_=>false
inductive AV where
 |no
 |bool (b:Bool)
 |int (k:IntKind) (n:Int)
 |str (s:ByteArray)
 |lY
 |gu
 |ref (id s i off:Nat)
 |fp (k:K) (x:k.T) (off:Nat)
 |sl (ex:Bool) (k:K) (xs:List k.T)
 |mp (kk vk:K) (es:List (kk.T×vk.T))
 |bO (id:Nat)
 |fn (f:FuncId) (cap:List AV)
 |agg (cs:List AV)
 |nW (vs:List AV)
def AV.isAgg:AV→Bool
 |.agg _=>true
 |_=>false
def AV.cells:AV→List AV
 |.agg cs=>cs
 |v=>[v]
def enc:(k:K)→k.T→List AV
 |.int ik,n=>[.int ik n]
 |.bool,b=>[.bool b]
 |.str,s=>[.str s]
 |.sl k,xs=>[.sl false k xs]
 |.mp kk vk,es=>[.mp kk vk es]
 |.pair a b,x=>enc a x.1++enc b x.2
 |.one k,x=>enc k x
def EW(ik:IntKind):List AV→Option (Int×List AV)
 |.int Yw n::r=>if Yw=ik then some (n,r) else none
 |_=>none
def zJ:List AV→Option (Bool×List AV)
 |.bool b::r=>some (b,r)
 |_=>none
def EX:List AV→Option (ByteArray×List AV)
 |.str s::r=>some (s,r)
 |_=>none
def Ld(k:K):List AV→Option (List k.T×List AV)
 |.sl _ k' xs::r=>if h:k'=k then some (h▸xs,r) else none
 |.gu::r=>some ([],r)
 |_=>none
def Le(kk vk:K):List AV→Option (List (kk.T×vk.T)×List AV)
 |.mp Lf Tg es::r=>if h:Lf=kk∧Tg=vk then some (h.1▸h.2▸es,r) else none
 |_=>none
def dec:(k:K)→List AV→Option (k.T×List AV)
 |.int ik,cs=>EW ik cs
 |.bool,cs=>zJ cs
 |.str,cs=>EX cs
 |.sl k,cs=>Ld k cs
 |.mp kk vk,cs=>Le kk vk cs
 |.pair a b,cs =>
  match dec a cs with
  |some (x,r)=>match dec b r with
   |some (y,r')=>some ((x,y),r')
   |none=>none
  |none=>none
 |.one k,cs=>dec k cs
def ep(k:K)(cs:List AV):Option k.T :=
 match dec k cs with
 |some (x,[])=>some x
 |_=>none
def cv:(k:K)→k.T→AV
 |.pair a b,x=>.agg (enc (.pair a b) x)
 |.one k,x=>.agg (enc (.one k) x)
 |.int ik,n=>.int ik n
 |.bool,b=>.bool b
 |.str,s=>.str s
 |.sl k,xs=>.sl false k xs
 |.mp kk vk,es=>.mp kk vk es
inductive OK where
 |row (ty:TypeId) (k:K)|map (kk vk:K)|iter (kk vk:K)|n6
 deriving DecidableEq
abbrev OK.T:OK→Type
 |.row _ k=>List k.T
 |.map kk vk=>List (kk.T×vk.T)
 |.iter kk vk=>Option (kk.T×vk.T)×List (kk.T×vk.T)
 |.n6=>ByteArray×Nat
inductive Ob where
 |box (ty:TypeId) (cs:List AV)
 |own (ok:OK) (x:ok.T)
abbrev Heap:=List (Nat×Ob)
def Heap.get:Heap→Nat→Option Ob
 |[],_=>none
 |(i,o)::r,n=>if i=n then some o else Heap.get r n
def Heap.del:Heap→Nat→Heap
 |[],_=>[]
 |(i,o)::r,n=>if i=n then Heap.del r n else(i,o)::Heap.del r n
def Heap.set(h:Heap)(n:Nat)(o:Ob):Heap:=(n,o)::h.del n
def cV(h:Heap):AV→AV
 |.bO id=>match h.get id with
  |some (.own (.row _ k) xs)=>.sl false k xs
  |some (.own (.map kk vk) es)=>.mp kk vk es
  |_=>.no
 |v=>v
def drop1(h:Heap):AV→Heap
 |.bO id=>h.del id
 |_=>h
def cS(h:Heap):List AV→Heap
 |[]=>h
 |c::r=>cS (drop1 h c) r
structure St where
 tmps:List (Nat×AV)
 heap:Heap
def look:List (Nat×AV)→Nat→AV
 |[],_=>.no
 |(i,v)::r,n=>if i=n then v else look r n
def St.put(s:St)(d:Option Tmp)(v:AV):St :=
 match d with
 |some d=>{ s with tmps:=(d,v)::s.tmps }
 |none=>s
def wH:Value→AV
 |.bool b=>.bool b
 |.int k n=>.int k n
 |.string s=>.str s
 |.pointer a=>if a=none then .lY else .no
 |.slice a n c=>if a=none∧n=0∧c=0 then .gu else .no
 |.func fn first cap=>match fn with
  |.func f=>if first.size=0∧cap.size=0 then .fn f [] else .no
  |_=>.no
 |_=>.no
def tT(v:Value):AV :=
 match v with
 |.agg cs=>.agg (cs.toList.map wH)
 |v=>wH v
def ρ(s:List (Nat×AV)):Operand→AV
 |.tmp t=>look s t
 |.const v=>tT v
 |.global _=>.no
 |.func f=>.fn f []
inductive bK where
 |val (v:AV)
 |new (v:AV) (os:Heap)
 |wr (v:AV) (h:Heap)
def bK.v:bK→AV
 |.val v=>v
 |.new v _=>v
 |.wr v _=>v
def bK.h(h:Heap):bK→Heap
 |.val _=>h
 |.new _ os=>os++h
 |.wr _ h'=>h'
inductive CK where
 |val (k:K)
 |own (ok:OK)
inductive PK where
 |val (k:K)
 |ref
 |own
 |GD (f:FuncId) (n:Nat)
 |agg (n:Nat)
inductive RK where
 |val (k:K)
 |own (ok:OK)
 |fg (b:Nat) (alts:List (Nat×Nat×Nat))
 |agg (c:List CK)
inductive BK where
 |box (ty:TypeId) (dw:List CK)
 |own (ok:OK)
def BK.dw:BK→List CK
 |.box _ c=>c
 |.own _=>[]
def CK.T:CK→Type
 |.val k=>k.T
 |.own ok=>ok.T
def qI:List CK→Type
 |[]=>Unit
 |c::r=>c.T×qI r
abbrev BK.T:BK→Type
 |.box _ c=>qI c
 |.own ok=>ok.T
def wI:List BK→Type
 |[]=>Unit
 |b::r=>b.T×wI r
def GF:List K→Type
 |[]=>Unit
 |k::r=>k.T×GF r
def RK.T:RK→Type
 |.val k=>k.T
 |.own ok=>ok.T
 |.fg _ alts=>Option (Fin alts.length×Nat)
 |.agg c=>qI c
def lZ:List RK→Type
 |[]=>Unit
 |r::l=>r.T×lZ l
def lg:List PK→List K
 |[]=>[]
 |.val k::r=>k::lg r
 |_::r=>lg r
structure aL where
 ps:List PK
 bs:List BK
 rs:List RK
 x:Option (Heap→Nat→List AV→Option (Bool×bK)):=none
abbrev aL.A(g:aL):Type:=GF (lg g.ps)×wI g.bs
abbrev aL.B(g:aL):Type:=lZ g.rs×wI g.bs
def RK.plain:RK→Bool
 |.val _=>true
 |.own ..=>true
 |.fg ..=>false
 |.agg c=>decide (c.length≤16)
def RK.flat:RK→Bool
 |.val k=>k.flat
 |.own ..=>false
 |.fg ..=>true
 |.agg _=>false
end Go.Vs
namespace Go.Vs
section
variable (P:Program)
def Jv:TypeDesc→Bool
 |.struct _=>true
 |.array _ _=>true
 |_=>false
def DJ(t:TypeId):Option Bool:=(P.underlying t).map Jv
def ir(t:TypeId)(f:Nat):Option (Nat×TypeId) :=
 match P.underlying t with
 |some (.struct fs)=>(fs[f]?).map fun x=>(x.offset,x.type)
 |_=>none
def yj(t:TypeId):Option TypeId :=
 match P.underlying t with
 |some (.slice e)=>some e
 |_=>none
def Au(t:TypeId):Option (List AV):=(P.info? t).bind fun i=>i.zero.bind fun z=>if z.cells.toList.all (·.oneCell') then some (tT z).cells else none
def eI(t:TypeId)(cs:List AV):Option AV :=
 match DJ P t with
 |some true=>if P.cellsOf t≤cs.length then some (.agg (cs.take (P.cellsOf t))) else none
 |some false=>match cs with
  |c::_=>some c
  |[]=>none
 |none=>none
def eu{α:Type}(cs:List α):Nat→List α→List α
 |_,[]=>cs
 |off,v::r=>eu (cs.set off v) (off+1) r
def DK(place:Nat→Option (Nat×Nat))(cs:List AV):List (Nat×AV)→Option (List AV)
 |[]=>some cs
 |(i,v)::r =>
  match place i with
  |none=>none
  |some (off,size)=>if v.cells.length≠size∨off+v.cells.length>cs.length then none else DK place (eu cs off v.cells) r
def fz(op:BinOp)(k:IntKind)(a b:Int):Int :=
 k.wrap ((match op with
  |.and=>BitVec.ofInt k.bits a &&& BitVec.ofInt k.bits b
  |.or=>BitVec.ofInt k.bits a ||| BitVec.ofInt k.bits b
  |.xor=>BitVec.ofInt k.bits a ^^^ BitVec.ofInt k.bits b
  |_=>BitVec.ofInt k.bits a &&& ~~~(BitVec.ofInt k.bits b)).toNat:Int)
def YV(k:IntKind)(a b:Int):Int:=k.wrap (a*2 ^ (min b.toNat k.bits))
def lB(k:IntKind)(a b:Int):Int:=a.fdiv (2 ^ (min b.toNat k.bits))
def Wm(op:BinOp)(k:IntKind)(a b:Int):Option AV :=
 match op with
 |.add=>some (.int k (k.wrap (a+b)))
 |.sub=>some (.int k (k.wrap (a-b)))
 |.mul=>some (.int k (k.wrap (a*b)))
 |.eql=>some (.bool (a==b))
 |.neq=>some (.bool (a != b))
 |.lss=>some (.bool (decide (a<b)))
 |.leq=>some (.bool (decide (a≤b)))
 |.gtr=>some (.bool (decide (a>b)))
 |.geq=>some (.bool (decide (a≥b)))
 |.and=>some (.int k (fz .and k a b))
 |.or=>some (.int k (fz .or k a b))
 |.xor=>some (.int k (fz .xor k a b))
 |.andNot=>some (.int k (fz .andNot k a b))
 |_=>none
def YW(op:BinOp)(a b:ByteArray):Option AV :=
 match op with
 |.eql=>some (.bool (a==b))
 |.neq=>some (.bool (!(a==b)))
 |_=>none
def rT:(k:K)→k.T→k.T→Bool
 |.int _,x,y=>(show Int from x)==y
 |.bool,x,y=>(show Bool from x)==y
 |.str,x,y=>(show ByteArray from x)==y
 |.sl _,_,_=>false
 |.mp _ _,_,_=>false
 |.pair a b,x,y=>rT a x.1 y.1&&rT b x.2 y.2
 |.one k,x,y=>rT k x y
def tU(kk:K){α:Type}(x:kk.T)(es:List (kk.T×α)):Option Nat:=es.findIdx? fun e=>rT kk x e.1
def jy(kk:K){α:Type}(x:kk.T)(es:List (kk.T×α)):Option α:=(tU kk x es).bind fun i=>(es[i]?).map (·.2)
def mQ(kk:K){α:Type}(x:kk.T)(v:α)(es:List (kk.T×α)):List (kk.T×α):=match tU kk x es with
 |some i=>es.set i (x,v)
 |none=>es++[(x,v)]
def OG(kk:K){α:Type}(x:kk.T)(es:List (kk.T×α)):List (kk.T×α):=match tU kk x es with
 |some i=>es.eraseIdx i
 |none=>es
def qk:(k:K)→k.T
 |.int _=>(0:Int)
 |.bool=>false
 |.str=>ByteArray.empty
 |.sl k=>([]:List k.T)
 |.pair a b=>(qk a,qk b)
 |.one k=>qk k
 |.mp kk vk=>([]:List (kk.T×vk.T))
def OH:K→Value→Bool
 |.int ik,.int Yw n=>decide (Yw=ik∧n=0)
 |.bool,.bool b => !b
 |.str,.string s=>decide (s=ByteArray.empty)
 |.sl _,.slice a n c=>decide (a=none∧n=0∧c=0)
 |_,_=>false
def Lg(t:TypeId)(k:K):Bool:=match P.info? t with
 |some i=>match i.zero with
  |some z=>OH k z
  |none=>false
 |none=>false
def Lh(Eqs:TypeId→Option K)(t:TypeId)(k:K):Bool:=k.flat&&(match k,P.underlying t with
 |.int ik,some (.int Yw)=>decide (Yw=ik)
 |.bool,some .bool=>true
 |.str,some .string=>true
 |k,_=>k.isAgg&&decide (Eqs t=some k))
def mapOf(Eqs:TypeId→Option K)(t:TypeId):Option (K×K):=match P.underlying t with
 |some (.map a b)=>match qH P 8 a,qH P 8 b with
  |some kk,some vk=>if Lh P Eqs a kk&&Lg P b vk then some (kk,vk) else none
  |_,_=>none
 |_=>none
def br{α:Type}(xs:List α)(i:Int):Option α:=if 0≤i then xs[i.toNat]? else none
def fV:Nat:=1073741824
def aP(n m:Nat):Bool:=decide (n+m≤fV)
def l6(n:Nat)(lo hi:Option AV):Option (Int×Int) :=
 match lo,hi with
 |none,none=>some (0,(n:Int))
 |some (.int .i64 l),none=>some (l,(n:Int))
 |none,some (.int .i64 h)=>some (0,h)
 |some (.int .i64 l),some (.int .i64 h)=>some (l,h)
 |_,_=>none
def bj(n:Nat)(l h:Int):Bool:=decide (0≤l)&&(decide (l≤h)&&decide (h≤(n:Int)))
def cut{α:Type}(xs:List α)(l h:Int):List α:=(xs.take h.toNat).drop l.toNat
def Wn(s:ByteArray)(l h:Int):ByteArray:=s.extract l.toNat h.toNat
variable {R:Type}
def gh(k:K)(h:Heap)(v:AV):Option k.T:=if k.isAgg=v.isAgg then ep k (v.cells.map (cV h)) else none
def rowOf(h:Heap)(v:AV)(k:K):Option (List k.T) :=
 match cV h v with
 |.sl _ k' xs=>if e:k'=k then some (e▸xs) else none
 |.gu=>some []
 |_=>none
def EY(e:TypeId)(k:K):Bool :=
 match P.info? e with
 |some i=>(match i.zero with
  |some z=>decide (i.size=k.sz)&&(decide (z.cells.size=k.sz)&&decide (i.bytes≤65536))
  |none=>false)
 |none=>false
def n8(h:Heap)(id:Nat)(t:TypeId)(s x:AV)(K:bK→Option R):Option R :=
 match yj P t with
 |none=>none
 |some e =>
  match qH P 8 e with
  |none=>none
  |some kk =>
   match rowOf h x kk,EY P e kk with
   |some ys,true =>
    match s with
    |.gu=>cond (aP 0 ys.length) (K (.new (.bO id) [(id,.own (.row e kk) ys)])) none
    |.bO cY =>
     match h.get cY with
     |some (.own (.row e' k') xs) =>
      if c:e'=e∧k'=kk then cond (aP xs.length ys.length) (K (.wr (.bO id) ((h.del cY).set id (.own (.row e kk) (c.2▸xs++ys))))) none else none
     |_=>none
    |.sl ex k' xs =>
     if c:k'=kk then cond (ex&&((!ys.isEmpty || xs.isEmpty)&&aP xs.length ys.length)) (K (.new (.bO id) [(id,.own (.row e kk) (c▸xs++ys))])) none else none
    |_=>none
   |_,_=>none
def wJ:AV→Bool
 |.no=>false
 |.agg _=>false
 |.nW _=>false
 |_=>true
def Jw(id:Nat):List AV→Bool
 |[]=>true
 |.bO i::r => !(i==id)&&Jw id r
 |_::r=>Jw id r
def stored(h:Heap)(vs:List AV):List AV×Heap:=(vs.map (cV h),cS h vs)
def rU(h:Heap)(t:TypeId)(a v:AV)(K:bK→Option R):Option R :=
 if v.cells.length=P.cellsOf t∧(P.info? t).isSome∧v.cells.all wJ then
  match a with
  |.ref id s i off =>
   match h.get id with
   |some (.box ty cs)=>if i=0∧off+v.cells.length≤cs.length then K (.wr .no (h.set id (.box ty (eu cs off v.cells)))) else none
   |some (.own (.row ty kk) xs) =>
    (xs[i]?).bind fun x =>
     if s=kk.sz∧off+v.cells.length≤kk.sz∧Jw id v.cells then
      match ep kk (eu (enc kk x) off (stored h v.cells).1) with
      |some y=>K (.wr .no ((stored h v.cells).2.set id (.own (.row ty kk) (xs.set i y))))
      |none=>none
     else none
   |_=>none
  |_=>none
 else none
def l8(h:Heap)(t:TypeId)(a:AV)(K:bK→Option R):Option R :=
 match a with
 |.ref id s i off =>
  match h.get id with
  |some (.box _ cs)=>if i=0 then(match eI P t (cs.drop off) with|some v=>K (.val v)|none=>none) else none
  |some (.own (.row _ kk) xs)=>if s=kk.sz then(xs[i]?).bind fun x=>match eI P t ((enc kk x).drop off) with|some v=>K (.val v)|none=>none else none
  |_=>none
 |.fp kk x off=>match eI P t ((enc kk x).drop off) with|some v=>K (.val v)|none=>none
 |_=>none
def dD(h:Heap)(t:TypeId)(x i:AV)(K:bK→Option R):Option R :=
 match yj P t with
 |none=>none
 |some e =>
  match x,i with
  |.sl _ kk xs,.int _ n=>if P.cellsOf e=kk.sz then(br xs n).bind fun y=>K (.val (.fp kk y 0)) else none
  |.bO id,.int _ n =>
   match h.get id with
   |some (.own (.row _ kk) xs)=>if P.cellsOf e=kk.sz then cond (decide (0≤n)&&decide (n<(xs.length:Int))) (K (.val (.ref id kk.sz n.toNat 0))) none else none
   |_=>none
  |_,_=>none
def Av(x:AV)(lo hi mx:Option AV)(K:bK→Option R):Option R :=
 match x,mx with
 |.str s,none =>
  match l6 s.size lo hi with
  |some (l,u)=>cond (bj s.size l u) (K (.val (.str (Wn s l u)))) none
  |none=>none
 |_,_=>none
def rW(h:Heap)(sz:Nat)(x:AV)(lo hi mx:Option AV)(K:bK→Option R):Option R :=
 match x with
 |.gu =>
  match l6 0 lo hi,mx with
  |some (l,u),none=>cond (bj 0 l u) (K (.val .gu)) none
  |_,_=>none
 |.sl _ kk xs =>
  if sz=kk.sz then
   match l6 xs.length lo hi with
   |some (l,u) =>
    match mx with
    |none=>cond (bj xs.length l u) (K (.val (.sl false kk (cut xs l u)))) none
    |some (.int .i64 m)=>cond (bj xs.length l u&&(hi.isSome&&decide (m=u))) (K (.val (.sl true kk (cut xs l u)))) none
    |_=>none
   |none=>none
  else none
 |.bO id =>
  match h.get id with
  |some (.own (.row _ kk) xs) =>
   if sz=kk.sz then
    match l6 xs.length lo hi with
    |some (l,u) =>
     match mx with
     |none=>cond (bj xs.length l u) (K (.wr (.sl false kk (cut xs l u)) (h.del id))) none
     |some (.int .i64 m)=>cond (bj xs.length l u&&(hi.isSome&&decide (m=u))) (K (.wr (.sl true kk (cut xs l u)) (h.del id))) none
     |_=>none
    |none=>none
   else none
  |_=>none
 |_=>none
def Wo(t:TypeId)(x:AV):Bool :=
 match P.underlying t,x with
 |some .string,.str _=>true
 |some (.slice _),.str _=>false
 |some (.slice _),_=>true
 |_,_=>false
def Jx(t:TypeId):Bool :=
 match P.underlying t with
 |some (.map _ _)=>true
 |_=>false
def DL(h:Heap)(x:AV)(K:bK→Option R):Option R :=
 match cV h x with
 |.str s=>K (.val (.int .i64 (s.size:Int)))
 |.sl _ _ xs=>K (.val (.int .i64 (xs.length:Int)))
 |.gu=>K (.val (.int .i64 0))
 |_=>none
def wK(h:Heap)(x:AV)(K:bK→Option R):Option R :=
 match cV h x with
 |.mp _ _ es=>K (.val (.int .i64 (es.length:Int)))
 |_=>none
def lL(Eqs:TypeId→Option K)(id:Nat)(t:TypeId)(K:bK→Option R):Option R :=
 match mapOf P Eqs t with
 |some (kk,vk)=>K (.new (.bO id) [(id,.own (.map kk vk) [])])
 |none=>none
def oa(Eqs:TypeId→Option K)(h:Heap)(t:TypeId)(m i:AV)(ok:Bool)(K:bK→Option R):Option R :=
 match mapOf P Eqs t,cV h m with
 |some (kk,vk),.mp Lf Tg es =>
  if c:Lf=kk∧Tg=vk then
   match gh kk h i with
   |some x=>K (.val (cond ok (.nW [cv vk ((jy kk x (c.1▸c.2▸es:List (kk.T×vk.T))).getD (qk vk)),.bool (jy kk x (c.1▸c.2▸es:List (kk.T×vk.T))).isSome]) (cv vk ((jy kk x (c.1▸c.2▸es:List (kk.T×vk.T))).getD (qk vk)))))
   |none=>none
  else none
 |_,_=>none
def je(Eqs:TypeId→Option K)(h:Heap)(t:TypeId)(m i v:AV)(K:bK→Option R):Option R :=
 match mapOf P Eqs t,m with
 |some (kk,vk),.bO id =>
  match h.get id with
  |some (.own (.map Lf Tg) es) =>
   if c:Lf=kk∧Tg=vk then
    match gh kk h i,gh vk h v,(v.cells.all fun c=>match c with | .bO j => !(j==id)|_=>true) with
    |some x,some y,true=>K (.wr (.nW []) ((cS h v.cells).set id (.own (.map kk vk) (mQ kk x y (c.1▸c.2▸es:List (kk.T×vk.T))))))
    |_,_,_=>none
   else none
  |_=>none
 |_,_=>none
def oc(Eqs:TypeId→Option K)(h:Heap)(t:TypeId)(m i:AV)(K:bK→Option R):Option R :=
 match mapOf P Eqs t,m with
 |some (kk,vk),.bO id =>
  match h.get id with
  |some (.own (.map Lf Tg) es) =>
   if c:Lf=kk∧Tg=vk then
    match gh kk h i with
    |some x=>K (.wr (.nW []) (h.set id (.own (.map kk vk) (OG kk x (c.1▸c.2▸es:List (kk.T×vk.T))))))
    |none=>none
   else none
  |_=>none
 |_,_=>none
def od(id:Nat)(t:TypeId)(x:AV)(K:bK→Option R):Option R :=
 match P.underlying t,x with
 |some .string,.str s=>K (.new (.bO id) [(id,.own .n6 (s,0))])
 |_,_=>none
def oZ(s:ByteArray)(p:Nat):Int:=(Utf8.decode s p).1
def Aw(s:ByteArray)(p:Nat):Nat:=(Utf8.decode s p).2
def rX(h:Heap)(x:AV)(K:bK→Option R):Option R :=
 match x with
 |.bO id=>match h.get id with
  |some (.own .n6 x)=>cond (decide (x.2<x.1.size)) (K (.wr (.nW [.bool true,.int .i64 (x.2:Int),.int .i32 (oZ x.1 x.2)]) (h.set id (.own .n6 (x.1,x.2+Aw x.1 x.2))))) (K (.val (.nW [.bool false])))
  |_=>none
 |_=>none
def rY(h:Heap)(x:AV)(K:bK→Option R):Option R :=
 match x with
 |.bO id=>match h.get id with
  |some (.own (.iter kk vk) (some c,_))=>K (.val (.nW [cv kk c.1,cv vk c.2]))
  |_=>none
 |_=>none
def EZ:TypeDesc→Bool
 |.bool=>true
 |_=>false
def wL:TypeDesc→Bool
 |.pointer _=>true
 |_=>false
def yk(Eqs:TypeId→Option K)(op:BinOp)(t:TypeId)(x y:AV)(K:bK→Option R):Option R :=
 match x,y with
 |.int k a,.int k' b =>
  match op with
  |.shl=>cond (decide (b<0)) none (K (.val (.int k (YV k a b))))
  |.shr=>cond (decide (b<0)) none (K (.val (.int k (lB k a b))))
  |op =>
  if k=k' then
   match op with
   |.quo=>cond (b==0) none (K (.val (.int k (k.wrap (a.tdiv b)))))
   |.rem=>cond (b==0) none (K (.val (.int k (a.tmod b))))
   |op=>match Wm op k a b with
    |some v=>K (.val v)
    |none=>none
  else none
 |.str a,.str b=>match YW op a b with
  |some v=>K (.val v)
  |none=>none
 |.bool a,.bool b =>
  match op,(P.underlying t).map EZ with
  |.eql,some true=>K (.val (.bool (a==b)))
  |.neq,some true=>K (.val (.bool (!(a==b))))
  |_,_=>none
 |.agg a,.agg b =>
  match Eqs t with
  |none=>none
  |some k =>
   match op,ep k a,ep k b with
   |.eql,some x,some y=>K (.val (.bool (rT k x y)))
   |.neq,some x,some y=>K (.val (.bool (!(rT k x y))))
   |_,_,_=>none
 |.lY,.lY =>
  match op,(P.underlying t).map wL with
  |.eql,some true=>K (.val (.bool true))
  |.neq,some true=>K (.val (.bool false))
  |_,_=>none
 |.ref ..,.lY =>
  match op,(P.underlying t).map wL with
  |.eql,some true=>K (.val (.bool false))
  |.neq,some true=>K (.val (.bool true))
  |_,_=>none
 |_,_=>none
def Va(b:Bool)(x y:AV):AV :=
 match x,y with
 |.bool p,.bool q=>.bool (cond b p q)
 |x,y=>cond b x y
end
def eg(h:Heap)(ok:OK)(c:AV):Option ok.T :=
 match c with
 |.gu=>match ok with
  |.row _ _=>some []
  |_=>none
 |.bO id=>match h.get id with
  |some (.own Yx x)=>if e:Yx=ok then some (e▸x) else none
  |_=>none
 |_=>none
def o5:AV→List Nat
 |.bO id=>[id]
 |_=>[]
def cW:(dw:List CK)→Heap→List AV→Option (qI dw)
 |[],_,[]=>some ()
 |.val k::r,h,cs =>
  match ep k ((cs.take k.sz).map (cV h)),cW r h (cs.drop k.sz) with
  |some x,some y=>some (x,y)
  |_,_=>none
 |.own ok::r,h,c::cs =>
  match eg h ok c,cW r h cs with
  |some x,some y=>some (x,y)
  |_,_=>none
 |_,_,_=>none
def ql:List CK→List AV→List AV
 |.val k::r,cs=>cs.take k.sz++ql r (cs.drop k.sz)
 |.own _::r,_::cs=>ql r cs
 |_,_=>[]
def fW:List CK→List AV→List Nat
 |.val k::r,cs=>fW r (cs.drop k.sz)
 |.own _::r,c::cs=>o5 c++fW r cs
 |_,_=>[]
def aD:(dw:List CK)→Nat→qI dw→List AV
 |[],_,_=>[]
 |.val k::r,n,x=>enc k x.1++aD r (n+1) x.2
 |.own _::r,n,x=>.bO n::aD r (n+1) x.2
def aZ:(dw:List CK)→Nat→qI dw→Heap
 |[],_,_=>[]
 |.val _::r,n,x=>aZ r (n+1) x.2
 |.own ok::r,n,x=>(n,.own ok x.1)::aZ r (n+1) x.2
def GG(h:Heap)(id:Nat)(ty:TypeId):Option (List AV) :=
 match h.get id with
 |some (.box zj cs)=>if zj=ty then some cs else none
 |_=>none
def qm:(b:BK)→Heap→Nat→Option b.T
 |.box ty c,h,i=>match GG h i ty with
  |some cs=>cW c h cs
  |none=>none
 |.own ok,h,i=>eg h ok (.bO i)
def de:(bs:List BK)→Heap→List Nat→Option (wI bs)
 |[],_,[]=>some ()
 |b::r,h,i::is =>
  match qm b h i,de r h is with
  |some x,some y=>some (x,y)
  |_,_=>none
 |_,_,_=>none
def jz:(b:BK)→Nat→Nat→b.T→Heap
 |.box ty c,i,n,x=>(i,.box ty (aD c n x))::aZ c n x
 |.own ok,i,_,x=>[(i,.own ok x)]
def bC:(bs:List BK)→List Nat→Nat→wI bs→Heap
 |b::r,i::is,n,x=>jz b i n x.1++bC r is (n+16) x.2
 |_,_,_,_=>[]
def Ax:BK→Heap→Nat→List AV
 |.box _ c,h,i=>match h.get i with
  |some (.box _ cs)=>ql c cs
  |_=>[]
 |.own _,_,_=>[]
def gx:List BK→Heap→List Nat→List AV
 |b::r,h,i::is=>Ax b h i++gx r h is
 |_,_,_=>[]
def ky:BK→Heap→Nat→List Nat
 |.box _ c,h,i=>i::(match h.get i with
  |some (.box _ cs)=>fW c cs
  |_=>[])
 |.own _,_,i=>[i]
def dg:List BK→Heap→List Nat→List Nat
 |b::r,h,i::is=>ky b h i++dg r h is
 |_,_,_=>[]
def iu(h:Heap):List Nat→Heap
 |[]=>h
 |i::r=>iu (h.del i) r
def DM:AV→Option Nat
 |.ref id _ 0 0=>some id
 |_=>none
def jZ:List AV→Option (List Nat)
 |[]=>some []
 |v::r=>match DM v,jZ r with
  |some i,some is=>some (i::is)
  |_,_=>none
def o6:List AV→Option (List Nat)
 |[]=>some []
 |.bO i::r=>match o6 r with
  |some is=>some (i::is)
  |none=>none
 |_=>none
def cO:List PK→List AV→Option (List Nat)
 |[],[]=>some []
 |.val _::ps,_::vs=>cO ps vs
 |.ref::ps,v::vs=>match DM v,cO ps vs with
  |some i,some is=>some (i::is)
  |_,_=>none
 |.own::ps,.bO i::vs=>match cO ps vs with
  |some is=>some (i::is)
  |none=>none
 |.GD f n::ps,.fn f' cap::vs =>
  if f'=f∧cap.length=n then match jZ cap,cO ps vs with
   |some a,some b=>some (a++b)
   |_,_=>none
  else none
 |.agg n::ps,.agg cs::vs =>
  if cs.length=n then match o6 cs,cO ps vs with
   |some a,some b=>some (a++b)
   |_,_=>none
  else none
 |_,_=>none
def fa:(ps:List PK)→Heap→List AV→Option (GF (lg ps))
 |[],_,[]=>some ()
 |.val k::ps,h,v::vs =>
  match gh k h v,fa ps h vs with
  |some x,some y=>some (x,y)
  |_,_=>none
 |.ref::ps,h,_::vs=>fa ps h vs
 |.own::ps,h,_::vs=>fa ps h vs
 |.GD _ _::ps,h,_::vs=>fa ps h vs
 |.agg _::ps,h,_::vs=>fa ps h vs
 |_,_,_=>none
def du:List PK→List AV→List AV
 |.val _::ps,v::vs=>v.cells++du ps vs
 |_::ps,_::vs=>du ps vs
 |_,_=>[]
def aT:(ps:List PK)→(ids:List Nat)→Nat→GF (lg ps)→List (Nat×AV)
 |[],_,_,_=>[]
 |.val k::ps,ids,s,x=>(s,cv k x.1)::aT ps ids (s+1) x.2
 |.ref::ps,i::ids,s,x=>(s,.ref i 0 0 0)::aT ps ids (s+1) x
 |.ref::ps,[],s,x=>(s,.no)::aT ps [] (s+1) x
 |.own::ps,i::ids,s,x=>(s,.bO i)::aT ps ids (s+1) x
 |.own::ps,[],s,x=>(s,.no)::aT ps [] (s+1) x
 |.GD f n::ps,ids,s,x=>(s,.fn f ((ids.take n).map fun i=>.ref i 0 0 0))::aT ps (ids.drop n) (s+1) x
 |.agg n::ps,ids,s,x=>(s,.agg ((ids.take n).map .bO))::aT ps (ids.drop n) (s+1) x
def mU:List CK→Nat→Nat
 |.val k::r,c+1=>k.sz+mU r c
 |.own _::r,c+1=>1+mU r c
 |_,_=>0
def gk:List CK→Nat→Bool
 |.own (.row _ _)::_,0=>true
 |_::r,c+1=>gk r c
 |_,_=>false
def OI(id:Nat):Option AV→Bool
 |some (.bO mR)=>mR==id
 |_=>false
def yl(c:List CK)(cs:List AV)(id s off:Nat)(a:Nat×Nat×Nat):Bool :=
 OI id (cs[mU c a.1]?)&&(decide (s=a.2.1)&&(decide (off=a.2.2)&&gk c a.1))
def nE(bs:List BK)(h:Heap)(ids:List Nat)(b:Nat)(alts:List (Nat×Nat×Nat))(v:AV):Option (Option (Fin alts.length×Nat)) :=
 match v with
 |.lY=>some none
 |.ref id s i off =>
  (match ids[b]?,bs[b]? with
  |some bi,some bk=>(match h.get bi with
   |some (.box _ cs)=>(match (List.finRange alts.length).find? (fun a=>yl bk.dw cs id s off (alts.get a)) with
    |some a=>some (some (a,i))
    |none=>none)
   |_=>none)
  |_,_=>none)
 |_=>none
def Ay(c:List CK)(h:Heap)(v:AV):Option (qI c) :=
 match v with
 |.agg cs=>cW c h cs
 |_=>none
def bP(bs:List BK):(rs:List RK)→Heap→List Nat→List AV→Option (lZ rs)
 |[],_,_,[]=>some ()
 |.val k::r,h,ids,v::vs =>
  match gh k h v,bP bs r h ids vs with
  |some x,some y=>some (x,y)
  |_,_=>none
 |.own ok::r,h,ids,v::vs =>
  match eg h ok v,bP bs r h ids vs with
  |some x,some y=>some (x,y)
  |_,_=>none
 |.fg b alts::r,h,ids,v::vs =>
  match nE bs h ids b alts v,bP bs r h ids vs with
  |some x,some y=>some (x,y)
  |_,_=>none
 |.agg c::r,h,ids,v::vs =>
  match Ay c h v,bP bs r h ids vs with
  |some x,some y=>some (x,y)
  |_,_=>none
 |_,_,_,_=>none
def gy:List RK→List AV→List AV
 |.val _::r,v::vs=>v.cells++gy r vs
 |.agg c::r,v::vs=>ql c v.cells++gy r vs
 |_::r,_::vs=>gy r vs
 |_,_=>[]
def dV:List RK→List AV→List Nat
 |.own _::r,v::vs=>o5 v++dV r vs
 |.agg c::r,v::vs=>fW c v.cells++dV r vs
 |_::r,_::vs=>dV r vs
 |_,_=>[]
def uR(b n:Nat)(alts:List (Nat×Nat×Nat)):Option (Fin alts.length×Nat)→AV
 |none=>.lY
 |some (a,i)=>.ref (n+16*b+(alts.get a).1) (alts.get a).2.1 i (alts.get a).2.2
def aV:(rs:List RK)→(ids:List Nat)→(n m:Nat)→lZ rs→List AV
 |[],_,_,_,_=>[]
 |.val k::r,ids,n,m,x=>cv k x.1::aV r ids n (m+1) x.2
 |.agg c::r,ids,n,m,x=>.agg (aD c m x.1)::aV r ids n (m+1) x.2
 |.own _::r,ids,n,m,x=>.bO m::aV r ids n (m+1) x.2
 |.fg b alts::r,ids,n,m,x=>uR b n alts x.1::aV r ids n (m+1) x.2
def an:(rs:List RK)→(m:Nat)→lZ rs→Heap
 |[],_,_=>[]
 |.own ok::r,m,x=>(m,.own ok x.1)::an r (m+1) x.2
 |.agg c::r,m,x=>aZ c m x.1++an r (m+1) x.2
 |.val _::r,m,x=>an r (m+1) x.2
 |.fg _ _::r,m,x=>an r (m+1) x.2
def fC:List AV→AV
 |[v]=>v
 |vs=>.nW vs
def cw:List CK→Nat→List Nat
 |[],_=>[]
 |.val _::r,n=>cw r (n+1)
 |.own _::r,n=>n::cw r (n+1)
def cg:List BK→List Nat→Nat→List Nat
 |b::r,i::is,n=>i::(cw b.dw n++cg r is (n+16))
 |_,_,_=>[]
def bD:List RK→Nat→List Nat
 |[],_=>[]
 |.own _::r,m=>m::bD r (m+1)
 |.agg c::r,m=>cw c m++bD r (m+1)
 |.val _::r,m=>bD r (m+1)
 |.fg _ _::r,m=>bD r (m+1)
def aO(n:Nat):List Nat:=(List.range n).map fun i=>1000+20*i
def qJ(g:aL):List Nat:=cg g.bs (aO g.bs.length) 2000++bD g.rs 3000
def GH:List AV→Bool
 |[]=>true
 |.bO _::_=>false
 |_::r=>GH r
def qK:List AV→Bool
 |[]=>true
 |v::r=>GH v.cells&&qK r
def cm:List Nat→Bool
 |[]=>true
 |i::r => !(r.contains i)&&cm r
def wM(kept:List Nat)(lf:List AV):Bool:=cm kept&&kept.all fun i=>Jw i lf
section
variable (P:Program) (Eqs:TypeId→Option K) (Sg:FuncId→Option aL) (F:(f:FuncId)→(g:aL)→g.A→Option g.B)
variable {R:Type}
def tV(f:FuncId):List AV→FuncId
 |[]=>f
 |.fn g _::_=>f+1000*(g+1)
 |_::r=>tV f r
def Az:List AV→Bool
 |[]=>false
 |.bO _::_=>true
 |.agg cs::r=>(cs.any fun c=>match c with | .bO _=>true|_=>false) || Az r
 |_::r=>Az r
def keyOf(f:FuncId)(vs:List AV):FuncId:=if Az vs&&(Sg (tV f vs+500000)).isSome then tV f vs+500000 else tV f vs
def Db(bs:List BK)(r:RK):Bool:=match r with
 |.fg b alts=>match bs[b]? with
  |some bk=>(alts.all fun a=>gk bk.dw a.1)&&decide ((alts.map fun a=>(a.1,a.2.2)).Nodup)
  |none=>false
 |.agg c=>decide (c.length≤16)
 |_=>true
def qL(bs:List BK)(rs:List RK):Bool:=rs.all (Db bs)
def OJ(f:FuncId)(g:aL):Bool:=qL g.bs g.rs&&( (decide (g.bs.length≤8)&&(g.bs.all fun b=>decide (b.dw.length≤16)))&&((decide (g.rs.length≤100)&&decide (f<1000))&&cm (qJ g)))
def qM{α R:Type}(o:Option α)(a:Option R)(f:α→Option R):Option R:=match o with
 |none=>a
 |some x=>f x
def YX{R:Type}(n:Nat)(a:Fin n)(f:Fin n→Option R):Option R:=(List.finRange n).foldr (fun j r=>cond (a.val==j.val) (f j) r) none
def j0{R:Type}:(rs:List RK)→lZ rs→(lZ rs→Option R)→Option R
 |[],_,K=>K ()
 |.fg _ alts::r,x,K=>qM x.1 (j0 r x.2 fun z=>K (none,z)) (fun p=>YX alts.length p.1 fun a=>j0 r x.2 fun z=>K (some (a,p.2),z))
 |.val _::r,x,K=>j0 r x.2 fun z=>K (x.1,z)
 |.own _::r,x,K=>j0 r x.2 fun z=>K (x.1,z)
 |.agg _::r,x,K=>j0 r x.2 fun z=>K (x.1,z)
def jA(h:Heap)(id:Nat)(f:FuncId)(vs:List AV)(K:bK→Option R):Option R :=
 match Sg (keyOf Sg f vs) with
 |none=>none
 |some g=>match g.x with
 |some u=>if f<1000 then(u h id vs).bind fun p=>cond p.1 (K p.2) none else none
 |none =>
  match cO g.ps vs,OJ f g with
  |some is,true =>
   if is.isEmpty&&g.rs.all RK.plain then
   match fa g.ps h vs,de g.bs h [],g.rs.all RK.plain with
   |some x,some b,true =>
    (F (keyOf Sg f vs) g (x,b)).bind fun y =>
     cond (g.rs.all RK.flat || qK vs)
      (K (.new (fC (aV g.rs [] id (id+128) y.1)) (an g.rs (id+128) y.1)))
      (K (.wr (fC (aV g.rs [] id (id+128) y.1)) (an g.rs (id+128) y.1++cS h (du g.ps vs))))
   |_,_,_=>none
   else
   match fa g.ps h vs,de g.bs h is,wM (dg g.bs h is) (du g.ps vs++gx g.bs h is)&&cm (cg g.bs is id++bD g.rs (id+128)) with
   |some x,some b,true =>
    (F (keyOf Sg f vs) g (x,b)).bind fun y=>j0 g.rs y.1 fun z =>
     K (.wr (fC (aV g.rs is id (id+128) z))
      (bC g.bs is id y.2++(an g.rs (id+128) z++iu (cS h (du g.ps vs++gx g.bs h is)) (dg g.bs h is))))
   |_,_,_=>none
  |_,_=>none
def qN{α:Type}(xs:List α)(i:Int)(ys:List α):Bool:=decide (0≤i)&&(decide (i≤xs.length)&&(decide (ys.length=1)&&aP xs.length ys.length))
def gD{α:Type}(xs:List α)(i:Int)(ys:List α):List α:=xs.take i.toNat++(ys++xs.drop i.toNat)
def jU{α:Type}(xs:List α)(i j:Int):Bool:=decide (0≤i)&&(decide (i<j)&&(decide (j≤xs.length)&&aP xs.length 0))
def dx{α:Type}(xs:List α)(i j:Int):List α:=xs.take i.toNat++xs.drop j.toNat
def AA(n:Int):Bool:=decide (0≤n)&&decide (n≤fV)
def OL(ty:TypeId)(k:K)(h:Heap)(id:Nat):List AV→Option (Bool×bK)
 |[.bO o,.int .i64 i,.bO j]=>match eg h (.row ty k) (.bO o),eg h (.row ty k) (.bO j) with
  |some xs,some ys=>if o=j then none else some (qN xs i ys,.wr (.bO id) ((id,.own (.row ty k) (gD xs i ys))::h.del o))
  |_,_=>none
 |_=>none
def Th(ty:TypeId)(k:K)(h:Heap)(id:Nat):List AV→Option (Bool×bK)
 |[.bO o,.int .i64 i,.int .i64 j]=>match eg h (.row ty k) (.bO o) with
  |some xs=>some (jU xs i j,.wr (.bO id) ((id,.own (.row ty k) (dx xs i j))::h.del o))
  |none=>none
 |_=>none
def OM(ty:TypeId)(k:K)(_:Heap)(id:Nat):List AV→Option (Bool×bK)
 |[.gu,.int .i64 n]=>some (AA n,.new (.bO id) [(id,.own (.row ty k) [])])
 |_=>none
def wN(id:Nat)(t:TypeId)(vs:List AV)(K:bK→Option R):Option R :=
 K (.new (.ref id vs.length 0 0) [(id,.box t vs)])
def Vb:AV→Bool
 |.no=>false
 |_=>true
def rZ(t:TypeId)(parts:List (Nat×AV))(K:bK→Option R):Option R :=
 match Au P t,P.underlying t with
 |some z,some (.struct fs) =>
  match DK (fun i=>(fs[i]?).map fun f=>(f.offset,P.cellsOf f.type)) z parts,fs.toList.all (fun f=>(P.info? f.type).isSome)&&parts.all (fun p=>Vb p.2) with
  |some cs,true=>K (.val (.agg cs))
  |_,_=>none
 |_,_=>none
def qO(k:K)(h:Heap):Nat→List (Nat×AV)→Option (List k.T)
 |_,[]=>some []
 |i,(j,v)::r =>
  if j=i then match ep k (v.cells.map (cV h)),qO k h (i+1) r with
   |some x,some xs=>some (x::xs)
   |_,_=>none
  else none
def uU(h:Heap)(id:Nat)(t:TypeId)(n:Nat)(parts:List (Nat×AV))(K:bK→Option R):Option R :=
 match yj P t with
 |none=>none
 |some e =>
  match qH P 8 e with
  |none=>none
  |some k =>
   match qO k h 0 parts,EY P e k with
   |none,_=>none
   |some _,false=>none
   |some xs,true =>
    if parts.length=n∧n*k.sz≤1048576 then
     cond (qK (parts.map (·.2))) (K (.new (.bO id) [(id,.own (.row e k) xs)])) (K (.wr (.bO id) ((id,.own (.row e k) xs)::cS h (parts.flatMap (·.2.cells)))))
    else none
def Ti:bK→bK
 |.new (.bO _) [(_,.own (.row _ k) xs)]=>.new (.sl true k xs) []
 |e=>e
def wO(lf:Bool)(h:Heap)(id:Nat)(t:TypeId)(n:Nat)(parts:List (Nat×AV))(K:bK→Option R):Option R :=
 uU P h id t n parts fun e=>K (if lf then Ti e else e)
def AB(src dst:TypeId)(x:AV)(K:bK→Option R):Option R :=
 match P.underlying src,P.underlying dst,x with
 |some (.int _),some (.int k),.int _ n=>K (.val (.int k (k.wrap n)))
 |some .string,some .string,.str s=>K (.val (.str s))
 |_,_,_=>none
def MB(mx:Bool)(vs:List AV)(K:bK→Option R):Option R :=
 match vs with
 |[.int k a,.int k' b]=>if k=k' then K (.val (.int k (cond mx (max a b) (min a b)))) else none
 |_=>none
def c4(id:Nat)(h:Heap)(s:List (Nat×AV))(o:Oper)(K:bK→Option R):Option R :=
 match o.op with
 |.move x | .assign x=>K (.val (ρ s x))
 |.pick c a b=>match ρ s c with
  |.bool t=>K (.val (Va t (ρ s a) (ρ s b)))
  |_=>none
 |.box t x=>if(ρ s x).cells.all wJ then wN id t (ρ s x).cells K else none
 |.alloc t=>match Au P t with
  |some z=>wN id t z K
  |none=>none
 |.build t ps=>rZ P t (ps.toList.map fun p=>(p.1,ρ s p.2)) K
 |.buildSlice t n ps=>wO P (Sg (900000+t)).isSome h id t n (ps.toList.map fun p=>(p.1,ρ s p.2)) K
 |.load t a=>l8 P h t (ρ s a) K
 |.store t a v=>rU P h t (ρ s a) (ρ s v) K
 |.nilCheck x=>match ρ s x with
  |.ref id s i off=>K (.val (.ref id s i off))
  |.fp k x off=>K (.val (.fp k x off))
  |.fn f cap=>K (.val (.fn f cap))
  |_=>none
 |.binOp op t x y _=>yk P Eqs op t (ρ s x) (ρ s y) K
 |.unOp .not _ x=>match ρ s x with
  |.bool b=>K (.val (.bool (!b)))
  |_=>none
 |.convert src dst x=>AB P src dst (ρ s x) K
 |.makeFunc (.func f) first cap=>if first.size=0 then K (.val (.fn f (cap.toList.map (ρ s)))) else none
 |.slice t x lo hi mx=>match P.underlying t with
  |some .string=>Av (ρ s x) (lo.map (ρ s)) (hi.map (ρ s)) (mx.map (ρ s)) K
  |some (.slice e)=>if(P.info? e).isSome then rW h (P.cellsOf e) (ρ s x) (lo.map (ρ s)) (hi.map (ρ s)) (mx.map (ρ s)) K else none
  |_=>none
 |.fieldAddr t x f=>match ir P t f,ρ s x with
  |some (n,ft),.ref id s i off=>if P.cellsOf ft=0 then none else K (.val (.ref id s i (off+n)))
  |some (n,ft),.fp k x off=>if P.cellsOf ft=0 then none else K (.val (.fp k x (off+n)))
  |_,_=>none
 |.field t x f=>match ir P t f,ρ s x with
  |some (n,ft),.agg cs=>match eI P ft (cs.drop n) with
   |some v=>K (.val v)
   |none=>none
  |_,_=>none
 |.indexAddr t x i=>dD P h t (ρ s x) (ρ s i) K
 |.index t x i=>match P.underlying t,ρ s x,ρ s i with
  |some .string,.str b,.int _ n=>(if 0≤n then b[n.toNat]? else none).bind fun c=>K (.val (.int .u8 (c.toNat:Int)))
  |_,_,_=>none
 |.makeMap t none=>lL P Eqs id t K
 |.lookup t m i ok=>oa P Eqs h t (ρ s m) (ρ s i) ok K
 |.mapUpdate t m i v=>je P Eqs h t (ρ s m) (ρ s i) (ρ s v) K
 |.range t x=>od P id t (ρ s x) K
 |.next x true=>rX h (ρ s x) K
 |.entry x=>rY h (ρ s x) K
 |.extract t i=>match ρ s t with
  |.nW vs=>match vs[i]? with
   |some v=>K (.val v)
   |none=>none
  |_=>none
 |.call c =>
  match c.callee with
  |.value f=>match ρ s f with
   |.fn f cap=>jA Sg F h id f (c.args.toList.map (ρ s)++cap) K
   |_=>none
  |.builtin .len=>match c.args.toList,c.argTypes.toList with
   |[x],[t]=>if Jx P t then wK h (ρ s x) K else if Wo P t (ρ s x) then DL h (ρ s x) K else none
   |_,_=>none
  |.builtin .append=>match c.args.toList,c.argTypes.toList with
   |[x,y],[t,t']=>if t'=t then n8 P h id t (ρ s x) (ρ s y) K else none
   |_,_=>none
  |.builtin .delete=>match c.args.toList,c.argTypes.toList with
   |[m,x],t::_=>oc P Eqs h t (ρ s m) (ρ s x) K
   |_,_=>none
  |.builtin .max=>MB true (c.args.toList.map (ρ s)) K
  |.builtin .min=>MB false (c.args.toList.map (ρ s)) K
  |_=>none
 |_=>none
def nF:Op→Bool
 |.move _ | .assign _ | .extract .. | .unOp .. | .pick .. | .fieldAddr .. | .nilCheck _ | .makeFunc .. | .build ..=>true
 |.binOp op ..=>match op with
  |.eql | .neq=>false
  |_=>true
 |_=>false
def makes:Op→Bool
 |.box .. | .alloc _ | .buildSlice .. | .makeMap .. | .range ..=>true
 |.call c=>match c.callee with
  |.builtin .append | .value _=>true
  |_=>false
 |_=>false
def opId(rid i:Nat):Nat:=((rid+1)*128+i)*256
def uV(ops:Array Oper)(b:Array Nat):Bool :=
 (List.range ops.size).all fun i=>match ops[i]? with
  |some o=>(o.after.toList.all fun e => !Region.binds .any e || decide (e.on<i)) &&
   b.getD i 0==o.after.toList.foldl (fun s e=>if Region.binds .any e then s ||| 2 ^ e.on ||| b.getD e.on 0 else s) 0
  |none=>false
def AD(ops:Array Oper)(b:Array Nat):Bool :=
 (List.range ops.size).all fun j=>(List.range j).all fun i =>
  (b.getD j 0).testBit i || (match ops[i]?,ops[j]? with
   |some x,some y=>x.apart ops y
   |_,_=>false)
def jB:Op→Option Operand
 |.load _ x=>some x
 |.indexAddr _ x _=>some x
 |_=>none
def E0:Op→Bool
 |.store ..=>true
 |.call c=>match c.callee with
  |.value _=>true
  |_=>false
 |_=>false
def uW(ops:Array Oper)(i j:Nat):Bool :=
 match (ops[j]?).bind (jB ·.op) with
 |some (.tmp d)=>(List.range ops.size).all fun m => !(decide (min i j≤m)&&decide (m<max i j)) || (match (ops[m]?).bind (·.dst) with|some d'=>d' != d|none=>true)
 |some _=>true
 |none=>false
def uX:AV→List Nat
 |.ref id _ _ _=>[id]
 |.bO id=>[id]
 |_=>[]
def Wp(ops:Array Oper)(b:Array Nat)(i:Nat)(tmps:List (Nat×AV)):List Nat :=
 (List.range ops.size).flatMap fun j=>if j==i || (b.getD j 0).testBit i || (b.getD i 0).testBit j then[] else match (ops[j]?).bind (jB ·.op) with
  |some x=>uX (ρ tmps x)
  |none=>[]
def iv(ops:Array Oper)(b:Array Nat)(i:Nat)(tmps:List (Nat×AV))(o:Oper):List Nat:=if E0 o.op then Wp ops b i tmps else[]
def Jy(ops:Array Oper)(b:Array Nat)(i:Nat):Bool :=
 (List.range ops.size).all fun j =>
  j==i || (b.getD j 0).testBit i || (b.getD i 0).testBit j || (match ops[j]? with|some o=>nF o.op|none=>true) || ((match ops[i]? with|some o=>E0 o.op|none=>false)&&uW ops i j)
def ahead(rid:Nat)(Jz:Nat)(h:Heap):Heap:=h.filter fun p=>(p.1 / 32768 != rid+1) || Jz.testBit (p.1 / 256%128)
def iM(n:Nat)(o:Oper):Bool :=
 match o.dst with
 |some d=>decide (d<n)
 |none=>true
end
def qP(rid bits id:Nat):Bool:=(id / 32768 != rid+1) || bits.testBit (id / 256%128)
mutual
def ti(rid bits:Nat):AV→Bool
 |.ref id _ _ _=>qP rid bits id
 |.bO id=>qP rid bits id
 |.fn _ cap=>AE rid bits cap
 |.agg cs=>AE rid bits cs
 |.nW vs=>AE rid bits vs
 |.no=>true
 |.bool _=>true
 |.int _ _=>true
 |.str _=>true
 |.lY=>true
 |.gu=>true
 |.fp _ _ _=>true
 |.sl _ _ _=>true
 |.mp _ _ _=>true
def AE(rid bits:Nat):List AV→Bool
 |[]=>true
 |v::r=>ti rid bits v&&AE rid bits r
end
def ym(rid bits:Nat):Heap→Bool
 |[]=>true
 |(id,.box _ cs)::r=>qP rid bits id&&AE rid bits cs&&ym rid bits r
 |(id,.own _ _)::r=>qP rid bits id&&ym rid bits r
def ia(draw:Bool)(rid:Nat)(ops:Array Oper)(b:Array Nat)(i Jz:Nat):bK→Bool
 |.wr v h=>(!draw || Jy ops b i)&&ti rid (Jz ||| 2 ^ i) v&&ym rid (Jz ||| 2 ^ i) h
 |.new v os=>ti rid (Jz ||| 2 ^ i) v&&(os.all fun p=>p.1 / 256==(rid+1)*128+i)&&ym rid (Jz ||| 2 ^ i) os
 |.val v=>ti rid Jz v
def fG(ft:List Nat)(hp h:Heap):Heap:=(ft.filterMap fun i=>(hp.get i).map fun o=>(i,o))++h
def ij(ft:List Nat)(hp:Heap):bK→bK
 |.wr v h=>.wr v (fG ft hp h)
 |.val v=>.val v
 |.new v os=>.new v os
mutual
def qQ(ft:List Nat):AV→Bool
 |.ref id _ _ _ => !(ft.contains id)
 |.bO id => !(ft.contains id)
 |.fn _ cap=>tW ft cap
 |.agg cs=>tW ft cs
 |.nW vs=>tW ft vs
 |.no=>true
 |.bool _=>true
 |.int _ _=>true
 |.str _=>true
 |.lY=>true
 |.gu=>true
 |.fp _ _ _=>true
 |.sl _ _ _=>true
 |.mp _ _ _=>true
def tW(ft:List Nat):List AV→Bool
 |[]=>true
 |v::r=>qQ ft v&&tW ft r
end
def tX(ft:List Nat):Heap→Bool
 |[]=>true
 |(id,.box _ cs)::r => !(ft.contains id)&&(tW ft cs&&tX ft r)
 |(id,.own _ _)::r => !(ft.contains id)&&tX ft r
def nG(ft:List Nat):bK→Bool
 |.wr v h=>qQ ft v&&tX ft h
 |_=>true
section
variable (P:Program) (Eqs:TypeId→Option K) (Sg:FuncId→Option aL) (F:(f:FuncId)→(g:aL)→g.A→Option g.B)
variable {R:Type}
noncomputable def ta(n:Nat)(f:Nat→Option R):Option R:=open Classical in if h:∃r,∀j,j<n→f j=some r then some (Classical.choose h) else none
def GI(m:Nat)(d:AV):AV→AV
 |.bO i=>if i=m then d else .bO i
 |v=>v
def o8(id:Nat)(st:St)(o:Oper):Option St :=
 match o.op with
 |.range t x=>match P.underlying t,ρ st.tmps x with
  |some (.map _ _),.bO m=>match st.heap.get m with
   |some (.own (.map kk vk) es)=>some (({ tmps:=st.tmps.map fun p=>(p.1,GI m (.mp kk vk es) p.2),heap:=(id,.own (.iter kk vk) (none,es))::st.heap.del m }:St).put o.dst (.bO id))
   |_=>none
  |_,_=>none
 |_=>none
def uY(o:Oper):Option Operand :=
 match o.op with
 |.next x false=>some x
 |_=>none
noncomputable def lC(h:Heap)(x:AV)(K:AV→Heap→Option R):Option R :=
 match x with
 |.bO id=>match h.get id with
  |some (.own (.iter kk vk) p)=>cond p.2.isEmpty (K (.nW [.bool false]) h) (ta p.2.length fun j=>(p.2[j]?).bind fun c=>K (.nW [.bool true,cv kk c.1,cv vk c.2]) (h.set id (.own (.iter kk vk) (some c,p.2.eraseIdx j))))
  |_=>none
 |_=>none
def isNil(o:Oper):Option (Operand×Bool) :=
 match o.op with
 |.binOp op t x (.const v) _=>match op,P.underlying t,wH v with
  |.eql,some (.slice _),.gu=>some (x,true)
  |.neq,some (.slice _),.gu=>some (x,false)
  |_,_,_=>none
 |_=>none
noncomputable def uZ(h:Heap)(x:AV)(want:Bool)(K:AV→Option R):Option R :=
 match cV h x with
 |.gu=>K (.bool want)
 |.sl _ _ xs=>cond xs.isEmpty (ta 2 fun j=>K (.bool ((j==0)==want))) (K (.bool (!want)))
 |_=>none
noncomputable def bF(rid:Nat)(draw:Bool)(ops:Array Oper)(b:Array Nat):List (Nat×Oper)→St→(St→Option R)→Option R
 |[],st,K=>K st
 |(i,o)::r,st,K =>
  let run (st:St):Option R :=
   match (if draw then none else o8 P (opId rid i) st o) with
   |some eU=>bF rid draw ops b r eU K
   |none =>
   match (if draw then none else uY o) with
   |some x=>lC st.heap (ρ st.tmps x) fun v h=>bF rid draw ops b r (({ st with heap:=h }:St).put o.dst v) K
   |none =>
   match (if draw then none else isNil P o) with
   |some (x,want)=>uZ st.heap (ρ st.tmps x) want fun v=>bF rid draw ops b r (st.put o.dst v) K
   |none =>
   if draw then
    c4 P Eqs Sg F (opId rid i) (iu (ahead rid (b.getD i 0) st.heap) (iv ops b i st.tmps o)) st.tmps o fun e =>
     if ia true rid ops b i (b.getD i 0) (ij (iv ops b i st.tmps o) (ahead rid (b.getD i 0) st.heap) e)&&nG (iv ops b i st.tmps o) e then
      bF rid draw ops b r ({ st with heap:=match ij (iv ops b i st.tmps o) (ahead rid (b.getD i 0) st.heap) e with | .wr _ h=>h|e=>e.h st.heap }.put o.dst e.v) K else none
   else
    c4 P Eqs Sg F (opId rid i) st.heap st.tmps o fun e =>
     if ia false rid ops b i (2 ^ i-1) e then bF rid draw ops b r ({ st with heap:=match e with | .wr _ h=>h|e=>e.h st.heap }.put o.dst e.v) K else none
  let skip (st:St):Option R:=bF rid draw ops b r (st.put o.dst (.nW [])) K
  match o.guard with
  |none=>run st
  |some (j,want) =>
   match (ops[j]?).bind (·.dst) with
   |none=>none
   |some d =>
    match look st.tmps d with
    |.bool t=>cond t (if want then run (st.put (some d) (.bool true)) else skip (st.put (some d) (.bool true))) (if want then skip (st.put (some d) (.bool false)) else run (st.put (some d) (.bool false)))
    |.nW _=>skip st
    |_=>none
end
mutual
def bH(rid:Nat):AV→AV
 |.ref id s i off=>if id / 32768=rid+1 then .no else .ref id s i off
 |.bO id=>if id / 32768=rid+1 then .no else .bO id
 |.fn f cap=>.fn f (l9 rid cap)
 |.agg cs=>.agg (l9 rid cs)
 |.nW vs=>.nW (l9 rid vs)
 |.no=>.no
 |.bool b=>.bool b
 |.int k n=>.int k n
 |.str s=>.str s
 |.lY=>.lY
 |.gu=>.gu
 |.fp k x off=>.fp k x off
 |.sl ex k xs=>.sl ex k xs
 |.mp kk vk es=>.mp kk vk es
def l9(rid:Nat):List AV→List AV
 |[]=>[]
 |v::r=>bH rid v::l9 rid r
end
def AF(rid:Nat):Ob→Ob
 |.box ty cs=>.box ty (l9 rid cs)
 |.own ok x=>.own ok x
def lu(draw:Bool)(rid:Nat)(ops:Array Oper)(st:St):St :=
 if draw || ops.any (makes ·.op) then
  { tmps:=st.tmps.map fun p=>(p.1,bH rid p.2),heap:=(st.heap.filter fun p=>p.1 / 32768 != rid+1).map fun p=>(p.1,AF rid p.2) }
 else st
section
variable (P:Program) (Eqs:TypeId→Option K) (Sg:FuncId→Option aL) (F:(f:FuncId)→(g:aL)→g.A→Option g.B)
variable {R:Type}
noncomputable def iO(n rid:Nat)(ops:Array Oper)(draw:Bool)(st:St)(K:St→Option R):Option R :=
 let b:=if draw then Region.before ops else #[]
 if(ops.all fun o=>iM n o)&&(!draw || (uV ops b&&(AD ops b&&cm (ops.toList.filterMap (·.dst)))))&&decide (ops.size≤128) then
  bF P Eqs Sg F rid draw ops b (ops.toList.zipIdx.map fun p=>(p.2,p.1)) (lu draw rid ops st) K
 else none
inductive Src where
 |slot (s:Nat)
 |cap (s j:Nat)
structure Shape where
 zk:List (Nat×K)
 boxes:List (Src×Nat×BK)
 rows:List (Nat×Nat×OK)
 fns:List (Nat×FuncId×List Nat)
def Shape.ks(sh:Shape):List K:=sh.zk.map (·.2)
def Shape.bs(sh:Shape):List BK:=sh.boxes.map (·.2.2)
def JA:List OK→Type
 |[]=>Unit
 |k::r=>k.T×JA r
abbrev Shape.T(sh:Shape):Type:=GF sh.ks×wI sh.bs×JA (sh.rows.map (·.2.2))
def qR(st:St):(l:List (Nat×K))→Option (GF (l.map (·.2)))
 |[]=>some ()
 |(s,k)::r =>
  match gh k st.heap (look st.tmps s),qR st r with
  |some x,some y=>some (x,y)
  |_,_=>none
def Vc(st:St):Src→Option Nat
 |.slot s=>DM (look st.tmps s)
 |.cap s j=>match look st.tmps s with
  |.fn _ cap=>match cap[j]? with
   |some v=>DM v
   |none=>none
  |_=>none
def E1(st:St):List (Src×Nat×BK)→Option (List Nat)
 |[]=>some []
 |p::r=>match Vc st p.1,E1 st r with
  |some i,some is=>some (i::is)
  |_,_=>none
def nH(st:St):(l:List (Nat×Nat×OK))→Option (JA (l.map (·.2.2)))
 |[]=>some ()
 |(s,_,ok)::r =>
  match eg st.heap ok (look st.tmps s),nH st r with
  |some x,some y=>some (x,y)
  |_,_=>none
def zK(st:St)(sh:Shape)(ids:List Nat):List AV:=(sh.zk.flatMap fun p=>(look st.tmps p.1).cells)++gx sh.bs st.heap ids
def GJ(st:St)(sh:Shape)(ids:List Nat):List Nat:=dg sh.bs st.heap ids++sh.rows.flatMap fun p=>o5 (look st.tmps p.1)
def og(st:St)(m:Nat):List (Nat×Nat×OK)→Bool
 |[]=>false
 |(s,id,_)::r=>(id==m&&(match look st.tmps s with | .bO i=>i==m|_=>false)) || og st m r
def r8(sh:Shape):List Nat:=cg sh.bs (sh.boxes.map (·.2.1)) 9000++sh.rows.map (·.2.1)
def Li(st:St)(ids:List (Nat×Nat)):List (Nat×FuncId×List Nat)→Bool
 |[]=>true
 |(s,f,Dc)::r =>
  (match look st.tmps s with
  |.fn f' cap=>decide (f'=f)&&(match jZ cap with|some is=>decide (is.map (fun i=>(ids.find? (·.1==i)).map (·.2))=Dc.map some)|none=>false)
  |_=>false)&&Li st ids r
def cP(sh:Shape)(st:St):Option sh.T :=
 match E1 st sh.boxes with
 |none=>none
 |some ids =>
  match qR st sh.zk,de sh.bs st.heap ids,nH st sh.rows,wM (GJ st sh ids) (zK st sh ids)&&(cm (r8 sh)&&((r8 sh).all (fun m=>decide (2000≤m) || ((ids.zip (sh.boxes.map (·.2.1))).any fun p=>p.1==m&&p.2==m) || og st m sh.rows)&&Li st (ids.zip (sh.boxes.map (·.2.1))) sh.fns)) with
  |some x,some y,some z,true=>some (x,y,z)
  |_,_,_,_=>none
def qS:(l:List (Nat×K))→GF (l.map (·.2))→List (Nat×AV)
 |[],_=>[]
 |(s,k)::r,x=>(s,cv k x.1)::qS r x.2
def j4:List (Src×Nat×BK)→List (Nat×AV)
 |[]=>[]
 |(.slot s,id,_)::r=>(s,.ref id 0 0 0)::j4 r
 |(.cap _ _,_,_)::r=>j4 r
def zL(l:List (Nat×FuncId×List Nat)):List (Nat×AV):=l.map fun p=>(p.1,.fn p.2.1 (p.2.2.map fun i=>.ref i 0 0 0))
def qT:(l:List (Nat×Nat×OK))→JA (l.map (·.2.2))→Heap
 |[],_=>[]
 |(_,id,ok)::r,x=>(id,.own ok x.1)::qT r x.2
def au(sh:Shape)(x:sh.T):St :=
  { tmps:=qS sh.zk x.1++(j4 sh.boxes++(zL sh.fns++sh.rows.map fun p=>(p.1,.bO p.2.1))),
    heap:=bC sh.bs (sh.boxes.map (·.2.1)) 9000 x.2.1++qT sh.rows x.2.2 }
def r9:Code→Nat
 |.region id _ _=>id
 |.seq a _=>r9 a
 |.block _ a=>r9 a
 |.loop a=>r9 a
 |.scope a=>r9 a
 |_=>0
noncomputable def aC(n:Nat)(ann:Nat→Option Shape)(J:(sh:Shape)→List Item→sh.T→Option R)(ret:St→Option R):Nat→List Item→St→Option R
 |0,_,_=>none
 |_+1,[],st=>ret st
 |m+1,.inBlock _::k,st=>aC n ann J ret m k st
 |m+1,.inScope _::k,st=>aC n ann J ret m k st
 |_+1,.inLoop c::k,st =>
  match ann (r9 c) with
  |none=>none
  |some sh=>match cP sh st with
   |some x=>J sh (.inLoop c::k) x
   |none=>none
 |m+1,.code c::k,st =>
  match c with
  |.skip | .label _=>aC n ann J ret m k st
  |.seq a b=>aC n ann J ret m (.code a::.code b::k) st
  |.cond c a b=>match ρ st.tmps c with
   |.bool t=>cond t (aC n ann J ret m (.code a::k) st) (aC n ann J ret m (.code b::k) st)
   |_=>none
  |.block id c=>aC n ann J ret m (.code c::.inBlock id::k) st
  |.scope c=>aC n ann J ret m (.code c::.inScope c::k) st
  |.loop c=>aC n ann J ret m (.inLoop c::k) st
  |.exit id=>match exitTo id k with
   |some k'=>aC n ann J ret m k' st
   |none=>none
  |.ret=>ret st
  |.region id ops draw=>iO P Eqs Sg F n id ops draw st fun eU=>aC n ann J ret m k eU
  |_=>none
 |_,_,_=>none
def yn(h:Heap)(tmps:List (Nat×AV))(rvs:List ResultVar):Option (List AV) :=
 match rvs with
 |[]=>some []
 |.tmp t::r=>match yn h tmps r with
  |some vs=>some (look tmps t::vs)
  |none=>none
 |.cell a t::r=>match look tmps a with
  |.ref id _ 0 off=>(match h.get id with
   |some (.box _ cs)=>(match eI P t (cs.drop off),yn h tmps r with
    |some v,some vs=>some (v::vs)
    |_,_=>none)
   |_=>none)
  |_=>none
def qU(g:aL)(fn:Func)(st:St):Option g.B :=
 match yn P st.heap st.tmps fn.results.toList with
 |none=>none
 |some vs =>
  match bP g.bs g.rs st.heap (aO g.bs.length) vs,de g.bs st.heap (aO g.bs.length),
   wM (dg g.bs st.heap (aO g.bs.length)++dV g.rs vs) (gy g.rs vs++gx g.bs st.heap (aO g.bs.length))&&cm (qJ g) with
  |some x,some y,true=>some (x,y)
  |_,_,_=>none
def entry(g:aL)(x:g.A):St :=
 { tmps:=aT g.ps (aO g.bs.length) 0 x.1,heap:=bC g.bs (aO g.bs.length) 2000 x.2 }
def fuel:Nat:=100000
end
section
variable (P:Program) (Eqs:TypeId→Option K) (Sg:FuncId→Option aL) (An:FuncId→Nat→Option Shape) (G:(f:FuncId)→(g:aL)→Option (g.A→Option g.B))
variable (F:(f:FuncId)→(g:aL)→g.A→Option g.B)
def body(f:FuncId):Option (Func×Code):=(P.funcs[f]?).bind fun fn=>fn.body.map fun c=>(fn,c)
noncomputable def mS(f:FuncId)(g:aL)(fn:Func):Nat→(sh:Shape)→List Item→sh.T→Option g.B
 |0,_,_,_=>none
 |n+1,sh,.inLoop c::k,x=>aC P Eqs Sg F fn.ntmps (An f) (mS f g fn n) (qU P g fn) fuel (.code c::.inLoop c::k) (au sh x)
 |_+1,_,_,_=>none
noncomputable def JB(f:FuncId)(g:aL)(n:Nat)(x:g.A):Option g.B :=
 match body P (f%1000) with
 |none=>none
 |some (fn,c)=>if decide (g.ps.length≤fn.ntmps)&&decide (g.bs.length≤8) then aC P Eqs Sg F fn.ntmps (An f) (mS P Eqs Sg An F f g fn n) (qU P g fn) fuel [.code c] (entry g x) else none
end
section
variable (P:Program) (Eqs:TypeId→Option K) (Sg:FuncId→Option aL) (An:FuncId→Nat→Option Shape) (G:(f:FuncId)→(g:aL)→Option (g.A→Option g.B))
noncomputable def Fn:Nat→(f:FuncId)→(g:aL)→g.A→Option g.B
 |0,f,g,x=>match G f g with
  |some u=>u x
  |none=>none
 |m+1,f,g,x=>match G f g with
  |some u=>u x
  |none=>JB P Eqs Sg An (Fn m) f g m x
end
end Go.Vs
namespace Go.Vs
def qV:Code→List Item→List (List Item)
 |.seq a b,k=>qV a (.code b::k)++qV b k
 |.cond _ a b,k=>qV a k++qV b k
 |.block id c,k=>qV c (.inBlock id::k)
 |.scope c,k=>qV c (.inScope c::k)
 |.loop c,k=>(.inLoop c::k)::qV c (.inLoop c::k)
 |_,_=>[]
def aY(P:Program)(f:FuncId)(j:Nat):List Item :=
 match body P f with
 |some (_,c)=>(qV c []).getD j []
 |none=>[]
def round:List Item→List Item
 |.inLoop c::k=>.code c::.inLoop c::k
 |k=>k
end Go.Vs
namespace Go.Vs
theorem u4(a:Addr)(n m:Nat):(a.add n).add m=a.add (n+m):=by
 unfold Addr.add
 by_cases h1:n=0<;>by_cases h2:m=0<;>simp[h1,h2,Nat.add_assoc]
theorem DN(a:Addr):a.add 0=a:=by simp[Addr.add]
theorem cJ(a:Addr)(n:Nat):(a.add n).block=a.block:=by unfold Addr.add;split<;>rfl
theorem cz(g i n:Nat):(⟨g,i,none⟩:Addr).add n=⟨g,i+n,none⟩:=by unfold Addr.add;split<;>simp_all
def cG(Z:Nat→Prop)(w w':World):Prop:=∀b,Z b→w'.heap[b]? = w.heap[b]?
theorem cG.refl(Z:Nat→Prop)(w:World):cG Z w w:=fun _ _=>rfl
theorem cG.trans{Z:Nat→Prop}{w w1 w2:World}(h:cG Z w w1)(k:cG Z w1 w2):cG Z w w2:=fun b hb=>(k b hb).trans (h b hb)
theorem cG.cell{Z:Nat→Prop}{w w':World}(h:cG Z w w'){a:Addr}(ha:Z a.block):w'.cell? a=w.cell? a:=World.cell?_of_block (h _ ha)
def adV{α:Type}(r:α→List Value→Prop)(Z:Nat→Prop)(sz:Nat)(w:World)(xs:List α)(v:Value):Prop :=
 ∃A c,v=.slice A xs.length c∧xs.length≤c∧(A=none→c=0) ∧
  ∀(i:Nat) (x:α),xs[i]? = some x→∃a us,A=some a∧Z a.block∧r x us∧∀(j:Nat) u,us[j]? = some u→w.cell? (a.add (i*sz+j))=some u
def E2{α β:Type}(ra:α→List Value→Prop)(rb:β→List Value→Prop)(pa pb:Bool)(es:List (α×β))(cc:List MapEntry):Prop :=
 es.length=cc.length∧∀(i:Nat) (x:α×β) (e:MapEntry),es[i]? = some x→cc[i]? = some e →
  (ra x.1 e.key.cells.toList∧(pa=true→∃vs,e.key=.agg vs)∧(pa=false→e.key.cells=#[e.key]))∧rb x.2 e.val.cells.toList∧(pb=true→∃vs,e.val=.agg vs)∧(pb=false→e.val.cells=#[e.val])
def aH(Z:Nat→Prop)(w:World):(k:K)→k.T→List Value→Prop
 |.int ik,n,vs=>vs=[.int ik n]
 |.bool,b,vs=>vs=[.bool b]
 |.str,s,vs=>vs=[.string s]
 |.sl k,xs,vs=>∃v,vs=[v]∧adV (aH Z w k) Z k.sz w xs v
 |.pair a b,x,vs=>∃us ws,vs=us++ws∧aH Z w a x.1 us∧aH Z w b x.2 ws
 |.one k,x,vs=>aH Z w k x vs
 |.mp kk vk,es,vs=>∃A,vs=[.map A]∧((A=none∧es=[])∨∃m cc clock,A=some m∧Z m∧w.heap[m]? = some (.map cc clock)∧E2 (aH Z w kk) (aH Z w vk) kk.isAgg vk.isAgg es cc.toList)
variable {Z Z':Nat→Prop} {w w':World}
theorem aH.len:∀{k:K} {x:k.T} {vs:List Value},aH Z w k x vs→vs.length=k.sz
 |.int _,_,_,h=>by simp only[aH]at h;subst h;rfl
 |.bool,_,_,h=>by simp only[aH]at h;subst h;rfl
 |.str,_,_,h=>by simp only[aH]at h;subst h;rfl
 |.sl _,_,_,h=>by simp only[aH]at h;obtain⟨v,rfl,_⟩:=h;rfl
 |.pair a b,x,_,h=>by
  simp only[aH]at h
  obtain⟨us,ws,rfl,h1,h2⟩:=h
  rw[List.length_append,aH.len h1,aH.len h2];rfl
 |.one k,x,_,h=>by
  simp only[aH]at h
  exact aH.len (k:=k) h
 |.mp _ _,_,_,h=>by simp only[aH]at h;obtain⟨A,rfl,_⟩:=h;rfl
theorem K.iP:∀k:K,0<k.sz
 |.int _=>Nat.one_pos
 |.bool=>Nat.one_pos
 |.str=>Nat.one_pos
 |.sl _=>Nat.one_pos
 |.pair a _=>Nat.lt_of_lt_of_le (K.iP a) (Nat.le_add_right _ _)
 |.one k=>K.iP k
 |.mp _ _=>Nat.one_pos
theorem aH.one:∀{k:K} {x:k.T} {vs:List Value},aH Z w k x vs→∀u∈vs,u.oneCell'=true
 |.int _,_,_,h=>by simp only[aH]at h;subst h;simp[Value.oneCell']
 |.bool,_,_,h=>by simp only[aH]at h;subst h;simp[Value.oneCell']
 |.str,_,_,h=>by simp only[aH]at h;subst h;simp[Value.oneCell']
 |.sl _,_,_,h=>by simp only[aH]at h;obtain⟨v,rfl,A,c,rfl,_⟩:=h;simp[Value.oneCell']
 |.pair a b,x,_,h=>by
  simp only[aH]at h
  obtain⟨us,ws,rfl,h1,h2⟩:=h
  intro u hu
  rcases List.mem_append.1 hu with hu|hu
  ·exact aH.one h1 u hu
  ·exact aH.one h2 u hu
 |.one k,x,_,h=>by
  simp only[aH]at h
  exact aH.one (k:=k) h
 |.mp _ _,_,_,h=>by simp only[aH]at h;obtain⟨A,rfl,_⟩:=h;simp[Value.oneCell']
theorem E2.imp{α β:Type}{ra ra':α→List Value→Prop}{rb rb':β→List Value→Prop}{pa pb:Bool}(ha:∀x vs,ra x vs→ra' x vs)(hb:∀x vs,rb x vs→rb' x vs){es:List (α×β)}{cc:List MapEntry}(h:E2 ra rb pa pb es cc):E2 ra' rb' pa pb es cc :=
 ⟨h.1,fun i x e h1 h2=>by obtain⟨⟨a,b⟩,c,d⟩:=h.2 i x e h1 h2;exact⟨⟨ha _ _ a,b⟩,hb _ _ c,d⟩⟩
theorem aH.mono(hz:∀b,Z b→Z' b)(hs:cG Z w w'):∀{k:K} {x:k.T} {vs:List Value},aH Z w k x vs→aH Z' w' k x vs
 |.int _,_,_,h=>h
 |.bool,_,_,h=>h
 |.str,_,_,h=>h
 |.sl k,xs,_,h=>by
  simp only[aH]at h ⊢
  obtain⟨v,rfl,A,c,rfl,hl,hn,he⟩:=h
  refine⟨_,rfl,A,c,rfl,hl,hn,fun i x hx=>?_⟩
  obtain⟨a,us,ha,YY,hr,hc⟩:=he i x hx
  refine⟨a,us,ha,hz _ YY,aH.mono hz hs hr,fun j u hu=>?_⟩
  rw[hs.cell (by rw[cJ];exact YY)]
  exact hc j u hu
 |.pair a b,x,_,h=>by
  simp only[aH]at h ⊢
  obtain⟨us,ws,rfl,h1,h2⟩:=h
  exact⟨us,ws,rfl,aH.mono hz hs h1,aH.mono hz hs h2⟩
 |.one k,x,_,h=>by
  simp only[aH]at h ⊢
  exact aH.mono hz hs (k:=k) h
 |.mp kk vk,es,_,h=>by
  simp only[aH]at h ⊢
  obtain⟨A,rfl,h⟩:=h
  refine⟨A,rfl,h.imp (fun h=>h) fun⟨m,cc,clock,h1,h2,h3,h4⟩=>⟨m,cc,clock,h1,hz _ h2,(hs m h2).trans h3,h4.imp (fun _ _ h=>aH.mono hz hs h) (fun _ _ h=>aH.mono hz hs h)⟩⟩
def Tj:Value→Nat
 |.pointer (some a)=>a.block
 |.slice (some a) _ _=>a.block
 |_=>0
def ob:Value→Option Nat
 |.pointer (some a)=>some a.block
 |.slice (some a) _ c=>if c=0 then none else some a.block
 |.map (some m)=>some m
 |_=>none
mutual
def aw(Z:Nat→Prop)(ψ:Nat→Value)(h:Nat→Option Ob)(w:World):AV→Value→Prop
 |.no,_=>True
 |.bool b,v=>v=.bool b
 |.int k n,v=>v=.int k n
 |.str s,v=>v=.string s
 |.lY,v=>v=.pointer none
 |.gu,v=>v=.slice none 0 0
 |.ref id s i off,v=>∃a,v=.pointer (some a)∧(h id≠none→a=⟨Tj (ψ id),i*s+off,none⟩)
 |.fp k x off,v=>∃a us,v=.pointer (some a)∧Z a.block∧aH Z w k x us∧∀(j:Nat) u,us[off+j]? = some u→w.cell? (a.add j)=some u
 |.sl ex k xs,v=>aH Z w (.sl k) xs [v]∧(ex=true→∃A c,v=.slice A c c)
 |.mp kk vk es,v=>aH Z w (.mp kk vk) es [v]
 |.bO id,v=>(v.cells=#[v]∧v.oneCell'=true)∧(h id≠none→v=ψ id)
 |.fn f cap,v=>∃vs,v=.func (.func f) #[] vs∧ar Z ψ h w cap vs.toList
 |.agg cs,v=>∃vs,v=.agg vs∧ar Z ψ h w cs vs.toList
 |.nW cs,v=>∃vs,v=.tuple vs∧ar Z ψ h w cs vs.toList
def ar(Z:Nat→Prop)(ψ:Nat→Value)(h:Nat→Option Ob)(w:World):List AV→List Value→Prop
 |[],vs=>vs=[]
 |a::r,vs=>∃v us,vs=v::us∧aw Z ψ h w a v∧ar Z ψ h w r us
end
mutual
def aK(p:Nat→Prop):AV→Prop
 |.ref id _ _ _=>p id
 |.bO id=>p id
 |.fn _ cap=>aE p cap
 |.agg cs=>aE p cs
 |.nW vs=>aE p vs
 |.no=>True
 |.bool _=>True
 |.int _ _=>True
 |.str _=>True
 |.lY=>True
 |.gu=>True
 |.fp _ _ _=>True
 |.sl _ _ _=>True
 |.mp _ _ _=>True
def aE(p:Nat→Prop):List AV→Prop
 |[]=>True
 |v::r=>aK p v∧aE p r
end
section
variable {Z Z':Nat→Prop} {w w':World} {ψ ψ':Nat→Value} {h h':Nat→Option Ob} {p:Nat→Prop}
mutual
theorem aw.move(hz:∀b,Z b→Z' b)(hs:cG Z w w')(hh:∀id,p id→h' id≠none→h id≠none∧ψ' id=ψ id):∀{a:AV} {v:Value},aK p a→aw Z ψ h w a v→aw Z' ψ' h' w' a v
 |.no,_,_,_=>by simp only[aw]
 |.bool b,_,_,hr=>by simpa only[aw] using hr
 |.int k n,_,_,hr=>by simpa only[aw] using hr
 |.str s,_,_,hr=>by simpa only[aw] using hr
 |.lY,_,_,hr=>by simpa only[aw] using hr
 |.gu,_,_,hr=>by simpa only[aw] using hr
 |.ref id s i off,_,hm,hr=>by
  simp only[aw,aK]at hr hm ⊢
  obtain⟨a,rfl,ha⟩:=hr
  refine⟨a,rfl,fun hn=>?_⟩
  obtain⟨h1,h2⟩:=hh id hm hn
  rw[h2];exact ha h1
 |.fp k x off,_,_,hr=>by
  simp only[aw]at hr ⊢
  obtain⟨a,us,rfl,YY,hk,hc⟩:=hr
  refine⟨a,us,rfl,hz _ YY,hk.mono hz hs,fun j u hu=>?_⟩
  rw[hs.cell (by rw[cJ];exact YY)]
  exact hc j u hu
 |.sl ex k xs,_,_,hr=>by
  simp only[aw]at hr ⊢
  exact⟨aH.mono hz hs hr.1,hr.2⟩
 |.mp kk vk es,_,_,hr=>by
  simp only[aw]at hr ⊢
  exact aH.mono hz hs hr
 |.bO id,_,hm,hr=>by
  simp only[aw,aK]at hr hm ⊢
  refine⟨hr.1,fun hn=>?_⟩
  obtain⟨h1,h2⟩:=hh id hm hn
  rw[h2];exact hr.2 h1
 |.fn f cap,_,hm,hr=>by
  simp only[aw,aK]at hr hm ⊢
  obtain⟨vs,rfl,hl⟩:=hr
  exact⟨vs,rfl,ar.move hz hs hh hm hl⟩
 |.agg cs,_,hm,hr=>by
  simp only[aw,aK]at hr hm ⊢
  obtain⟨vs,rfl,hl⟩:=hr
  exact⟨vs,rfl,ar.move hz hs hh hm hl⟩
 |.nW cs,_,hm,hr=>by
  simp only[aw,aK]at hr hm ⊢
  obtain⟨vs,rfl,hl⟩:=hr
  exact⟨vs,rfl,ar.move hz hs hh hm hl⟩
theorem ar.move(hz:∀b,Z b→Z' b)(hs:cG Z w w')(hh:∀id,p id→h' id≠none→h id≠none∧ψ' id=ψ id):∀{a:List AV} {v:List Value},aE p a→ar Z ψ h w a v→ar Z' ψ' h' w' a v
 |[],_,_,hr=>by simpa only[ar] using hr
 |a::r,_,hm,hr=>by
  simp only[ar,aE]at hr hm ⊢
  obtain⟨v,us,rfl,h1,h2⟩:=hr
  exact⟨v,us,rfl,aw.move hz hs hh hm.1 h1,ar.move hz hs hh hm.2 h2⟩
end
mutual
theorem aK.top:∀a:AV,aK (fun _=>True) a
 |.no=>by simp only[aK]
 |.bool b=>by simp only[aK]
 |.int k n=>by simp only[aK]
 |.str s=>by simp only[aK]
 |.lY=>by simp only[aK]
 |.gu=>by simp only[aK]
 |.ref id s i off=>by simp only[aK]
 |.fp k x off=>by simp only[aK]
 |.sl ex k xs=>by simp only[aK]
 |.mp kk vk es=>by simp only[aK]
 |.bO id=>by simp only[aK]
 |.fn f cap=>by simp only[aK];exact aE.top cap
 |.agg cs=>by simp only[aK];exact aE.top cs
 |.nW cs=>by simp only[aK];exact aE.top cs
theorem aE.top:∀a:List AV,aE (fun _=>True) a
 |[]=>by simp only[aE]
 |a::r=>by simp only[aE];exact⟨aK.top a,aE.top r⟩
end
theorem aw.less(hz:∀b,Z b→Z' b)(hs:cG Z w w')(hh:∀id,h' id≠none→h id≠none∧ψ' id=ψ id){a:AV}{v:Value}(hr:aw Z ψ h w a v):aw Z' ψ' h' w' a v :=
 aw.move (p:=fun _=>True) hz hs (fun id _ hn=>hh id hn) (aK.top a) hr
theorem ar.less(hz:∀b,Z b→Z' b)(hs:cG Z w w')(hh:∀id,h' id≠none→h id≠none∧ψ' id=ψ id){a:List AV}{v:List Value}(hr:ar Z ψ h w a v):ar Z' ψ' h' w' a v :=
 ar.move (p:=fun _=>True) hz hs (fun id _ hn=>hh id hn) (aE.top a) hr
theorem ar.length:∀{a:List AV} {v:List Value},ar Z ψ h w a v→a.length=v.length
 |[],_,hr=>by simp only[ar]at hr;subst hr;rfl
 |a::r,_,hr=>by
  simp only[ar]at hr
  obtain⟨v,us,rfl,_,h2⟩:=hr
  simp[ar.length h2]
theorem ar.get:∀{a:List AV} {v:List Value} (i:Nat) {x:AV},ar Z ψ h w a v→a[i]? = some x→∃u,v[i]? = some u∧aw Z ψ h w x u
 |[],_,i,x,_,hx=>by simp at hx
 |a::r,_,0,x,hr,hx=>by
  simp only[ar]at hr
  obtain⟨v,us,rfl,h1,h2⟩:=hr
  simp only[List.getElem?_cons_zero,Option.some.injEq]at hx;subst hx
  exact⟨v,rfl,h1⟩
 |a::r,_,i+1,x,hr,hx=>by
  simp only[ar]at hr
  obtain⟨v,us,rfl,h1,h2⟩:=hr
  obtain⟨u,hu,hr⟩:=ar.get i h2 (by simpa using hx)
  exact⟨u,by simpa using hu,hr⟩
theorem ar.append:∀{a b:List AV} {v u:List Value},ar Z ψ h w a v→ar Z ψ h w b u→ar Z ψ h w (a++b) (v++u)
 |[],b,_,u,hr,hb=>by simp only[ar]at hr;subst hr;exact hb
 |a::r,b,_,u,hr,hb=>by
  simp only[ar]at hr
  obtain⟨v,us,rfl,h1,h2⟩:=hr
  simp only[List.cons_append,ar]
  exact⟨v,us++u,rfl,h1,ar.append h2 hb⟩
theorem ar.split:∀{a b:List AV} {v:List Value},ar Z ψ h w (a++b) v→∃us ws,v=us++ws∧ar Z ψ h w a us∧ar Z ψ h w b ws
 |[],b,v,hr=>⟨[],v,rfl,by simp only[ar],hr⟩
 |a::r,b,v,hr=>by
  simp only[List.cons_append,ar]at hr
  obtain⟨x,us,rfl,h1,h2⟩:=hr
  obtain⟨jv,ws,rfl,h3,h4⟩:=ar.split h2
  exact⟨x::jv,ws,rfl,by simp only[ar];exact⟨x,jv,rfl,h1,h3⟩,h4⟩
theorem ar.drop(n:Nat){a:List AV}{v:List Value}(hr:ar Z ψ h w a v):ar Z ψ h w (a.drop n) (v.drop n):=by
 by_cases hn:n≤a.length
 ·have sd:ar Z ψ h w (a.take n++a.drop n) v:=by rw[List.take_append_drop];exact hr
  obtain⟨us,ws,rfl,h1,h2⟩:=ar.split sd
  have hl:=h1.length
  rw[List.length_take,Nat.min_eq_left hn]at hl
  rw[hl,List.drop_left];rw[←hl];exact h2
 ·have:=hr.length
  rw[List.drop_eq_nil_of_le (by omega),List.drop_eq_nil_of_le (by omega)];simp only[ar]
theorem ar.take(n:Nat){a:List AV}{v:List Value}(hr:ar Z ψ h w a v):ar Z ψ h w (a.take n) (v.take n):=by
 by_cases hn:n≤a.length
 ·have sd:ar Z ψ h w (a.take n++a.drop n) v:=by rw[List.take_append_drop];exact hr
  obtain⟨us,ws,rfl,h1,h2⟩:=ar.split sd
  have hl:=h1.length
  rw[List.length_take,Nat.min_eq_left hn]at hl
  conv=>rhs;rw[hl,List.take_left]
  exact h1
 ·have:=hr.length
  rw[List.take_of_length_le (by omega),List.take_of_length_le (by omega)];exact hr
theorem ar.set:∀{a:List AV} {v:List Value} (i:Nat) {x:AV} {u:Value},ar Z ψ h w a v→aw Z ψ h w x u→ar Z ψ h w (a.set i x) (v.set i u)
 |[],_,i,x,u,hr,_=>by simp only[ar]at hr;subst hr;simp only[List.set_nil,ar]
 |a::r,_,0,x,u,hr,hx=>by
  simp only[ar]at hr
  obtain⟨v,us,rfl,h1,h2⟩:=hr
  simp only[List.set_cons_zero,ar];exact⟨u,us,rfl,hx,h2⟩
 |a::r,_,i+1,x,u,hr,hx=>by
  simp only[ar]at hr
  obtain⟨v,us,rfl,h1,h2⟩:=hr
  simp only[List.set_cons_succ,ar];exact⟨v,_,rfl,h1,ar.set i h2 hx⟩
theorem iI:∀{k:K} {x:k.T} {vs:List Value},aH Z w k x vs→ar Z ψ h w (enc k x) vs
 |.int _,_,_,hr=>by simp only[aH]at hr;subst hr;simp[enc,ar,aw]
 |.bool,_,_,hr=>by simp only[aH]at hr;subst hr;simp[enc,ar,aw]
 |.str,_,_,hr=>by simp only[aH]at hr;subst hr;simp[enc,ar,aw]
 |.sl k,xs,_,hr=>by
  have sd:=hr
  simp only[aH]at sd
  obtain⟨v,rfl,_⟩:=sd
  simp only[enc,ar,aw]
  exact⟨v,[],rfl,⟨hr,by simp⟩,rfl⟩
 |.pair a b,x,_,hr=>by
  simp only[aH]at hr
  obtain⟨us,ws,rfl,h1,h2⟩:=hr
  simp only[enc]
  exact ar.append (iI h1) (iI h2)
 |.one k,x,_,hr=>by
  simp only[aH]at hr
  simp only[enc]
  exact iI (k:=k) hr
 |.mp kk vk,es,_,hr=>by
  have sd:=hr
  simp only[aH]at sd
  obtain⟨A,rfl,_⟩:=sd
  simp only[enc,ar,aw]
  exact⟨_,[],rfl,hr,rfl⟩
theorem ON{k:K}{v:Value}(hr:aw Z ψ h w .gu v):aH Z w (.sl k) [] [v]:=by
 simp only[aw]at hr
 subst hr
 simp only[aH]
 exact⟨_,rfl,none,0,rfl,Nat.le_refl _,fun _=>rfl,fun i x hx=>by simp at hx⟩
theorem zM:∀{k:K} {cs:List AV} {x:k.T} {r:List AV} {vs:List Value},dec k cs=some (x,r)→ar Z ψ h w cs vs→∃us ws,vs=us++ws∧aH Z w k x us∧ar Z ψ h w r ws
 |.int ik,cs,x,r,vs,hd,hr=>by
  simp only[dec]at hd
  unfold EW at hd
  split at hd
  ·split at hd
   ·rename_i he
    subst he
    cases hd
    simp only[ar,aw]at hr
    obtain⟨v,us,rfl,rfl,h2⟩:=hr
    exact⟨[_],us,rfl,by simp only[aH],h2⟩
   ·cases hd
  ·cases hd
 |.bool,cs,x,r,vs,hd,hr=>by
  simp only[dec]at hd
  unfold zJ at hd
  split at hd
  ·cases hd
   simp only[ar,aw]at hr
   obtain⟨v,us,rfl,rfl,h2⟩:=hr
   exact⟨[_],us,rfl,by simp only[aH],h2⟩
  ·cases hd
 |.str,cs,x,r,vs,hd,hr=>by
  simp only[dec]at hd
  unfold EX at hd
  split at hd
  ·cases hd
   simp only[ar,aw]at hr
   obtain⟨v,us,rfl,rfl,h2⟩:=hr
   exact⟨[_],us,rfl,by simp only[aH],h2⟩
  ·cases hd
 |.sl k,cs,x,r,vs,hd,hr=>by
  simp only[dec]at hd
  unfold Ld at hd
  split at hd
  ·split at hd
   ·rename_i he
    subst he
    cases hd
    simp only[ar]at hr
    obtain⟨v,us,rfl,h1,h2⟩:=hr
    simp only[aw]at h1
    exact⟨[_],us,rfl,h1.1,h2⟩
   ·cases hd
  ·cases hd
   simp only[ar]at hr
   obtain⟨v,us,rfl,h1,h2⟩:=hr
   exact⟨[_],us,rfl,ON h1,h2⟩
  ·cases hd
 |.pair a b,cs,x,r,vs,hd,hr=>by
  simp only[dec]at hd
  split at hd
  ·rename_i x1 r1 h1
   split at hd
   ·rename_i y1 r2 h2
    cases hd
    obtain⟨us,ws,rfl,k1,k2⟩:=zM h1 hr
    obtain⟨jv,ws',rfl,k3,k4⟩:=zM h2 k2
    exact⟨us++jv,ws',by rw[List.append_assoc],by simp only[aH];exact⟨us,jv,rfl,k1,k3⟩,k4⟩
   ·cases hd
  ·cases hd
 |.one k,cs,x,r,vs,hd,hr=>by
  simp only[dec]at hd
  obtain⟨us,ws,e,k1,k2⟩:=zM (k:=k) hd hr
  exact⟨us,ws,e,by simp only[aH];exact k1,k2⟩
 |.mp kk vk,cs,x,r,vs,hd,hr=>by
  simp only[dec]at hd
  unfold Le at hd
  split at hd
  ·split at hd
   ·rename_i he
    obtain⟨rfl,rfl⟩:=he
    cases hd
    simp only[ar]at hr
    obtain⟨v,us,rfl,h1,h2⟩:=hr
    simp only[aw]at h1
    exact⟨[_],us,rfl,h1,h2⟩
   ·cases hd
  ·cases hd
theorem dL{k:K}{cs:List AV}{x:k.T}{vs:List Value}(hd:ep k cs=some x)(hr:ar Z ψ h w cs vs):aH Z w k x vs:=by
 unfold ep at hd
 split at hd
 ·rename_i x' h1
  cases hd
  obtain⟨us,ws,rfl,k1,k2⟩:=zM h1 hr
  simp only[ar]at k2
  subst k2
  rw[List.append_nil];exact k1
 ·cases hd
theorem ma{k:K}{x:k.T}{v:Value}(hr:aH Z w k x v.cells.toList)(hp:k.isAgg=true→∃vs,v=.agg vs)(hn:k.isAgg=false→v.cells=#[v]):aw Z ψ h w (cv k x) v:=by
 cases k with
 |int ik=>rw[hn rfl]at hr;simp only[aH]at hr;simp only[cv,aw];simpa using hr
 |bool=>rw[hn rfl]at hr;simp only[aH]at hr;simp only[cv,aw];simpa using hr
 |str=>rw[hn rfl]at hr;simp only[aH]at hr;simp only[cv,aw];simpa using hr
 |sl k=>rw[hn rfl]at hr;simp only[cv,aw];exact⟨hr,by simp⟩
 |mp kk vk=>rw[hn rfl]at hr;simp only[cv,aw];exact hr
 |pair a b =>
  obtain⟨vs,rfl⟩:=hp rfl
  simp only[cv,aw]
  exact⟨vs,rfl,iI hr⟩
 |one k =>
  obtain⟨vs,rfl⟩:=hp rfl
  simp only[cv,aw]
  exact⟨vs,rfl,iI hr⟩
end
end Go.Vs
namespace Go.Vs
theorem Heap.iQ{n m:Nat}(bp:m≠n):∀h:Heap,(h.del n).get m=h.get m
 |[]=>rfl
 |(i,o)::r=>by
  simp only[Heap.del]
  split
  ·rename_i hi
   rw[Heap.iQ bp r]
   simp only[Heap.get]
   rw[if_neg (by omega)]
  ·simp only[Heap.get]
   split
   ·rfl
   ·exact Heap.iQ bp r
theorem Heap.gT(n:Nat):∀h:Heap,(h.del n).get n=none
 |[]=>rfl
 |(i,o)::r=>by
  simp only[Heap.del]
  split
  ·exact Heap.gT n r
  ·rename_i hi
   simp only[Heap.get]
   rw[if_neg hi];exact Heap.gT n r
theorem Heap.E3(h:Heap)(n:Nat)(o:Ob):(h.set n o).get n=some o:=by simp[Heap.set,Heap.get]
theorem Heap.JC{n m:Nat}(bp:m≠n)(h:Heap)(o:Ob):(h.set n o).get m=h.get m:=by
 simp only[Heap.set,Heap.get]
 rw[if_neg (by omega)]
 exact Heap.iQ bp h
theorem Heap.u5{n m:Nat}{h:Heap}{o:Ob}(hg:(h.del n).get m=some o):h.get m=some o∧m≠n:=by
 by_cases bp:m=n
 ·subst bp;rw[Heap.gT]at hg;cases hg
 ·rw[Heap.iQ bp]at hg;exact⟨hg,bp⟩
theorem Heap.get_append(a b:Heap)(n:Nat):(a++b).get n=(match a.get n with|some o=>some o|none=>b.get n):=by
 induction a with
 |nil=>rfl
 |cons p r ih =>
  obtain⟨i,o⟩:=p
  simp only[List.cons_append,Heap.get]
  split
  ·rfl
  ·exact ih
def nI(Z:Nat→Prop)(w:World)(k:K)(xs:List k.T)(vs:List Value):Prop :=
 ∀(i:Nat) (x:k.T),xs[i]? = some x→aH Z w k x ((vs.drop (i*k.sz)).take k.sz)
abbrev Hp:=Nat→Option Ob
def dG(w:World)(e:TypeId)(size:Nat)(v:Value)(n:Nat)(vs:List Value):Prop :=
  vs.length=n*size ∧
  ((n=0∧∃A,v=.slice A 0 0) ∨
   ∃g cap cur,v=.slice (some ⟨g,0,none⟩) n cap∧0<cap∧w.heap[g]? = some (.cells cur e (0,0))∧n≤cap∧cap≤maxLen∧cur.size=cap*size∧cur.toList.take (n*size)=vs)
theorem dG.of{w:World}{base e size n:Nat}{v:Value}{vs:List Value}(h:w.ownsRow base e size v n vs):dG w e size v n vs:=by
 obtain⟨h1,h2⟩:=h
 refine⟨h1,?_⟩
 rcases h2 with⟨rfl,h2⟩|⟨g,cap,cur,rfl,_,h3,h4,h5,h6,h7⟩
 ·exact .inl ⟨h2,none,rfl⟩
 ·by_cases hc:cap=0
  ·subst hc
   have:n=0:=by omega
   subst this
   exact .inl ⟨rfl,_,rfl⟩
  ·exact .inr ⟨g,cap,cur,rfl,by omega,h3,h4,h5,h6,h7⟩
theorem dG.slice{w:World}{e size n:Nat}{v:Value}{vs:List Value}(h:dG w e size v n vs):∃A c,v=.slice A n c:=by
 rcases h.2 with⟨h0,A,rfl⟩|⟨g,cap,cur,rfl,_⟩
 ·subst h0;exact⟨A,0,rfl⟩
 ·exact⟨_,_,rfl⟩
theorem dG.one{w:World}{e size n:Nat}{v:Value}{vs:List Value}(h:dG w e size v n vs):v.cells=#[v]∧v.oneCell'=true:=by
 obtain⟨A,c,rfl⟩:=h.slice
 exact⟨rfl,by simp[Value.oneCell']⟩
theorem dG.kept{w w':World}{e size n:Nat}{v:Value}{vs:List Value}(ho:dG w e size v n vs)(hk:∀g,ob v=some g→w'.heap[g]? = w.heap[g]?):dG w' e size v n vs:=by
 obtain⟨h1,h2⟩:=ho
 refine⟨h1,?_⟩
 rcases h2 with h2|⟨g,cap,cur,rfl,hc,hh,r⟩
 ·exact .inl h2
 ·exact .inr ⟨g,cap,cur,rfl,hc,(hk g (by simp only[ob];rw[if_neg (by omega)])).trans hh,r⟩
def jV(Z:Nat→Prop)(w:World):(ok:OK)→Value→ok.T→Prop
 |.row ty k,v,xs=>∃vs,dG w ty k.sz v xs.length vs∧nI Z w k xs vs
 |.map kk vk,v,es=>∃m cc clock,v=.map (some m)∧w.heap[m]? = some (.map cc clock)∧E2 (aH Z w kk) (aH Z w vk) kk.isAgg vk.isAgg es cc.toList∧cc.toList.Pairwise (fun a b=>a.born≠b.born)∧∀e∈cc.toList,e.born<clock
 |.iter kk vk,v,x=>∃r m since seen cc clock,v=.pointer (some ⟨r,0,none⟩)∧w.heap[r]? = some (.mapIter (some m) since seen clock)∧Z m∧w.heap[m]? = some (.map cc clock) ∧
   cc.toList.Pairwise (fun a b=>a.born≠b.born)∧since=clock∧(∀e∈cc.toList,e.born<clock)∧E2 (aH Z w kk) (aH Z w vk) kk.isAgg vk.isAgg x.2 (cc.toList.filter fun e => !seen.contains e.born) ∧
   (match x.1 with|none=>True|some c=>∃e∈cc.toList,seen.back? = some e.born∧E2 (aH Z w kk) (aH Z w vk) kk.isAgg vk.isAgg [c] [e])
 |.n6,v,x=>∃r,v=.pointer (some ⟨r,0,none⟩)∧w.heap[r]? = some (.stringIter x.1 x.2)
theorem jV.lt{Z:Nat→Prop}{w:World}:∀{ok:OK} {v:Value} {x:ok.T} {b:Nat},jV Z w ok v x→ob v=some b→b<w.heap.size
 |.row ty k,v,xs,b,h,hb=>by
  obtain⟨vs,⟨_,h⟩,_⟩:=h
  rcases h with⟨_,A,rfl⟩|⟨g,cap,cur,rfl,hc,h2,_⟩
  ·cases A<;>simp[ob]at hb
  ·simp only[ob]at hb
   rw[if_neg (by omega)]at hb
   cases hb
   exact(Array.getElem?_eq_some_iff.1 h2).1
 |.map _ _,v,_,b,h,hb=>by
  obtain⟨m,cc,clock,rfl,h2,_⟩:=h
  simp only[ob,Option.some.injEq]at hb;subst hb
  exact(Array.getElem?_eq_some_iff.1 h2).1
 |.iter _ _,v,_,b,h,hb=>by
  obtain⟨r,m,since,seen,cc,clock,rfl,h2,_⟩:=h
  simp only[ob,Option.some.injEq]at hb;subst hb
  exact(Array.getElem?_eq_some_iff.1 h2).1
 |.n6,v,_,b,h,hb=>by
  obtain⟨r,rfl,h2⟩:=h
  simp only[ob,Option.some.injEq]at hb;subst hb
  exact(Array.getElem?_eq_some_iff.1 h2).1
theorem jV.one{Z:Nat→Prop}{w:World}:∀{ok:OK} {v:Value} {x:ok.T},jV Z w ok v x→v.cells=#[v]∧v.oneCell'=true
 |.row ty k,v,xs,h=>by
  obtain⟨vs,h,_⟩:=h
  obtain⟨A,c,rfl⟩:=h.slice
  exact⟨rfl,by simp[Value.oneCell']⟩
 |.map _ _,v,_,h=>by obtain⟨m,cc,clock,rfl,_⟩:=h;exact⟨rfl,by simp[Value.oneCell']⟩
 |.iter _ _,v,_,h=>by obtain⟨r,m,since,seen,cc,clock,rfl,_⟩:=h;exact⟨rfl,by simp[Value.oneCell']⟩
 |.n6,v,_,h=>by obtain⟨r,rfl,_⟩:=h;exact⟨rfl,by simp[Value.oneCell']⟩
theorem jV.kept{Z Z':Nat→Prop}{w w':World}(hz:∀b,Z b→Z' b)(sm:cG Z w w'):∀{ok:OK} {v:Value} {x:ok.T},(∀g,ob v=some g→w'.heap[g]? = w.heap[g]?)→jV Z w ok v x→jV Z' w' ok v x
 |.row ty k,v,xs,hk,h=>by
  obtain⟨vs,h1,h2⟩:=h
  exact⟨vs,h1.kept hk,fun i x hx=>(h2 i x hx).mono hz sm⟩
 |.map _ _,v,_,hk,h=>by
  obtain⟨m,cc,clock,rfl,h2,h3,h4⟩:=h
  exact⟨m,cc,clock,rfl,(hk m rfl).trans h2,h3.imp (fun _ _ h=>h.mono hz sm) (fun _ _ h=>h.mono hz sm),h4⟩
 |.iter _ _,v,x,hk,h=>by
  obtain⟨r,m,since,seen,cc,clock,rfl,h2,h3,h4,h5,h6,h7,h8,h9⟩:=h
  refine⟨r,m,since,seen,cc,clock,rfl,(hk r rfl).trans h2,hz _ h3,(sm m h3).trans h4,h5,h6,h7,h8.imp (fun _ _ h=>h.mono hz sm) (fun _ _ h=>h.mono hz sm),?_⟩
  split
  ·trivial
  ·rename_i c hc
   rw[hc]at h9
   obtain⟨e,he,mN,zm⟩:=h9
   exact⟨e,he,mN,zm.imp (fun _ _ h=>h.mono hz sm) (fun _ _ h=>h.mono hz sm)⟩
 |.n6,v,_,hk,h=>by
  obtain⟨r,rfl,h2⟩:=h
  exact⟨r,rfl,(hk r rfl).trans h2⟩
structure Good(Z:Nat→Prop)(ψ:Nat→Value)(h:Hp)(w:World)(B0:Nat)(O:Nat→Prop):Prop where
 box:∀id ty cs,h id=some (.box ty cs)→∃g vs,ψ id=.pointer (some ⟨g,0,none⟩)∧w.heap[g]? = some (.cells vs ty (0,0))∧ar Z ψ h w cs vs.toList∧∀u∈vs.toList,u.oneCell'=true
 row:∀id ok x,h id=some (.own ok x)→jV Z w ok (ψ id) x
 live:∀id g,h id≠none→ob (ψ id)=some g→¬Z g∧(B0≤g∨O g)
 apart:∀id mR g,h id≠none→h mR≠none→ob (ψ id)=some g→ob (ψ mR)=some g→id=mR
 j5:∀b,Z b→b<w.heap.size
variable {Z Z':Nat→Prop} {ψ ψ':Nat→Value} {h h':Hp} {w w':World} {B0:Nat} {O:Nat→Prop}
theorem Good.sub(g:Good Z ψ h w B0 O)(hs:∀id o,h' id=some o→h id=some o):Good Z ψ h' w B0 O:=by
 have hn:∀id,h' id≠none→h id≠none:=fun id hn=>by
  obtain⟨o,ho⟩:=Option.ne_none_iff_exists'.1 hn
  rw[hs id o ho];simp
 refine⟨fun id ty cs hb=>?_,fun id ok x hb=>g.row id ok x (hs _ _ hb),fun id b h1 h2=>g.live id b (hn id h1) h2,fun id mR b h1 h2 h3 h4=>g.apart id mR b (hn _ h1) (hn _ h2) h3 h4,g.j5⟩
 obtain⟨b,vs,h1,h2,h3,h4⟩:=g.box id ty cs (hs _ _ hb)
 exact⟨b,vs,h1,h2,ar.less (fun _ h=>h) (cG.refl _ _) (fun id bT=>⟨hn id bT,rfl⟩) h3,h4⟩
theorem Good.freeze(g:Good Z ψ h w B0 O)(hs:∀id o,h' id=some o→h id=some o)(hz:∀b,Z b→Z' b)
  (AG:∀b,Z' b→Z b∨∃id,h id≠none∧h' id=none∧ob (ψ id)=some b):Good Z' ψ h' w B0 O:=by
 have hn:∀id,h' id≠none→h id≠none:=fun id hn=>by
  obtain⟨o,ho⟩:=Option.ne_none_iff_exists'.1 hn
  rw[hs id o ho];simp
 have lt:∀id b,h id≠none→ob (ψ id)=some b→b<w.heap.size:=by
  intro id b h1 h2
  obtain⟨o,ho⟩:=Option.ne_none_iff_exists'.1 h1
  cases o with
  |box ty cs =>
   obtain⟨gg,vs,e1,e2,_⟩:=g.box id ty cs ho
   rw[e1]at h2;simp only[ob,Option.some.injEq]at h2;subst h2
   exact(Array.getElem?_eq_some_iff.1 e2).1
  |own ok x=>exact(g.row id ok x ho).lt h2
 refine⟨fun id ty cs hb=>?_,fun id ok x hb=>?_,fun id b h1 h2=>⟨fun YZ=>?_,(g.live id b (hn id h1) h2).2⟩,fun id mR b h1 h2 h3 h4=>g.apart id mR b (hn _ h1) (hn _ h2) h3 h4,fun b hb=>?_⟩
 ·obtain⟨b,vs,h1,h2,h3,h4⟩:=g.box id ty cs (hs _ _ hb)
  exact⟨b,vs,h1,h2,ar.less hz (cG.refl _ _) (fun id bT=>⟨hn id bT,rfl⟩) h3,h4⟩
 ·exact(g.row id ok x (hs _ _ hb)).kept hz (cG.refl _ _) (fun _ _=>rfl)
 ·rcases AG b YZ with h3|⟨mR,h3,h4,h5⟩
  ·exact(g.live id b (hn id h1) h2).1 h3
  ·have:=g.apart id mR b (hn id h1) h3 h2 h5
   subst this;exact h1 h4
 ·rcases AG b hb with h3|⟨mR,h3,h4,h5⟩
  ·exact g.j5 b h3
  ·exact lt mR b h3 h5
theorem u6{ty:TypeId}{k:K}{xs:List k.T}{v:Value}{vs:List Value}(ho:dG w ty k.sz v xs.length vs)(hv:nI Z w k xs vs)(hz:∀b,Z b→Z' b)(hb:∀b,ob v=some b→Z' b) :
  aH Z' w (.sl k) xs [v]:=by
 simp only[aH]
 refine⟨v,rfl,?_⟩
 obtain⟨hl,e⟩:=ho
 rcases e with⟨h0,A,rfl⟩|⟨g,cap,cur,rfl,JD,hh,hc,_,hs,adX⟩
 ·have:xs=[]:=List.eq_nil_of_length_eq_zero h0
  subst this
  exact⟨A,0,rfl,Nat.le_refl _,fun _=>rfl,fun i x hx=>by simp at hx⟩
 ·refine⟨some ⟨g,0,none⟩,cap,rfl,hc,fun e=>(by cases e),fun i x hx=>?_⟩
  have hi:i<xs.length:=(List.getElem?_eq_some_iff.1 hx).1
  refine⟨⟨g,0,none⟩,_,rfl,hb g (by simp only[ob];rw[if_neg (by omega)]),(hv i x hx).mono hz (cG.refl _ _),fun j u hu=>?_⟩
  rw[cz,Nat.zero_add]
  simp only[World.cell?,hh]
  rw[List.getElem?_take]at hu
  split at hu
  ·rename_i hj
   rw[List.getElem?_drop]at hu
   rw[←adX,List.getElem?_take]at hu
   split at hu
   ·simpa using hu
   ·cases hu
  ·cases hu
theorem DO{hh:Heap}{a:AV}{v:Value}(g:Good Z ψ hh.get w B0 O)(hz:∀b,Z b→Z' b)(hb:∀id b,a=.bO id→hh.get id≠none→ob (ψ id)=some b→Z' b)(hr:aw Z ψ hh.get w a v):aw Z' ψ hh.get w (cV hh a) v:=by
 unfold cV
 split
 ·rename_i id
  split
  ·rename_i ty k xs hg
   simp only[aw]at hr
   have hv:=hr.2 (by rw[hg];simp)
   subst hv
   obtain⟨vs,h1,h2⟩:=g.row id (.row ty k) xs hg
   simp only[aw]
   exact⟨u6 h1 h2 hz (fun b Wq=>hb id b rfl (by rw[hg];simp) Wq),by simp⟩
  ·rename_i kk vk es hg
   simp only[aw]at hr
   have hv:=hr.2 (by rw[hg];simp)
   subst hv
   obtain⟨m,cc,clock,h1,h2,h3,_⟩:=g.row id (.map kk vk) es hg
   simp only[aw,aH]
   refine⟨some m,by rw[h1],.inr ⟨m,cc,clock,rfl,hb id m rfl (by rw[hg];simp) (by rw[h1];rfl),h2,h3.imp (fun _ _ h=>h.mono hz (cG.refl _ _)) (fun _ _ h=>h.mono hz (cG.refl _ _))⟩⟩
  ·simp only[aw]
 ·exact hr.less hz (cG.refl _ _) (fun id bT=>⟨bT,rfl⟩)
theorem oi{hh:Heap}(g:Good Z ψ hh.get w B0 O)(hz:∀b,Z b→Z' b):∀{cs:List AV} {vs:List Value},(∀id b,AV.bO id∈cs→hh.get id≠none→ob (ψ id)=some b→Z' b)→ar Z ψ hh.get w cs vs→ar Z' ψ hh.get w (cs.map (cV hh)) vs
 |[],_,_,hr=>by simpa only[ar,List.map_nil] using hr
 |a::r,_,hb,hr=>by
  simp only[ar,List.map_cons]at hr ⊢
  obtain⟨v,us,rfl,h1,h2⟩:=hr
  exact⟨v,us,rfl,DO g hz (fun id b e=>hb id b (by rw[e];simp)) h1,oi g hz (fun id b e=>hb id b (List.mem_cons_of_mem _ e)) h2⟩
theorem MC(hh:Heap)(a:AV):∀id o,(drop1 hh a).get id=some o→hh.get id=some o:=by
 intro id o hg
 unfold drop1 at hg
 split at hg
 ·exact(Heap.u5 hg).1
 ·exact hg
theorem eJ:∀(cs:List AV) (hh:Heap),∀id o,(cS hh cs).get id=some o→hh.get id=some o
 |[],_,_,_,hg=>hg
 |c::r,hh,id,o,hg=>MC hh c id o (eJ r (drop1 hh c) id o hg)
theorem AH:∀(cs:List AV) (hh:Heap) (id:Nat),AV.bO id∈cs→(cS hh cs).get id=none
 |[],_,_,hm=>by simp at hm
 |c::r,hh,id,hm=>by
  simp only[cS]
  rcases List.mem_cons.1 hm with rfl|hm
  ·cases hg:(cS (drop1 hh (.bO id)) r).get id with
   |none=>rfl
   |some o =>
    have:=eJ r _ id o hg
    simp only[drop1,Heap.gT]at this;cases this
  ·exact AH r _ id hm
theorem o9:∀(cs:List AV) (hh:Heap) (id:Nat),AV.bO id∉cs→(cS hh cs).get id=hh.get id
 |[],_,_,_=>rfl
 |c::r,hh,id,hm=>by
  simp only[cS]
  rw[o9 r _ id (fun h=>hm (List.mem_cons_of_mem _ h))]
  unfold drop1
  split
  ·rename_i mR
   exact Heap.iQ (fun e=>hm (by rw[e];simp)) hh
  ·rfl
def qG(Z:Nat→Prop)(ψ:Nat→Value)(h:Hp)(cs:List AV):Nat→Prop:=fun b=>Z b∨∃id,AV.bO id∈cs∧h id≠none∧ob (ψ id)=some b
theorem iR{hh:Heap}(g:Good Z ψ hh.get w B0 O)(cs:List AV):Good (qG Z ψ hh.get cs) ψ (cS hh cs).get w B0 O :=
 g.freeze (eJ cs hh) (fun _ hb=>.inl hb) (fun b hb=>by
  rcases hb with hb|⟨id,h1,h2,h3⟩
  ·exact .inl hb
  ·exact .inr ⟨id,h2,AH cs hh id h1,h3⟩)
end Go.Vs
namespace Go.Vs
def Own(ψ:Nat→Value)(h:Hp)(b:Nat):Prop:=∃id,h id≠none∧ob (ψ id)=some b
structure dh(ψ:Nat→Value)(h:Hp)(w w':World):Prop where
 os:w'.os=w.os
 tape:w'.tape=w.tape
 output:w'.output=w.output
 size:w.heap.size≤w'.heap.size
 block:∀b,b<w.heap.size→¬Own ψ h b→w'.heap[b]? = w.heap[b]?
structure Next(Z:Nat→Prop)(ψ:Nat→Value)(h:Hp)(w:World)(B0:Nat)(O:Nat→Prop)(N:Nat→Prop)(Z':Nat→Prop)(ψ':Nat→Value)(h':Hp)(w':World):Prop where
 fX:∀b,Z b→Z' b
 eV:∀b,Z' b→Z b∨Own ψ h b∨w.heap.size≤b
 keep:dh ψ h w w'
 ids:∀id,h' id≠none→(h id≠none∧ψ' id=ψ id)∨N id
 eL:Good Z' ψ' h' w' B0 O
variable {Z Z':Nat→Prop} {ψ ψ':Nat→Value} {h h':Hp} {w w':World} {B0:Nat} {O:Nat→Prop} {N:Nat→Prop}
theorem dh.refl(ψ:Nat→Value)(h:Hp)(w:World):dh ψ h w w:=⟨rfl,rfl,rfl,Nat.le_refl _,fun _ _ _=>rfl⟩
theorem dh.same(k:dh ψ h w w')(g:Good Z ψ h w B0 O):cG Z w w':=fun b hb=>k.block b (g.j5 b hb) (fun⟨id,h1,h2⟩=>(g.live id b h1 h2).1 hb)
theorem Next.same(n:Next Z ψ h w B0 O N Z' ψ' h' w')(g:Good Z ψ h w B0 O):cG Z w w':=n.keep.same g
theorem Next.refl(g:Good Z ψ h w B0 O):Next Z ψ h w B0 O N Z ψ h w :=
 ⟨fun _ h=>h,fun _ h=>.inl h,dh.refl _ _ _,fun _ bT=>.inl ⟨bT,rfl⟩,g⟩
theorem Next.rep(n:Next Z ψ h w B0 O N Z' ψ' h' w')(g:Good Z ψ h w B0 O){a:AV}{v:Value}(hm:aK (fun id=>¬N id) a)(hr:aw Z ψ h w a v):aw Z' ψ' h' w' a v :=
 hr.move n.fX (n.same g) (fun id hp bT=>(n.ids id bT).resolve_right hp) hm
theorem Good.bX(g:Good Z ψ h w B0 O){b:Nat}(ho:Own ψ h b):b<w.heap.size:=by
 obtain⟨id,h1,h2⟩:=ho
 obtain⟨o,ho⟩:=Option.ne_none_iff_exists'.1 h1
 cases o with
 |box ty cs =>
  obtain⟨gg,vs,e1,e2,_⟩:=g.box id ty cs ho
  rw[e1]at h2;simp only[ob,Option.some.injEq]at h2;subst h2
  exact(Array.getElem?_eq_some_iff.1 e2).1
 |own ok x=>exact(g.row id ok x ho).lt h2
theorem Good.more(g:Good Z ψ h w B0 O)(k:dh ψ h w w')(tj:∀b,Own ψ h b→w'.heap[b]? = w.heap[b]?)
  (hold:∀id,¬N id→h' id=h id∧ψ' id=ψ id)
  (bu:∀id ty cs,h id=some (.box ty cs)→aE (fun i=>¬N i) cs)
  (OO:∀id ty cs,N id→h' id=some (.box ty cs)→∃g vs,ψ' id=.pointer (some ⟨g,0,none⟩)∧w'.heap[g]? = some (.cells vs ty (0,0))∧ar Z ψ' h' w' cs vs.toList∧∀u∈vs.toList,u.oneCell'=true)
  (oo:∀id ok x,N id→h' id=some (.own ok x)→jV Z w' ok (ψ' id) x)
  (AI:∀id b,N id→h' id≠none→ob (ψ' id)=some b→w.heap.size≤b)
  (JE:∀id mR b,N id→N mR→h' id≠none→h' mR≠none→ob (ψ' id)=some b→ob (ψ' mR)=some b→id=mR) (hB:B0≤w.heap.size) :
  Next Z ψ h w B0 O N Z ψ' h' w':=by
 have tc:∀id,h' id≠none→(h id≠none∧ψ' id=ψ id)∨N id:=fun id bT=>by
  by_cases hn:N id
  ·exact .inr hn
  ·obtain⟨e1,e2⟩:=hold id hn
   exact .inl ⟨by rwa [e1]at bT,e2⟩
 have sm:cG Z w w':=k.same g
 have yp:∀id b,¬N id→h' id≠none→ob (ψ' id)=some b→Own ψ h b:=fun id b hn h1 h2=>by
  obtain⟨e1,e2⟩:=hold id hn
  exact⟨id,by rwa [e1]at h1,by rwa [e2]at h2⟩
 refine⟨fun _ h=>h,fun _ h=>.inl h,k,tc,⟨fun id ty cs hb=>?_,fun id ok x hb=>?_,fun id b h1 h2=>?_,fun id mR b h1 h2 h3 h4=>?_,fun b hb=>Nat.lt_of_lt_of_le (g.j5 b hb) k.size⟩⟩
 ·by_cases hn:N id
  ·exact OO id ty cs hn hb
  ·obtain⟨e1,e2⟩:=hold id hn
   rw[e1]at hb
   obtain⟨gg,vs,h1,h2,h3,h4⟩:=g.box id ty cs hb
   have ho:Own ψ h gg:=⟨id,by rw[hb];simp,by rw[h1];rfl⟩
   exact⟨gg,vs,by rw[e2,h1],(tj gg ho).trans h2,h3.move (fun _ h=>h) sm (fun i hp bT=>(tc i bT).resolve_right hp) (bu id ty cs hb),h4⟩
 ·by_cases hn:N id
  ·exact oo id ok x hn hb
  ·obtain⟨e1,e2⟩:=hold id hn
   rw[e1]at hb
   rw[e2]
   exact(g.row id ok x hb).kept (fun _ h=>h) sm (fun gg MD=>tj gg ⟨id,by rw[hb];simp,MD⟩)
 ·by_cases hn:N id
  ·have:=AI id b hn h1 h2
   exact⟨fun hz=>by have:=g.j5 b hz;omega,.inl (by omega)⟩
  ·obtain⟨e1,e2⟩:=hold id hn
   rw[e1]at h1;rw[e2]at h2
   exact g.live id b h1 h2
 ·by_cases hn:N id<;>by_cases JF:N mR
  ·exact JE id mR b hn JF h1 h2 h3 h4
  ·have:=AI id b hn h1 h3
   have:=g.bX (yp mR b JF h2 h4);omega
  ·have:=AI mR b JF h2 h4
   have:=g.bX (yp id b hn h1 h3);omega
  ·obtain⟨e1,e2⟩:=hold id hn
   obtain⟨e3,e4⟩:=hold mR JF
   rw[e1]at h1;rw[e2]at h3;rw[e3]at h2;rw[e4]at h4
   exact g.apart id mR b h1 h2 h3 h4
end Go.Vs
namespace Go.Vs
variable {P:Program} {Z Z':Nat→Prop} {ψ ψ':Nat→Value} {h h':Hp} {w w':World} {B0:Nat} {O:Nat→Prop} {N:Nat→Prop}
theorem sf{α:Type}:∀(vs cs:List α) (off:Nat),off+vs.length≤cs.length→eu cs off vs=cs.take off++vs++cs.drop (off+vs.length)
 |[],cs,off,_=>by simp[eu]
 |v::r,cs,off,hl=>by
  simp only[List.length_cons]at hl
  simp only[eu]
  rw[sf r (cs.set off v) (off+1) (by rw[List.length_set];omega)]
  have h1:(cs.set off v).take (off+1)=cs.take off++[v]:=by
   rw[List.take_set,List.take_succ_eq_append_getElem (by omega),List.set_append_right _ _ (by rw[List.length_take];omega)]
   rw[List.length_take,Nat.min_eq_left (by omega)]
   simp
  have h2:(cs.set off v).drop (off+1+r.length)=cs.drop (off+(r.length+1)):=by
   rw[List.drop_set_of_lt (by omega)];congr 1;omega
  rw[h1,h2,List.append_assoc,List.append_assoc,List.append_assoc];rfl
theorem gE{t:TypeId}{b:Bool}(hb:DJ P t=some b):(isAgg t).run P w=.ok b w:=by
 unfold DJ at hb
 obtain⟨d,hd,rfl⟩:=Option.map_eq_some_iff.1 hb
 simp only[isAgg,Sem.run_bind,run_underlying hd,Result.andThen_ok]
 cases d<;>rfl
theorem tl{t:TypeId}{d:TypeDesc}(hd:P.underlying t=some d):∃i,P.info? t=some i:=by
 unfold Program.underlying at hd
 split at hd
 ·rename_i heq;exact⟨_,heq⟩
 ·rename_i heq;exact⟨_,heq⟩
 ·cases hd
theorem dE{t:TypeId}{i:TypeInfo}(hi:P.info? t=some i):(sizeOf t).run P w=.ok (P.cellsOf t) w:=by
 simp[sizeOf,typeInfo,hi,Program.cellsOf]
theorem yq{t:TypeId}{b:Bool}(hb:DJ P t=some b):∃i,P.info? t=some i:=by
 unfold DJ at hb
 obtain⟨d,hd,rfl⟩:=Option.map_eq_some_iff.1 hb
 exact tl hd
theorem j6{t:TypeId}{cs:List AV}{us:List Value}{a:Addr}{x:AV}(hr:ar Z ψ h w cs us)(hc:∀(j:Nat) u,us[j]? = some u→w.cell? (a.add j)=some u)(hx:eI P t cs=some x) :
  ∃V,(Instr.loadAt t (.pointer (some a))).run P w=.ok V w∧aw Z ψ h w x V:=by
 unfold eI at hx
 have hlen:=hr.length
 split at hx
 ·rename_i hb
  split at hx
  ·rename_i hl
   cases hx
   obtain⟨i,hi⟩:=yq hb
   refine⟨.agg (us.take (P.cellsOf t)).toArray,?_,by simp only[aw];exact⟨_,rfl,by simpa using hr.take (P.cellsOf t)⟩⟩
   have aM:(us.take (P.cellsOf t)).length=P.cellsOf t:=by rw[List.length_take];omega
   have hld:=run_loadCells_list (P:=P) w a (us.take (P.cellsOf t)) (fun j v hv=>hc j v (by
    rw[List.getElem?_take]at hv;split at hv
    ·exact hv
    ·cases hv))
   rw[aM]at hld
   simp[Instr.loadAt,Instr.sureAddr,loadVar,gE hb,dE hi,hld]
  ·cases hx
 ·rename_i hb
  split at hx
  ·rename_i c r
   cases hx
   simp only[ar]at hr
   obtain⟨v,jv,rfl,h1,h2⟩:=hr
   refine⟨v,?_,h1⟩
   have:=hc 0 v rfl
   rw[DN]at this
   simp[Instr.loadAt,Instr.sureAddr,loadVar,gE hb,this]
  ·cases hx
 ·cases hx
theorem lh{t:TypeId}{i:TypeInfo}(hi:P.info? t=some i)(g off:Nat)(V:Value)(cur:Array Value)(ty:TypeId)(hg:w.heap[g]? = some (.cells cur ty (0,0)))(hs:V.cells.size=P.cellsOf t)
  (hl:off+V.cells.size≤cur.size) (h1:∀v∈V.cells.toList,v.oneCell'=true) :
  (Instr.storeAt t (.pointer (some ⟨g,off,none⟩)) V).run P w=.ok () (w.setRow g (cur.toList.take off++V.cells.toList++cur.toList.drop (off+V.cells.size)).toArray):=by
 have u7:=run_storeCells_at P g off ty V.cells.toList 0 cur w hg (by simpa using hl) h1
 simp only[Nat.add_zero,Array.length_toList]at u7
 simp[Instr.storeAt,Instr.sureAddr,storeVar,dE hi,hs,u7]
end Go.Vs
namespace Go.Vs
variable {P:Program} {Z Z':Nat→Prop} {ψ ψ':Nat→Value} {h h':Hp} {w w':World} {B0:Nat} {O:Nat→Prop} {N:Nat→Prop}
def eC{α:Type}(f:Nat→α)(i:Nat)(v:α):Nat→α:=fun j=>if j=i then v else f j
theorem bq{α:Type}(f:Nat→α)(i:Nat)(v:α):eC f i v i=v:=by simp[eC]
theorem c7{α:Type}(f:Nat→α){i j:Nat}(v:α)(bp:j≠i):eC f i v j=f j:=by simp[eC,bp]
theorem dh.alloc(ψ:Nat→Value)(h:Hp)(w:World)(o:Obj):dh ψ h w (w.alloc o) :=
 ⟨rfl,rfl,rfl,by rw[World.size_alloc];omega,fun b hb _=>heap_alloc_old w o hb⟩
theorem AJ(g:Good Z ψ h w B0 O)(hB:B0≤w.heap.size)(id:Nat)(ty:TypeId){cs:List AV}{vs:Array Value}(hN:N id)(hr:ar Z ψ h w cs vs.toList)(h1:∀u∈vs.toList,u.oneCell'=true)
  (bu:∀i ty cs,h i=some (.box ty cs)→aE (fun i=>i≠id) cs) (hm:aE (fun i=>i≠id) cs) :
  Next Z ψ h w B0 O N Z (eC ψ id (.pointer (some ⟨w.heap.size,0,none⟩))) (eC h id (some (.box ty cs))) (w.alloc (.cells vs ty)):=by
 have n:Next Z ψ h w B0 O (·=id) Z (eC ψ id (.pointer (some ⟨w.heap.size,0,none⟩))) (eC h id (some (.box ty cs))) (w.alloc (.cells vs ty)):=by
  refine g.more (dh.alloc _ _ _ _) (fun b hb=>heap_alloc_old w _ (g.bX hb)) (fun i hi=>⟨c7 _ _ hi,c7 _ _ hi⟩) (fun i zj cs' hb=>?_) (fun i zj cs' hi hb=>?_) (fun i ok x hi hb=>?_) (fun i b hi bp hb=>?_) (fun i i' b hi tY _ _ _ _=>by subst hi;exact tY.symm) hB
  ·exact bu i zj cs' hb
  ·subst hi
   rw[bq]at hb;cases hb
   refine⟨w.heap.size,vs,bq _ _ _,heap_alloc_new _ _,?_,h1⟩
   refine hr.move (fun _ h=>h) ((dh.alloc ψ h w _).same g) (fun j hj bp=>?_) hm
   rw[c7 _ _ hj]at bp
   exact⟨bp,c7 _ _ hj⟩
  ·subst hi;rw[bq]at hb;cases hb
  ·subst hi;rw[bq]at hb;simp only[ob,Option.some.injEq]at hb;omega
 exact⟨n.fX,n.eV,n.keep,fun i hi=>(n.ids i hi).imp (fun h=>h) (fun e=>by subst e;exact hN),n.eL⟩
theorem OP{h:Hp}{id:Nat}{o:Ob}(bT:h id≠none):∀i,eC h id (some o) i≠none→h i≠none:=fun i hi=>by
 by_cases e:i=id
 ·subst e;exact bT
 ·rwa [c7 _ _ e]at hi
theorem Good.write(g:Good Z ψ h w B0 O)(id:Nat)(bT:h id≠none)(k:dh ψ h w w')(OQ:∀b,ob (ψ id)≠some b→b<w.heap.size→w'.heap[b]? = w.heap[b]?)(o':Ob)
  (OO:∀ty cs,o'=.box ty cs→∃gg vs,ψ id=.pointer (some ⟨gg,0,none⟩)∧w'.heap[gg]? = some (.cells vs ty (0,0))∧ar Z ψ h w' cs vs.toList∧∀u∈vs.toList,u.oneCell'=true)
  (oo:∀ok x,o'=.own ok x→jV Z w' ok (ψ id) x) :
  Next Z ψ h w B0 O N Z ψ (eC h id (some o')) w':=by
 have hs:=OP (o:=o') bT
 have sm:=k.same g
 refine⟨fun _ h=>h,fun _ h=>.inl h,k,fun i hi=>.inl ⟨hs i hi,rfl⟩,⟨fun i ty cs hb=>?_,fun i ok x hb=>?_,fun i b h1 h2=>g.live i b (hs i h1) h2,fun i i' b h1 h2 h3 h4=>g.apart i i' b (hs i h1) (hs i' h2) h3 h4,fun b hb=>Nat.lt_of_lt_of_le (g.j5 b hb) k.size⟩⟩
 ·by_cases e:i=id
  ·subst e
   rw[bq]at hb;cases hb
   obtain⟨gg,vs,h1,h2,h3,h4⟩:=OO _ _ rfl
   exact⟨gg,vs,h1,h2,h3.less (fun _ h=>h) (cG.refl _ _) (fun j hj=>⟨hs j hj,rfl⟩),h4⟩
  ·rw[c7 _ _ e]at hb
   obtain⟨gg,vs,h1,h2,h3,h4⟩:=g.box i ty cs hb
   refine⟨gg,vs,h1,?_,h3.less (fun _ h=>h) sm (fun j hj=>⟨hs j hj,rfl⟩),h4⟩
   rw[OQ gg (fun hh=>e (g.apart i id gg (by rw[hb];simp) bT (by rw[h1];rfl) hh)) (Array.getElem?_eq_some_iff.1 h2).1]
   exact h2
 ·by_cases e:i=id
  ·subst e
   rw[bq]at hb;cases hb
   exact oo _ _ rfl
  ·rw[c7 _ _ e]at hb
   exact(g.row i ok x hb).kept (fun _ h=>h) sm (fun gg MD=>OQ gg (fun hh=>e (g.apart i id gg (by rw[hb];simp) bT MD hh)) (g.bX ⟨i,by rw[hb];simp,MD⟩))
theorem dh.setRow{gg:Nat}(ho:Own ψ h gg)(arr:Array Value):dh ψ h w (w.setRow gg arr) :=
 ⟨rfl,rfl,rfl,by simp[World.setRow],fun b _ hb=>by
  have:gg≠b:=fun e=>hb (e▸ho)
  simp[World.setRow,Array.getElem?_modify,this]⟩
theorem setRow_other{gg b:Nat}(arr:Array Value)(bp:gg≠b):(w.setRow gg arr).heap[b]? = w.heap[b]? := by
 simp[World.setRow,Array.getElem?_modify,bp]
theorem AK(g:Good Z ψ h w B0 O){id:Nat}{ty:TypeId}{cs vs:List AV}(hb:h id=some (.box ty cs)){t:TypeId}{i:TypeInfo}(hi:P.info? t=some i){off:Nat}{V:Value}
  (hv:ar Z ψ h w vs V.cells.toList) (h1:∀u∈V.cells.toList,u.oneCell'=true) (hs:V.cells.size=P.cellsOf t) (hl:off+vs.length≤cs.length) {a:Addr} (ha:a=⟨Tj (ψ id),off,none⟩) :
  ∃w',(Instr.storeAt t (.pointer (some a)) V).run P w=.ok () w'∧Next Z ψ h w B0 O N Z ψ (eC h id (some (.box ty (eu cs off vs)))) w':=by
 obtain⟨gg,arr,e1,e2,e3,e4⟩:=g.box id ty cs hb
 have hlen:=hv.length
 have OR:=e3.length
 simp only[Array.length_toList]at hlen OR
 have bT:h id≠none:=by rw[hb];simp
 have ho:Own ψ h gg:=⟨id,bT,by rw[e1];rfl⟩
 rw[e1]at ha
 simp only[Tj]at ha
 subst ha
 refine⟨_,lh hi gg off V arr ty e2 hs (by omega) h1,?_⟩
 have kk:=dh.setRow (w:=w) ho ((arr.toList.take off++V.cells.toList++arr.toList.drop (off+V.cells.size)).toArray)
 refine g.write id bT kk (fun b hb _=>setRow_other _ (fun e=>hb (by rw[e1];simp[ob,e]))) _ (fun zj cs' he=>?_) (fun _ _ he=>by cases he)
 cases he
 refine⟨gg,_,e1,setRow_heap w gg arr _ ty _ e2,?_,?_⟩
 ·rw[sf _ _ _ hl]
  have h5:ar Z ψ h w (cs.take off++vs++cs.drop (off+vs.length)) (arr.toList.take off++V.cells.toList++arr.toList.drop (off+V.cells.size)):=by
   rw[←hlen];exact((e3.take off).append hv).append (e3.drop (off+vs.length))
  exact h5.less (fun _ h=>h) (kk.same g) (fun j hj=>⟨hj,rfl⟩)
 ·intro u hu
  rw[List.toList_toArray]at hu
  rcases List.mem_append.1 hu with hu|hu
  ·rcases List.mem_append.1 hu with hu|hu
   ·exact e4 u (List.mem_of_mem_take hu)
   ·exact h1 u hu
  ·exact e4 u (List.mem_of_mem_drop hu)
theorem Wr{α:Type}(cur V:List α)(m off sz L:Nat)(h:off+V.length≤sz)(h1:m+sz≤L)(h2:L≤cur.length) :
  ((cur.take (m+off)++V++cur.drop (m+off+V.length)).take L |>.drop m |>.take sz)=((cur.drop m).take sz).take off++V++((cur.drop m).take sz).drop (off+V.length):=by
 apply List.ext_getElem?
 intro q
 simp only[List.getElem?_take,List.getElem?_drop,List.getElem?_append,List.length_append,List.length_take,List.length_drop]
 rw[Nat.min_eq_left (show m+off≤cur.length by omega),Nat.min_eq_left (show off≤min sz (cur.length-m) by omega)]
 repeat' split
 all_goals first|rfl|(exfalso;omega)|(congr 1;omega)|(rw[List.getElem?_eq_none (by omega)])
theorem Tk{α:Type}(cur V:List α)(m off sz L p:Nat)(h:off+V.length≤sz)(h1:m+sz≤L)(h2:L≤cur.length)(h3:p+sz≤L)(h4:p+sz≤m∨m+sz≤p) :
  ((cur.take (m+off)++V++cur.drop (m+off+V.length)).take L |>.drop p |>.take sz)=(cur.drop p).take sz:=by
 apply List.ext_getElem?
 intro q
 simp only[List.getElem?_take,List.getElem?_drop,List.getElem?_append,List.length_append,List.length_take]
 rw[Nat.min_eq_left (show m+off≤cur.length by omega)]
 repeat' split
 all_goals first|rfl|(exfalso;omega)|(congr 1;omega)|(rw[List.getElem?_eq_none (by omega)])
theorem aH.AL{k:K}{x:k.T}{vs us:List Value}(e:vs=us)(hr:aH Z w k x vs):aH Z w k x us:=e▸hr
theorem AM(g:Good Z ψ h w B0 O){id:Nat}{ty:TypeId}{kk:K}{xs:List kk.T}(hb:h id=some (.own (.row ty kk) xs)){t:TypeId}{i:TypeInfo}(hi:P.info? t=some i){n off:Nat}{x y:kk.T}{V:Value}
  (hx:xs[n]? = some x) (hs:V.cells.size=P.cellsOf t) (hl:off+V.cells.size≤kk.sz) {a:Addr} (ha:a=⟨Tj (ψ id),n*kk.sz+off,none⟩)
  (hy:∀us,aH Z w kk x us→aH Z w kk y (us.take off++V.cells.toList++us.drop (off+V.cells.size))) (h1:∀u∈V.cells.toList,u.oneCell'=true) :
  ∃w',(Instr.storeAt t (.pointer (some a)) V).run P w=.ok () w'∧Next Z ψ h w B0 O N Z ψ (eC h id (some (.own (.row ty kk) (xs.set n y)))) w':=by
 obtain⟨vs,ho,hv⟩:=g.row id (.row ty kk) xs hb
 have bT:h id≠none:=by rw[hb];simp
 have hn:n<xs.length:=(List.getElem?_eq_some_iff.1 hx).1
 have JD:=kk.iP
 have hmul:n*kk.sz+kk.sz≤xs.length*kk.sz:=by rw[←Nat.succ_mul];exact Nat.mul_le_mul_right _ hn
 obtain⟨hl1,e⟩:=ho
 rcases e with⟨h0,_⟩|⟨gg,cap,cur,e1,e2,e3,e4,e5,e6,e7⟩
 ·omega
 have Ws:xs.length*kk.sz≤cap*kk.sz:=Nat.mul_le_mul_right _ e4
 have j7:ob (ψ id)=some gg:=by rw[e1];simp only[ob];rw[if_neg (by omega)]
 have ho:Own ψ h gg:=⟨id,bT,j7⟩
 have GK:a=⟨gg,n*kk.sz+off,none⟩:=by rw[ha,e1];rfl
 subst GK
 refine⟨_,lh hi gg (n*kk.sz+off) V cur ty e3 hs (by omega) h1,?_⟩
 have hk:=dh.setRow (w:=w) ho ((cur.toList.take (n*kk.sz+off)++V.cells.toList++cur.toList.drop (n*kk.sz+off+V.cells.size)).toArray)
 have sm:=hk.same g
 refine g.write id bT hk (fun b hb _=>setRow_other _ (fun e=>hb (by rw[j7,e]))) _ (fun _ _ he=>by cases he) (fun Yx x' he=>?_)
 cases he
 have uM:cur.toList.length=cap*kk.sz:=by rw[Array.length_toList];exact e6
 have hVl:V.cells.toList.length=V.cells.size:=Array.length_toList
 let dm:=cur.toList.take (n*kk.sz+off)++V.cells.toList++cur.toList.drop (n*kk.sz+off+V.cells.size)
 have JG:dm.length=cap*kk.sz:=by
  simp only[dm,List.length_append,List.length_take,List.length_drop,uM,hVl];omega
 have Tl:(xs.set n y).length=xs.length:=List.length_set
 have tZ:vs=cur.toList.take (xs.length*kk.sz):=e7.symm
 refine⟨dm.take (xs.length*kk.sz),⟨by rw[List.length_take,JG,Tl];omega,.inr ⟨gg,cap,dm.toArray,by rw[Tl];exact e1,e2,setRow_heap w gg cur _ ty _ e3,by rw[Tl];exact e4,e5,by simpa using JG,by rw[Tl]⟩⟩,fun j z hz=>?_⟩
 have hj:j<xs.length:=by have:=(List.getElem?_eq_some_iff.1 hz).1;rwa [Tl]at this
 have hmj:j*kk.sz+kk.sz≤xs.length*kk.sz:=by rw[←Nat.succ_mul];exact Nat.mul_le_mul_right _ hj
 have Y0:∀p,p+kk.sz≤xs.length*kk.sz→(vs.drop p).take kk.sz=(cur.toList.drop p).take kk.sz:=fun p hp=>by
  rw[tZ,List.drop_take,List.take_take,Nat.min_eq_left (by omega)]
 by_cases Oq:j=n
 ·subst Oq
  rw[List.getElem?_set_self hn]at hz;cases hz
  have hu:=hy _ (hv j x hx)
  rw[Y0 _ hmj,←hVl]at hu
  refine aH.mono (fun _ h=>h) sm (aH.AL ?_ hu)
  have:=Wr cur.toList V.cells.toList (j*kk.sz) off kk.sz (xs.length*kk.sz) (by omega) hmj (by omega)
  rw[←this,hVl]
 ·rw[List.getElem?_set_ne (fun e=>Oq e.symm)]at hz
  have hu:=hv j z hz
  rw[Y0 _ hmj]at hu
  refine aH.mono (fun _ h=>h) sm (aH.AL ?_ hu)
  have h4:j*kk.sz+kk.sz≤n*kk.sz∨n*kk.sz+kk.sz≤j*kk.sz:=by
   rcases Nat.lt_or_ge j n with h|h
   ·left;rw[←Nat.succ_mul];exact Nat.mul_le_mul_right _ h
   ·right;rw[←Nat.succ_mul];exact Nat.mul_le_mul_right _ (by omega)
  have:=Tk cur.toList V.cells.toList (n*kk.sz) off kk.sz (xs.length*kk.sz) (j*kk.sz) (by omega) hmul (by omega) hmj h4
  rw[←this,hVl]
theorem ua{k:K}{ys:List k.T}{u:Value}(hr:aH Z w (.sl k) ys [u]) :
  (u=.slice none 0 0∧ys=[])∨∃a c news,u=.slice (some a) ys.length c∧ys.length≤c∧news.length=ys.length*k.sz∧(∀(j:Nat) q,news[j]? = some q→w.cell? (a.add j)=some q)∧(∀q∈news,q.oneCell'=true)∧nI Z w k ys news:=by
 simp only[aH]at hr
 obtain⟨v,hv,A,c,rfl,hl,hn,he⟩:=hr
 cases hv
 cases A with
 |none =>
  left
  cases ys with
  |nil=>exact⟨by rw[hn rfl];rfl,rfl⟩
  |cons y r=>obtain⟨a,us,h1,_⟩:=he 0 y rfl;cases h1
 |some a =>
  right
  have Wt:∀i (hi:i<ys.length),∃us,aH Z w k ys[i] us∧∀(j:Nat) u,us[j]? = some u→w.cell? (a.add (i*k.sz+j))=some u:=fun i hi=>by
   obtain⟨a',us,h1,_,h3,h4⟩:=he i _ (List.getElem?_eq_getElem hi)
   cases h1
   exact⟨us,h3,h4⟩
  have JD:=k.iP
  let news:=(List.range (ys.length*k.sz)).map fun j=>(w.cell? (a.add j)).getD default
  have DP:∀j,j<ys.length*k.sz→∃q,w.cell? (a.add j)=some q∧q.oneCell'=true:=fun j hj=>by
   have hi:j / k.sz<ys.length:=Nat.div_lt_of_lt_mul (by rw[Nat.mul_comm];exact hj)
   obtain⟨us,h3,h4⟩:=Wt (j / k.sz) hi
   have hm:j%k.sz<us.length:=by rw[h3.len];exact Nat.mod_lt _ JD
   refine⟨us[j%k.sz],?_,h3.one _ (List.getElem_mem hm)⟩
   have:=h4 (j%k.sz) _ (List.getElem?_eq_getElem hm)
   rwa [Nat.mul_comm,Nat.div_add_mod]at this
  have nJ:∀j,j<ys.length*k.sz→∃q,news[j]? = some q∧w.cell? (a.add j)=some q:=fun j hj=>by
   obtain⟨q,hq,_⟩:=DP j hj
   exact⟨q,by simp[news,List.getElem?_map,List.getElem?_range hj,hq],hq⟩
  have hlen:news.length=ys.length*k.sz:=by simp[news]
  refine⟨a,c,news,rfl,hl,hlen,fun j q hq=>?_,fun q hq=>?_,fun i x hx=>?_⟩
  ·have hj:j<ys.length*k.sz:=by rw[←hlen];exact(List.getElem?_eq_some_iff.1 hq).1
   obtain⟨q',h1,h2⟩:=nJ j hj
   rw[h1]at hq;cases hq;exact h2
  ·obtain⟨j,hj,rfl⟩:=List.mem_iff_getElem.1 hq
   obtain⟨q',h1,h2⟩:=nJ j (by omega)
   obtain⟨q2,h3,h4⟩:=DP j (by omega)
   rw[List.getElem?_eq_getElem hj]at h1;cases h1
   rw[h2]at h3;cases h3;exact h4
  ·have hi:i<ys.length:=(List.getElem?_eq_some_iff.1 hx).1
   obtain⟨us,h3,h4⟩:=Wt i hi
   rw[List.getElem?_eq_getElem hi]at hx;cases hx
   refine aH.AL ?_ h3
   have hul:=h3.len
   have hmul:i*k.sz+k.sz≤ys.length*k.sz:=by rw[←Nat.succ_mul];exact Nat.mul_le_mul_right _ hi
   apply List.ext_getElem?
   intro q
   rw[List.getElem?_take,List.getElem?_drop]
   by_cases hq:q<k.sz
   ·rw[if_pos hq]
    obtain⟨q',h5,h6⟩:=nJ (i*k.sz+q) (by omega)
    rw[h5]
    have h7:=h4 q _ (List.getElem?_eq_getElem (by omega))
    rw[List.getElem?_eq_getElem (by omega)]
    rw[h6]at h7;cases h7;rfl
   ·rw[if_neg hq,List.getElem?_eq_none (by omega)]
theorem ME{hh:Heap}(g:Good Z ψ hh.get w B0 O){x:AV}{u:Value}{k:K}{ys:List k.T}(hx:rowOf hh x k=some ys)(hr:aw Z ψ hh.get w x u) :
  (u=.slice none 0 0∧ys=[])∨∃a c news,u=.slice (some a) ys.length c∧ys.length≤c∧news.length=ys.length*k.sz∧(∀(j:Nat) q,news[j]? = some q→w.cell? (a.add j)=some q)∧(∀q∈news,q.oneCell'=true)∧nI Z w k ys news:=by
 unfold rowOf at hx
 split at hx
 ·rename_i ex k' xs heq
  split at hx
  ·rename_i e
   subst e
   cases hx
   cases x with
   |sl ex' k'' Y1 =>
    simp only[cV]at heq
    cases heq
    simp only[aw]at hr
    exact ua hr.1
   |bO id =>
    simp only[cV]at heq
    split at heq
    ·rename_i ty kk zs hg
     cases heq
     simp only[aw]at hr
     have hv:=hr.2 (by rw[hg];simp)
     subst hv
     obtain⟨vs,ho,hv⟩:=g.row id (.row ty _) _ hg
     have h1:=ua (u6 (Z':=fun b=>Z b∨ob (ψ id)=some b) ho hv (fun b hb=>.inl hb) (fun b hb=>.inr hb))
     rcases h1 with h1|⟨a,c,news,h1,h2,h3,h4,h5,_⟩
     ·exact .inl h1
     ·right
      refine⟨a,c,news,h1,h2,h3,h4,h5,?_⟩
      have Ot:news=vs:=by
       obtain⟨hl,e⟩:=ho
       rcases e with⟨e,_⟩|⟨gg,cap,cur,e,_,e3,_,_,_,e7⟩
       ·rw[e,Nat.zero_mul]at h3 hl
        rw[List.eq_nil_of_length_eq_zero h3,List.eq_nil_of_length_eq_zero hl]
       ·rw[e]at h1;cases h1
        apply List.ext_getElem?
        intro j
        by_cases hj:j<xs.length*k'.sz
        ·have hn:=h4 j _ (List.getElem?_eq_getElem (by omega))
         rw[cz,Nat.zero_add]at hn
         simp only[World.cell?,e3]at hn
         have yr:vs[j]? = cur.toList[j]? := by rw[←e7,List.getElem?_take,if_pos hj]
         rw[yr,List.getElem?_eq_getElem (by omega)]
         simpa using hn.symm
        ·rw[List.getElem?_eq_none (by omega),List.getElem?_eq_none (by omega)]
      rw[Ot];exact hv
    ·cases heq
    ·cases heq
   |_=>simp only[cV]at heq<;>cases heq
  ·cases hx
 ·rename_i heq
  cases hx
  cases x with
  |gu=>simp only[aw]at hr;exact .inl ⟨hr,rfl⟩
  |bO id=>simp only[cV]at heq;split at heq<;>cases heq
  |_=>simp only[cV]at heq<;>cases heq
 ·cases hx
structure pe(P:Program)(e:TypeId)(k:K)(i:TypeInfo)(z:Value):Prop where
 info:P.info? e=some i
 zero:i.zero=some z
 size:i.size=k.sz
 tn:z.cells.size=k.sz
 bytes:i.bytes≤65536
theorem cK{e:TypeId}{k:K}(he:EY P e k=true):∃i z,pe P e k i z:=by
 unfold EY at he
 split at he
 ·rename_i i hi
  split at he
  ·rename_i z hz
   simp only[Bool.and_eq_true,decide_eq_true_eq]at he
   exact⟨i,z,hi,hz,he.1,he.2.1,he.2.2⟩
  ·cases he
 ·cases he
theorem nI.append{k:K}{xs ys:List k.T}{vs us:List Value}(h1:nI Z w k xs vs)(h2:nI Z w k ys us)(hl:vs.length=xs.length*k.sz):nI Z w k (xs++ys) (vs++us):=fun i x hx=>by
 by_cases hi:i<xs.length
 ·rw[List.getElem?_append_left hi]at hx
  have hm:i*k.sz+k.sz≤xs.length*k.sz:=by rw[←Nat.succ_mul];exact Nat.mul_le_mul_right _ hi
  have h3:=h1 i x hx
  rw[List.drop_append_of_le_length (by omega),List.take_append_of_le_length (by rw[List.length_drop];omega)]
  exact h3
 ·rw[List.getElem?_append_right (by omega)]at hx
  have h3:=h2 (i-xs.length) x hx
  have e:i*k.sz=vs.length+(i-xs.length)*k.sz:=by
   rw[hl,←Nat.add_mul];congr 1;omega
  rw[e,List.drop_append,List.drop_eq_nil_of_le (by omega),List.nil_append,Nat.add_sub_cancel_left]
  exact h3
theorem nI.GL{k:K}{xs:List k.T}{vs:List Value}(h:nI Z w k xs vs)(sm:cG Z w w'):nI Z w' k xs vs:=fun i x hx=>(h i x hx).mono (fun _ h=>h) sm
theorem GM(g:Good Z ψ h w B0 O)(hB:B0≤w.heap.size)(id:Nat)(hN:N id){ok:OK}{x:ok.T}{v:Value}(kk:dh ψ h w w')(tj:∀b,Own ψ h b→w'.heap[b]? = w.heap[b]?)
  (ho:jV Z w' ok v x) (hb:∀b,ob v=some b→w.heap.size≤b)
  (bu:∀i ty cs,h i=some (.box ty cs)→aE (fun i=>i≠id) cs) :
  Next Z ψ h w B0 O N Z (eC ψ id v) (eC h id (some (.own ok x))) w':=by
 have n:Next Z ψ h w B0 O (·=id) Z (eC ψ id v) (eC h id (some (.own ok x))) w':=by
  refine g.more kk tj (fun i hi=>⟨c7 _ _ hi,c7 _ _ hi⟩) (fun i zj cs' hb=>bu i zj cs' hb) (fun i zj cs' hi hb=>?_) (fun i ok x hi hb=>?_) (fun i b hi bp Wq=>?_) (fun i i' b hi tY _ _ _ _=>by subst hi;exact tY.symm) hB
  ·subst hi;rw[bq]at hb;cases hb
  ·subst hi
   rw[bq]at hb;cases hb
   rw[bq];exact ho
  ·subst hi;rw[bq]at Wq;exact hb b Wq
 exact⟨n.fX,n.eV,n.keep,fun i hi=>(n.ids i hi).imp (fun h=>h) (fun e=>by subst e;exact hN),n.eL⟩
theorem qW(g:Good Z ψ h w B0 O)(hB:B0≤w.heap.size)(id:Nat)(ty:TypeId)(hN:N id){k:K}{xs:List k.T}{vs:List Value}{v:Value}(kk:dh ψ h w w')(tj:∀b,Own ψ h b→w'.heap[b]? = w.heap[b]?)
  (ho:dG w' ty k.sz v xs.length vs) (hv:nI Z w' k xs vs) (hb:∀b,ob v=some b→w.heap.size≤b)
  (bu:∀i ty cs,h i=some (.box ty cs)→aE (fun i=>i≠id) cs) :
  Next Z ψ h w B0 O N Z (eC ψ id v) (eC h id (some (.own (.row ty k) xs))) w':=GM g hB id hN (ok:=.row ty k) kk tj ⟨vs,ho,hv⟩ hb bu
theorem dh.grown{row:Option Nat}(hg:w.grownBy w' row)(hr:∀b,row=some b→Own ψ h b):dh ψ h w w' :=
 ⟨hg.os,hg.tape,hg.output,hg.size,fun b hb hn=>hg.block b hb (fun e=>hn (hr b e.symm))⟩
theorem qX(g:Good Z ψ h w B0 O)(hB:B0≤w.heap.size)(id cY:Nat)(hN:N id){ok:OK}{x y:ok.T}(ho:h cY=some (.own ok x))(bp:cY≠id)
  (hg:w.grownBy w' (ob (ψ cY))) {v:Value} (hv:jV Z w' ok v y)
  (hb:ob v=ob (ψ cY)∨∀b,ob v=some b→w.heap.size≤b)
  (bu:∀i ty cs,h i=some (.box ty cs)→aE (fun i=>i≠id) cs) :
  Next Z ψ h w B0 O N Z (eC ψ id v) (eC (eC h cY none) id (some (.own ok y))) w':=by
 have hold:h cY≠none:=by rw[ho];simp
 have j7:∀b,ob (ψ cY)=some b→ob (ψ cY)=some b:=fun _ h=>h
 have kk:dh ψ h w w':=dh.grown hg (fun b e=>⟨cY,hold,j7 b e⟩)
 have sm:=kk.same g
 have other:∀i b,h i≠none→i≠cY→ob (ψ i)=some b→w'.heap[b]? = w.heap[b]? := fun i b h1 h2 h3 =>
  hg.block b (g.bX ⟨i,h1,h3⟩) (fun e=>h2 (g.apart i cY b h1 hold h3 (j7 b e.symm)))
 have at_:∀i,i≠id→eC (eC h cY none) id (some (.own ok y)) i≠none→h i≠none∧i≠cY:=fun i hi h1=>by
  rw[c7 _ _ hi]at h1
  by_cases e:i=cY
  ·subst e;rw[bq]at h1;exact absurd rfl h1
  ·rw[c7 _ _ e]at h1;exact⟨h1,e⟩
 have ids:∀i,eC (eC h cY none) id (some (.own ok y)) i≠none→(h i≠none∧eC ψ id v i=ψ i)∨i=id:=fun i h1=>by
  by_cases e:i=id
  ·exact .inr e
  ·exact .inl ⟨(at_ i e h1).1,c7 _ _ e⟩
 have vob:∀b,ob v=some b→ob (ψ cY)=some b∨w.heap.size≤b:=fun b Wq=>by
  rcases hb with hb|hb
  ·left;rw[←hb];exact Wq
  ·right;exact hb b Wq
 refine⟨fun _ h=>h,fun _ h=>.inl h,kk,fun i h1=>(ids i h1).imp (fun h=>h) (fun e=>by subst e;exact hN),⟨fun i zj cs qy=>?_,fun i Yx z qy=>?_,fun i b h1 h2=>?_,fun i i' b h1 h2 h3 h4=>?_,fun b hz=>Nat.lt_of_lt_of_le (g.j5 b hz) kk.size⟩⟩
 ·by_cases e:i=id
  ·subst e;rw[bq]at qy;cases qy
  ·have JH:=at_ i e (by rw[qy];simp)
   rw[c7 _ _ e,c7 _ _ JH.2]at qy
   obtain⟨gg,us,h1,h2,h3,h4⟩:=g.box i zj cs qy
   refine⟨gg,us,by rw[c7 _ _ e];exact h1,(other i gg JH.1 JH.2 (by rw[h1];rfl)).trans h2,?_,h4⟩
   exact h3.move (fun _ h=>h) sm (fun j hj hn=>(ids j hn).resolve_right hj) (bu i zj cs qy)
 ·by_cases e:i=id
  ·subst e;rw[bq]at qy;cases qy
   rw[bq];exact hv
  ·have JH:=at_ i e (by rw[qy];simp)
   rw[c7 _ _ e,c7 _ _ JH.2]at qy
   rw[c7 _ _ e]
   exact(g.row i Yx z qy).kept (fun _ h=>h) sm (fun gg MD=>other i gg JH.1 JH.2 MD)
 ·by_cases e:i=id
  ·subst e;rw[bq]at h2
   rcases vob b h2 with h3|h3
   ·exact g.live cY b hold h3
   ·exact⟨fun hz=>by have:=g.j5 b hz;omega,.inl (by omega)⟩
  ·rw[c7 _ _ e]at h2
   exact g.live i b (at_ i e h1).1 h2
 ·have key:∀j,j≠id→eC (eC h cY none) id (some (.own ok y)) j≠none→ob (ψ j)=some b→ob v=some b→False:=fun j hj h5 h6 h7=>by
   obtain⟨h8,h9⟩:=at_ j hj h5
   rcases vob b h7 with mN|mN
   ·exact h9 (g.apart j cY b h8 hold h6 mN)
   ·have:=g.bX ⟨j,h8,h6⟩;omega
  by_cases e:i=id<;>by_cases e':i'=id
  ·rw[e,e']
  ·subst e;rw[bq]at h3;rw[c7 _ _ e']at h4
   exact(key i' e' h2 h4 h3).elim
  ·subst e';rw[bq]at h4;rw[c7 _ _ e]at h3
   exact(key i e h1 h3 h4).elim
  ·rw[c7 _ _ e]at h3;rw[c7 _ _ e']at h4
   exact g.apart i i' b (at_ i e h1).1 (at_ i' e' h2).1 h3 h4
def MF(w:World)(sz:Nat)(u:Value)(m:Nat)(news:List Value):Prop :=
 news.length=m*sz∧(∀q∈news,q.oneCell'=true)∧((u=.slice none 0 0∧m=0)∨∃a c,u=.slice (some a) m c∧∀(j:Nat) q,news[j]? = some q→w.cell? (a.add j)=some q)
theorem E4{hh:Heap}(g:Good Z ψ hh.get w B0 O){x:AV}{u:Value}{k:K}{ys:List k.T}(hx:rowOf hh x k=some ys)(hr:aw Z ψ hh.get w x u):∃news,MF w k.sz u ys.length news∧nI Z w k ys news:=by
 rcases ME g hx hr with⟨rfl,rfl⟩|⟨a,c,news,h1,_,h2,h3,h4,h5⟩
 ·exact⟨[],⟨by simp,by simp,.inl ⟨rfl,rfl⟩⟩,fun i x hx=>by simp at hx⟩
 ·exact⟨news,⟨h2,h4,.inr ⟨a,c,h1,h3⟩⟩,h5⟩
theorem fH{t ty e:TypeId}{i:TypeInfo}(ht:P.underlying t=some (.slice e))(hi:P.info? e=some i)(A:Option Addr)(n c:Nat)(hc:n≤c)(A':Option Addr)(c':Nat) :
  (Builtin.append_ #[t,t] ty #[.slice A n c,.slice A' 0 c']).run P w=.ok (.slice A n c) w:=by
 cases A<;>cases A'<;>simp[Builtin.append_,run_underlying ht,sizeOf,typeInfo,hi,Builtin.lenOf,Builtin.firstCells,hc,storeCells,loadCells,loadCellsFrom]
theorem dM{t ty e:TypeId}{k:K}{i:TypeInfo}{z:Value}(ht:P.underlying t=some (.slice e))(he:pe P e k i z){v:Value}{n:Nat}{xs:List Value}(ho:dG w e k.sz v n xs)
  {u:Value} {m:Nat} {news:List Value} (hu:MF w k.sz u m news) (hm:n+m≤fV) :
  ∃v' w',(Builtin.append_ #[t,t] ty #[v,u]).run P w=.ok v' w'∧dG w' e k.sz v' (n+m) (xs++news)∧w.grownBy w' (ob v)∧(ob v'=ob v∨∀b,ob v'=some b→w.heap.size≤b):=by
 obtain⟨h1,h3,hu⟩:=hu
 obtain⟨A0,c0,Wu⟩:=ho.slice
 by_cases hm0:m=0
 ·subst hm0
  have Y2:news=[]:=List.eq_nil_of_length_eq_zero (by rw[h1,Nat.zero_mul])
  subst Y2
  have Dd:n≤c0:=by
   rcases ho.2 with⟨h0,A,e⟩|⟨g,cap,cur,e,hc,h2,h3,_⟩
   ·omega
   ·rw[Wu]at e;cases e;exact h3
  refine⟨v,w,?_,by simpa using ho,World.grownBy.refl w _,.inl rfl⟩
  subst Wu
  rcases hu with⟨rfl,_⟩|⟨a,c,rfl,_⟩<;>exact fH ht he.info A0 n c0 Dd _ _
 ·rcases hu with⟨_,h0⟩|⟨a,c,rfl,h2⟩
  ·exact absurd h0 hm0
  have hb:=he.bytes
  unfold fV at hm
  have j8:(n+m)*i.bytes≤140737488355328:=Nat.le_trans (Nat.mul_le_mul hm hb) (by decide)
  have new:∀v',w.heap.size≤w.heap.size→∀(w':World),w'.ownsRow w.heap.size e k.sz v' (n+m) (xs++news)→∀b,ob v'=some b→w.heap.size≤b:=fun v' _ w' nK b hb=>by
   rcases nK.2 with⟨rfl,_⟩|⟨g,cap,cur,rfl,h5,_⟩
   ·simp[ob]at hb
   ·simp only[ob]at hb
    split at hb
    ·cases hb
    ·cases hb;exact h5
  rcases ho.2 with⟨rfl,A,rfl⟩|⟨g,cap,cur,rfl,Ws,h4,h5,h6,h7,h8⟩
  ·have si:xs=[]:=List.eq_nil_of_length_eq_zero (by rw[ho.1,Nat.zero_mul])
   subst si
   have j7:ob (.slice A 0 0)=none:=by cases A<;>simp[ob]
   cases A with
   |none =>
    obtain⟨v',w',hr,h4,h5,_,h6⟩:=run_append_own_at (P:=P) w w.heap.size t ty e i z k.sz i.bytes ht he.info he.zero he.size rfl he.tn k.iP (.slice none 0 0) 0 [] ⟨by simp,.inl ⟨rfl,rfl⟩⟩ a m c news h1 h2 h3 (by simp only[maxLen];omega) j8 (Nat.le_refl _)
    exact⟨v',w',hr,dG.of h4,by rw[j7];exact h5,.inr (new v' (Nat.le_refl _) w' h4)⟩
   |some b0 =>
    obtain⟨v',w',hr,h4,h5⟩:=run_append_arg_grows (P:=P) w t ty e i z k.sz i.bytes ht he.info he.zero he.size rfl he.tn k.iP b0 0 0 [] (by simp) (by simp) a m c news h1 h2 (by omega) (by simp only[maxLen];omega) j8
    exact⟨v',w',hr,dG.of h4,by rw[j7];exact h5,.inr (new v' (Nat.le_refl _) w' h4)⟩
  ·have ub:w.ownsRow 0 e k.sz (.slice (some ⟨g,0,none⟩) n cap) n xs:=⟨ho.1,.inr ⟨g,cap,cur,rfl,Nat.zero_le _,h4,h5,h6,h7,h8⟩⟩
   have j7:ob (.slice (some ⟨g,0,none⟩) n cap)=some g:=by simp only[ob];rw[if_neg (by omega)]
   obtain⟨v',w',hr,h4,h5,_,h6⟩:=run_append_own_at (P:=P) w 0 t ty e i z k.sz i.bytes ht he.info he.zero he.size rfl he.tn k.iP _ n xs ub a m c news h1 h2 h3 (by simp only[maxLen];omega) j8 (Nat.zero_le _)
   refine⟨v',w',hr,dG.of h4,by rw[j7];exact h5,?_⟩
   rw[j7]
   rcases h4.2 with⟨rfl,h0⟩|⟨g',adY,dm,rfl,_,_,h9,_⟩
   ·omega
   ·have Tn:ob (.slice (some ⟨g',0,none⟩) (n+m) adY)=some g':=by simp only[ob];rw[if_neg (by omega)]
    rw[Tn]
    simp only[Value.ownBlock,Option.some.injEq]at h6
    rcases h6 with h6|h6
    ·left;rw[h6]
    ·right;intro b hb;cases hb;omega
theorem aw.qz{h h':Hp}(hs:∀id o,h' id=some o→h id=some o){a:AV}{v:Value}(hr:aw Z ψ h w a v):aw Z ψ h' w a v :=
 hr.less (fun _ h=>h) (cG.refl _ _) (fun id bT=>by
  obtain⟨o,ho⟩:=Option.ne_none_iff_exists'.1 bT
  exact⟨by rw[hs id o ho];simp,rfl⟩)
theorem ar.qz{h h':Hp}(hs:∀id o,h' id=some o→h id=some o){a:List AV}{v:List Value}(hr:ar Z ψ h w a v):ar Z ψ h' w a v :=
 hr.less (fun _ h=>h) (cG.refl _ _) (fun id bT=>by
  obtain⟨o,ho⟩:=Option.ne_none_iff_exists'.1 bT
  exact⟨by rw[hs id o ho];simp,rfl⟩)
theorem qn{hh:Heap}(g:Good Z ψ h w B0 O)(bz:∀id o,hh.get id=some o→h id=some o)(hB:B0≤w.heap.size){id:Nat}(hN:N id){t ty e:TypeId}{k:K}{i:TypeInfo}{z:Value}(ht:P.underlying t=some (.slice e))(he:pe P e k i z)
  {x:AV} {u:Value} {ys:List k.T} (hx:rowOf hh x k=some ys) (hr:aw Z ψ h w x u) (hm:ys.length≤fV)
  (bu:∀i ty cs,h i=some (.box ty cs)→aE (fun i=>i≠id) cs) :
  ∃v' w',(Builtin.append_ #[t,t] ty #[.slice none 0 0,u]).run P w=.ok v' w'∧Next Z ψ h w B0 O N Z (eC ψ id v') (eC h id (some (.own (.row e k) ys))) w'∧v'.cells=#[v']∧v'.oneCell'=true:=by
 obtain⟨news,wR,hv⟩:=E4 (g.sub bz) hx (hr.qz bz)
 have GN:dG w e k.sz (.slice none 0 0) 0 []:=⟨by simp,.inl ⟨rfl,none,rfl⟩⟩
 obtain⟨v',w',dy,h4,h5,h6⟩:=dM (ty:=ty) ht he GN wR (by omega)
 have hg:w.grownBy w' none:=h5
 have kk:dh ψ h w w':=dh.grown hg (fun b e=>by cases e)
 have sm:=kk.same g
 refine⟨v',w',dy,qW g hB id e hN (vs:=news) kk (fun b hb=>hg.block b (g.bX hb) (by simp)) (by simpa using h4) (fun i x hx=>(hv i x hx).mono (fun _ h=>h) sm) (fun b hb=>?_) bu,h4.one⟩
 rcases h6 with h6|h6
 ·rw[h6]at hb;simp[ob]at hb
 ·exact h6 b hb
theorem zn{hh:Heap}(g:Good Z ψ h w B0 O)(bz:∀id o,hh.get id=some o→h id=some o)(hB:B0≤w.heap.size){id cY:Nat}(hN:N id)(bp:cY≠id){t ty e:TypeId}{k:K}{i:TypeInfo}{z:Value}(ht:P.underlying t=some (.slice e))(he:pe P e k i z)
  {xs:List k.T} (ho:h cY=some (.own (.row e k) xs)) {x:AV} {u:Value} {ys:List k.T} (hx:rowOf hh x k=some ys) (hr:aw Z ψ h w x u) (hm:xs.length+ys.length≤fV)
  (bu:∀i ty cs,h i=some (.box ty cs)→aE (fun i=>i≠id) cs) :
  ∃v' w',(Builtin.append_ #[t,t] ty #[ψ cY,u]).run P w=.ok v' w'∧Next Z ψ h w B0 O N Z (eC ψ id v') (eC (eC h cY none) id (some (.own (.row e k) (xs++ys)))) w'∧v'.cells=#[v']∧v'.oneCell'=true:=by
 obtain⟨news,wR,hv⟩:=E4 (g.sub bz) hx (hr.qz bz)
 obtain⟨vs,ho0,Wu⟩:=g.row cY (.row e k) xs ho
 obtain⟨v',w',dy,h4,h5,h6⟩:=dM (ty:=ty) ht he ho0 wR hm
 have hold:h cY≠none:=by rw[ho];simp
 have kk:dh ψ h w w':=dh.grown h5 (fun b e=>⟨cY,hold,e⟩)
 have sm:=kk.same g
 refine⟨v',w',dy,qX g hB id cY hN ho bp h5 (ok:=.row e k) (y:=xs++ys) ⟨_,by rw[List.length_append];exact h4,(Wu.append hv ho0.1).GL sm⟩ h6 bu,h4.one⟩
theorem AO{hh:Heap}(g:Good Z ψ h w B0 O)(bz:∀id o,hh.get id=some o→h id=some o)(hB:B0≤w.heap.size){id:Nat}(hN:N id){t ty e:TypeId}{k:K}{i:TypeInfo}{z:Value}(ht:P.underlying t=some (.slice e))(he:pe P e k i z)
  {xs:List k.T} {v:Value} (hd:aw Z ψ h w (.sl true k xs) v) {x:AV} {u:Value} {ys:List k.T} (hx:rowOf hh x k=some ys) (hr:aw Z ψ h w x u) (JD:0<ys.length∨xs=[]) (hm:xs.length+ys.length≤fV)
  (bu:∀i ty cs,h i=some (.box ty cs)→aE (fun i=>i≠id) cs) :
  ∃v' w',(Builtin.append_ #[t,t] ty #[v,u]).run P w=.ok v' w'∧Next Z ψ h w B0 O N Z (eC ψ id v') (eC h id (some (.own (.row e k) (xs++ys)))) w'∧v'.cells=#[v']∧v'.oneCell'=true:=by
 simp only[aw]at hd
 obtain⟨hd,hex⟩:=hd
 obtain⟨A,c,Ou⟩:=hex trivial
 rcases ua hd with⟨rfl,rfl⟩|⟨a,c',Y3,h1,_,h2,h3,h4,h5⟩
 ·have:=qn (ty:=ty) (N:=N) g bz hB hN ht he hx hr (by omega) bu
  simpa using this
 ·rw[h1]at Ou;cases Ou
  obtain⟨news,⟨h6,h7,hu⟩,hv⟩:=E4 (g.sub bz) hx (hr.qz bz)
  by_cases hy0:ys.length=0
  ·have hy:ys=[]:=List.eq_nil_of_length_eq_zero hy0
   have si:xs=[]:=JD.resolve_left (by omega)
   subst si
   have GN:dG w e k.sz (.slice (some a) 0 0) 0 []:=⟨by simp,.inl ⟨rfl,_,rfl⟩⟩
   refine⟨v,w,?_,qW g hB id e hN (vs:=[]) (dh.refl _ _ _) (fun _ _=>rfl) (by rw[hy,h1];exact GN) (fun i x hx=>by rw[hy]at hx;simp at hx) (fun b hb=>by rw[h1]at hb;simp[ob]at hb) bu,by rw[h1];exact GN.one⟩
   rw[h1]
   rw[hy0]at hu
   rcases hu with⟨rfl,_⟩|⟨b,cu,rfl,_⟩<;>exact fH ht he.info _ _ _ (Nat.le_refl _) _ _
  rcases hu with⟨_,h0⟩|⟨b,cu,rfl,h8⟩
  ·omega
  ·have hb:=he.bytes
   unfold fV at hm
   have j8:(xs.length+ys.length)*i.bytes≤140737488355328:=Nat.le_trans (Nat.mul_le_mul hm hb) (by decide)
   obtain⟨v',w',dy,h9,mN⟩:=run_append_arg_grows (P:=P) w t ty e i z k.sz i.bytes ht he.info he.zero he.size rfl he.tn k.iP a xs.length xs.length Y3 h2 h3 b ys.length cu news h6 h8 (by omega) (by simp only[maxLen];omega) j8
   have kk:dh ψ h w w':=dh.grown mN (fun b e=>by cases e)
   have sm:=kk.same g
   have h9':dG w' e k.sz v' (xs++ys).length (Y3++news):=by
    rw[List.length_append]
    exact dG.of h9
   subst h1
   refine⟨v',w',dy,qW g hB id e hN kk (fun b hb=>mN.block b (g.bX hb) (by simp)) h9' ((h5.append hv h2).GL sm) (fun b hb=>?_) bu,h9'.one⟩
   rcases h9.2 with⟨e1,_⟩|⟨gg,cap,cur,e1,e2,_⟩
   ·rw[e1]at hb;simp[ob]at hb
   ·rw[e1]at hb
    simp only[ob]at hb
    split at hb
    ·cases hb
    ·cases hb;omega
end Go.Vs
namespace Go.Vs
variable {P:Program} {Z Z':Nat→Prop} {ψ ψ':Nat→Value} {h h':Hp} {w w':World} {B0:Nat} {O:Nat→Prop} {N:Nat→Prop}
theorem u9:∀(vs:List Value) (k off:Nat) (cells:Array Value),
  (vs.zipIdx k).foldl (fun cs (p:Value×Nat)=>cs.setIfInBounds (off+p.2) p.1) cells=(eu cells.toList (off+k) vs).toArray
 |[],k,off,cells=>by simp[eu]
 |v::r,k,off,cells=>by
  simp only[List.zipIdx_cons,List.foldl_cons,eu]
  rw[u9 r (k+1) off]
  simp[Nat.add_assoc]
theorem yu(V:Array Value)(off:Nat)(cells:Array Value) :
  V.zipIdx.foldl (fun cs (p:Value×Nat)=>cs.setIfInBounds (off+p.2) p.1) cells=(eu cells.toList off V.toList).toArray:=by
 rw[←Array.foldl_toList,Array.toList_zipIdx]
 exact u9 V.toList 0 off cells
theorem tp{α:Type}:∀(vs cs:List α) (off:Nat),(eu cs off vs).length=cs.length
 |[],_,_=>rfl
 |v::r,cs,off=>by simp only[eu];rw[tp r];simp
theorem ar.eu:∀{vs cs:List AV} {us ds:List Value} (off:Nat),ar Z ψ h w vs us→ar Z ψ h w cs ds→ar Z ψ h w (eu cs off vs) (eu ds off us)
 |[],cs,us,ds,off,h1,h2=>by simp only[ar]at h1;subst h1;exact h2
 |v::r,cs,us,ds,off,h1,h2=>by
  simp only[ar]at h1
  obtain⟨u,jv,rfl,h3,h4⟩:=h1
  simp only[Vs.eu]
  exact ar.eu (off+1) h4 (h2.set off h3)
theorem aw.cells{a:AV}{v:Value}(hk:a≠.no)(hr:aw Z ψ h w a v):ar Z ψ h w a.cells v.cells.toList:=by
 cases a with
 |no=>exact absurd rfl hk
 |agg cs=>simp only[aw]at hr;obtain⟨vs,rfl,hr⟩:=hr;simpa[AV.cells,Value.cells] using hr
 |bool b=>simp only[aw]at hr;subst hr;simp[AV.cells,Value.cells,ar,aw]
 |int k n=>simp only[aw]at hr;subst hr;simp[AV.cells,Value.cells,ar,aw]
 |str s=>simp only[aw]at hr;subst hr;simp[AV.cells,Value.cells,ar,aw]
 |lY=>simp only[aw]at hr;subst hr;simp[AV.cells,Value.cells,ar,aw]
 |gu=>simp only[aw]at hr;subst hr;simp[AV.cells,Value.cells,ar,aw]
 |ref id s i off=>obtain⟨a,rfl,h2⟩:=(by simpa only[aw] using hr:∃a,v=.pointer (some a)∧_);simp only[AV.cells,Value.cells,ar];exact⟨_,[],by simp,hr,rfl⟩
 |fp k x off=>obtain⟨a,us,rfl,h2⟩:=(by simpa only[aw] using hr:∃a us,v=.pointer (some a)∧_);simp only[AV.cells,Value.cells,ar];exact⟨_,[],by simp,hr,rfl⟩
 |sl ex k xs =>
  have sd:=hr
  simp only[aw,aH]at sd
  obtain⟨⟨v',hv,A,c,rfl,_⟩,_⟩:=sd
  cases hv
  simp only[AV.cells,Value.cells,ar];exact⟨_,[],by simp,hr,rfl⟩
 |bO id =>
  have sd:=hr
  simp only[aw]at sd
  obtain⟨⟨hc,_⟩,_⟩:=sd
  simp only[AV.cells,ar,hc];exact⟨_,[],by simp,hr,rfl⟩
 |mp kk vk es =>
  have sd:=hr
  simp only[aw,aH]at sd
  obtain⟨A,hv,_⟩:=sd
  cases hv
  simp only[AV.cells,Value.cells,ar];exact⟨_,[],by simp,hr,rfl⟩
 |fn f cap =>
  have sd:=hr
  simp only[aw]at sd
  obtain⟨vs,rfl,_⟩:=sd
  simp only[AV.cells,Value.cells,ar];exact⟨_,[],by simp,hr,rfl⟩
 |nW vs =>
  have sd:=hr
  simp only[aw]at sd
  obtain⟨us,rfl,_⟩:=sd
  simp only[AV.cells,Value.cells,ar];exact⟨_,[],by simp,hr,rfl⟩
def tu(Z:Nat→Prop)(ψ:Nat→Value)(h:Hp)(w:World):List (Nat×AV)→List (Nat×Value)→Prop
 |[],[]=>True
 |p::r,q::s=>p.1=q.1∧p.2≠.no∧aw Z ψ h w p.2 q.2∧tu Z ψ h w r s
 |_,_=>False
theorem GO{place:Nat→Option (Nat×Nat)}:∀{ps:List (Nat×AV)} {qs:List (Nat×Value)} {cs cs':List AV} {cells:Array Value},tu Z ψ h w ps qs→ar Z ψ h w cs cells.toList→DK place cs ps=some cs' →
  ∃fY,Instr.fill place cells qs=some fY∧ar Z ψ h w cs' fY.toList
 |[],[],cs,cs',cells,_,hr,hf=>by simp only[DK]at hf;cases hf;exact⟨cells,rfl,hr⟩
 |[],_::_,_,_,_,hp,_,_=>hp.elim
 |_::_,[],_,_,_,hp,_,_=>hp.elim
 |(i,a)::ps,(j,v)::qs,cs,cs',cells,hp,hr,hf=>by
  obtain⟨rfl,qA,hv,hp⟩:=hp
  simp only[DK]at hf
  simp only at qA hv
  have Ou:=hv.cells qA
  have hl:=Ou.length
  have uc:=hr.length
  simp only[Array.length_toList]at hl uc
  simp only[Instr.fill]
  split at hf
  ·cases hf
  ·rename_i off size hpl
   simp only[hpl]
   split at hf
   ·cases hf
   ·rename_i hc
    have SL:a.cells.length=size:=Decidable.not_not.1 (fun e=>hc (.inl e))
    have uN:¬off+a.cells.length>cs.length:=fun e=>hc (.inr e)
    rw[if_neg (by simp only[Bool.or_eq_true,decide_eq_true_eq];omega)]
    refine GO hp ?_ hf
    rw[yu,List.toList_toArray]
    exact Ou.eu off hr
theorem OS(fs:Array Field)(hi:∀f∈fs.toList,∃i,P.info? f.type=some i):(fs.mapM fun f=>do pure (f.offset,←sizeOf f.type):Sem (Array (Nat×Nat))).run P w=.ok (fs.map fun f=>(f.offset,P.cellsOf f.type)) w:=by
 rw[←Array.toArray_toList (xs:=fs)]
 generalize fs.toList=l at hi
 have key:∀(l:List Field) (acc:Array (Nat×Nat)),(∀f∈l,∃i,P.info? f.type=some i) →
   (l.foldlM (fun(bs:Array (Nat×Nat)) f=>do let y ←(do pure (f.offset,←sizeOf f.type):Sem (Nat×Nat));pure (bs.push y)) acc:Sem (Array (Nat×Nat))).run P w=.ok (acc++(l.map fun f=>(f.offset,P.cellsOf f.type)).toArray) w:=by
  intro l
  induction l with
  |nil=>intro acc _;simp
  |cons f r ih =>
   intro acc hl
   obtain⟨i,hi⟩:=hl f (by simp)
   simp only[List.foldlM_cons,Sem.run_bind,dE hi,Result.andThen_ok,Sem.run_pure]
   rw[ih _ (fun f hf=>hl f (List.mem_cons_of_mem _ hf))]
   simp
 have:=key l #[] hi
 simp only[Array.mapM_eq_foldlM,List.size_toArray,List.foldlM_toArray']
 simpa using this
theorem E5(v:Value):aw Z ψ h w (wH v) v:=by
 cases v with
 |bool b=>simp only[wH,aw]
 |int k n=>simp only[wH,aw]
 |string s=>simp only[wH,aw]
 |pointer a =>
  simp only[wH];split
  ·rename_i e;subst e;simp only[aw]
  ·simp only[aw]
 |slice a n c =>
  simp only[wH];split
  ·rename_i e;obtain⟨rfl,rfl,rfl⟩:=e;simp only[aw]
  ·simp only[aw]
 |func fn first cap =>
  cases fn with
  |func f =>
   simp only[wH];split
   ·rename_i e
    have h1:first=#[]:=Array.eq_empty_of_size_eq_zero e.1
    have h2:cap=#[]:=Array.eq_empty_of_size_eq_zero e.2
    subst h1;subst h2
    simp only[aw];exact⟨#[],rfl,by simp[ar]⟩
   ·simp only[aw]
  |_=>simp only[wH,aw]
 |_=>simp only[wH,aw]
theorem AP:∀vs:List Value,ar Z ψ h w (vs.map wH) vs
 |[]=>by simp[ar]
 |v::r=>by simp only[List.map_cons,ar];exact⟨v,r,rfl,E5 v,AP r⟩
theorem GQ(v:Value):aw Z ψ h w (tT v) v:=by
 cases v with
 |agg cs=>simp only[tT,aw];exact⟨cs,rfl,AP _⟩
 |_=>simp only[tT];exact E5 _
theorem DQ(v:Value):(wH v).cells=[wH v]:=by
 cases v with
 |pointer a=>simp only[wH];split<;>rfl
 |slice a n c=>simp only[wH];split<;>rfl
 |func fn first cap =>
  cases fn with
  |func f=>simp only[wH];split<;>rfl
  |_=>rfl
 |_=>rfl
theorem AQ(v:Value):ar Z ψ h w (tT v).cells v.cells.toList:=by
 cases v with
 |agg cs=>simp only[tT,AV.cells,Value.cells];exact AP _
 |_ =>
  simp only[tT]
  rw[DQ]
  simp only[ar]
  exact⟨_,[],rfl,E5 _,rfl⟩
theorem pf{t:TypeId}{zs:List AV}(hz:Au P t=some zs):∃i z,P.info? t=some i∧i.zero=some z∧zs=(tT z).cells∧∀u∈z.cells.toList,u.oneCell'=true:=by
 unfold Au at hz
 obtain⟨i,hi,yv⟩:=Option.bind_eq_some_iff.1 hz
 obtain⟨z,C3,Jl⟩:=Option.bind_eq_some_iff.1 yv
 split at Jl
 ·rename_i fO
  cases Jl
  exact⟨i,z,hi,C3,rfl,fun u hu=>List.all_eq_true.1 fO u hu⟩
 ·cases Jl
theorem vc{t:TypeId}{i:TypeInfo}{z:Value}(hi:P.info? t=some i)(hz:i.zero=some z):(zeroValue t).run P w=.ok z w:=by
 simp[zeroValue,typeInfo,hi,hz]
theorem MG{t:TypeId}{fs:Array Field}{zs cs:List AV}{ps:List (Nat×AV)}{qs:Array (Nat×Value)}(hz:Au P t=some zs)(ht:P.underlying t=some (.struct fs))(fO:fs.toList.all (fun f=>(P.info? f.type).isSome)=true)
  (hp:tu Z ψ h w ps qs.toList) (hf:DK (fun i=>(fs[i]?).map fun f=>(f.offset,P.cellsOf f.type)) zs ps=some cs) :
  ∃V,(Instr.build t qs).run P w=.ok V w∧aw Z ψ h w (.agg cs) V:=by
 obtain⟨i,z,hi,Y4,rfl,_⟩:=pf hz
 obtain⟨fY,h1,h2⟩:=GO hp (AQ z) hf
 have hpl:=OS (P:=P) (w:=w) fs (fun f hf=>Option.isSome_iff_exists.1 (List.all_eq_true.1 fO f hf))
 refine⟨.agg fY,?_,by simp only[aw];exact⟨_,rfl,h2⟩⟩
 have OT:Instr.fill (fun x=>(fs.map fun f=>(f.offset,P.cellsOf f.type))[x]?) z.cells qs.toList=some fY:=by
  rw[←h1];congr 1;funext x;simp
 simp only[Instr.build,Sem.run_bind,vc hi Y4,run_underlying ht,Result.andThen_ok,hpl,OT]
 rfl
theorem JI:∀(k:K) (cs:List AV) (x:k.T) (r:List AV),dec k cs=some (x,r)→cs.head?≠some .no
 |.int ik,cs,x,r,h,hc=>by
  cases cs with
  |nil=>simp at hc
  |cons a s=>simp at hc;subst hc;simp[dec,EW]at h
 |.bool,cs,x,r,h,hc=>by
  cases cs with
  |nil=>simp at hc
  |cons a s=>simp at hc;subst hc;simp[dec,zJ]at h
 |.str,cs,x,r,h,hc=>by
  cases cs with
  |nil=>simp at hc
  |cons a s=>simp at hc;subst hc;simp[dec,EX]at h
 |.sl k,cs,x,r,h,hc=>by
  cases cs with
  |nil=>simp at hc
  |cons a s=>simp at hc;subst hc;simp[dec,Ld]at h
 |.pair a b,cs,x,r,h,hc=>by
  simp only[dec]at h
  split at h
  ·rename_i x1 r1 h1
   exact JI a cs x1 r1 h1 hc
  ·cases h
 |.one k,cs,x,r,h,hc=>by
  simp only[dec]at h
  exact JI k cs x r h hc
 |.mp kk vk,cs,x,r,h,hc=>by
  cases cs with
  |nil=>simp at hc
  |cons a s=>simp at hc;subst hc;simp[dec,Le]at h
theorem DR{k:K}{hh:Heap}{a:AV}{x:k.T}(h:ep k (a.cells.map (cV hh))=some x):a≠.no:=by
 rintro rfl
 unfold ep at h
 split at h
 ·rename_i x' h1
  exact JI k _ _ _ h1 (by simp[AV.cells,cV])
 ·cases h
theorem GR{k:K}{hh:Heap}(g:Good Z ψ hh.get w B0 O)(hz:∀b,Z b→Z' b):∀{ps:List (Nat×AV)} {qs:List (Nat×Value)} {xs:List k.T} {i:Nat} {cells:Array Value},
  (∀p∈ps,∀id b,AV.bO id∈p.2.cells→hh.get id≠none→ob (ψ id)=some b→Z' b)→tu Z ψ hh.get w ps qs→qO k hh i ps=some xs→(i+ps.length)*k.sz≤cells.size →
  ∃fY flat,Instr.fill (fun i=>some (i*k.sz,k.sz)) cells qs=some fY∧fY.toList=cells.toList.take (i*k.sz)++flat++cells.toList.drop ((i+ps.length)*k.sz)∧flat.length=ps.length*k.sz∧nI Z' w k xs flat∧(∀q∈flat,q.oneCell'=true)∧xs.length=ps.length
 |[],[],xs,i,cells,_,_,hl,_=>by
  simp only[qO]at hl;cases hl
  exact⟨cells,[],rfl,by simp,by simp,fun i x hx=>by simp at hx,by simp,rfl⟩
 |[],_::_,_,_,_,_,hp,_,_=>hp.elim
 |_::_,[],_,_,_,_,hp,_,_=>hp.elim
 |(j,a)::ps,(j',v)::qs,xs,i,cells,hb,hp,hl,hs=>by
  obtain⟨hjj,qA,hv,hp⟩:=hp
  simp only at hjj qA hv
  subst hjj
  simp only[qO]at hl
  split at hl
  ·rename_i e
   subst e
   split at hl
   ·rename_i y ys h1 h2
    cases hl
    simp only[List.length_cons]at hs
    have Ou:=hv.cells qA
    have hvw:=oi g hz (hb (j,a) (by simp)) Ou
    have hk:=dL h1 hvw
    have OU:=hk.len
    rw[Array.length_toList]at OU
    have jf:j*k.sz+k.sz≤cells.size:=by
     have:(j+1)*k.sz≤(j+(ps.length+1))*k.sz:=Nat.mul_le_mul_right _ (by omega)
     rw[Nat.succ_mul]at this;omega
    simp only[Instr.fill]
    rw[if_neg (by simp only[Bool.or_eq_true,decide_eq_true_eq];omega),yu]
    obtain⟨fY,flat,h3,h4,h5,h6,h7,h8⟩:=GR g hz (ps:=ps) (qs:=qs) (xs:=ys) (i:=j+1) (cells:=(eu cells.toList (j*k.sz) v.cells.toList).toArray) (fun p hp=>hb p (List.mem_cons_of_mem _ hp)) hp h2 (by
     rw[List.size_toArray,tp]
     have e9:cells.toList.length=cells.size:=Array.length_toList
     rw[e9,show j+1+ps.length=j+(ps.length+1) by omega];exact hs)
    refine⟨fY,v.cells.toList++flat,h3,?_,?_,?_,?_,by simp[h8]⟩
    ·rw[h4,List.toList_toArray,sf _ _ _ (by rw[Array.length_toList,Array.length_toList];omega)]
     have e1:(j+1)*k.sz=j*k.sz+k.sz:=Nat.succ_mul _ _
     have e2:(j+1+ps.length)*k.sz=(j+(ps.length+1))*k.sz:=by congr 1;omega
     rw[List.length_cons,e1,e2]
     have l1:(cells.toList.take (j*k.sz)++v.cells.toList).length=j*k.sz+k.sz:=by
      rw[List.length_append,List.length_take,Array.length_toList,Array.length_toList];omega
     rw[←l1,List.take_left]
     have l2:(j+(ps.length+1))*k.sz=(cells.toList.take (j*k.sz)++v.cells.toList).length+(ps.length*k.sz):=by
      rw[l1,Nat.add_mul,Nat.add_mul];omega
     have hd:(cells.toList.take (j*k.sz)++v.cells.toList++cells.toList.drop (j*k.sz+v.cells.toList.length)).drop ((j+(ps.length+1))*k.sz)=cells.toList.drop ((j+(ps.length+1))*k.sz):=by
      rw[l2,List.drop_append,List.drop_eq_nil_of_le (by omega),List.nil_append,Nat.add_sub_cancel_left,List.drop_drop]
      congr 1
      rw[l1,Array.length_toList];omega
     rw[hd]
     simp[List.append_assoc]
    ·rw[List.length_append,h5,Array.length_toList,OU,List.length_cons,Nat.succ_mul];omega
    ·intro n x hx
     cases n with
     |zero =>
      simp only[List.getElem?_cons_zero,Option.some.injEq]at hx;subst hx
      have Wv:v.cells.toList.length=k.sz:=by rw[Array.length_toList];exact OU
      rw[Nat.zero_mul,List.drop_zero,←Wv,List.take_left]
      exact hk
     |succ n =>
      have:=h6 n x (by simpa using hx)
      have Wv:v.cells.toList.length=k.sz:=by rw[Array.length_toList];exact OU
      have e:(n+1)*k.sz=v.cells.toList.length+n*k.sz:=by rw[Wv,Nat.succ_mul];omega
      rw[e,List.drop_append,List.drop_eq_nil_of_le (by omega),List.nil_append,Nat.add_sub_cancel_left]
      exact this
    ·intro q hq
     rcases List.mem_append.1 hq with hq|hq
     ·exact hk.one q hq
     ·exact h7 q hq
   ·cases hl
  ·cases hl
theorem Next.drop{Z1:Nat→Prop}{h1:Hp}(n:Next Z1 ψ h1 w B0 O N Z' ψ' h' w')(hz:∀b,Z b→Z1 b)(yv:∀b,Z1 b→Z b∨Own ψ h b)(bz:∀id o,h1 id=some o→h id=some o):Next Z ψ h w B0 O N Z' ψ' h' w':=by
 have hn:∀id,h1 id≠none→h id≠none:=fun id hn=>by
  obtain⟨o,ho⟩:=Option.ne_none_iff_exists'.1 hn
  rw[bz id o ho];simp
 have ho:∀b,Own ψ h1 b→Own ψ h b:=fun b ⟨id,h2,h3⟩=>⟨id,hn id h2,h3⟩
 refine⟨fun b hb=>n.fX b (hz b hb),fun b hb=>?_,⟨n.keep.os,n.keep.tape,n.keep.output,n.keep.size,fun b hb qA=>n.keep.block b hb (fun h=>qA (ho b h))⟩,fun id bT=>(n.ids id bT).imp (fun⟨h2,h3⟩=>⟨hn id h2,h3⟩) (fun h=>h),n.eL⟩
 rcases n.eV b hb with h2|h2|h2
 ·exact(yv b h2).imp (fun h=>h) (fun h=>.inl h)
 ·exact .inr (.inl (ho b h2))
 ·exact .inr (.inr h2)
theorem tu.qz{h h':Hp}(hs:∀id o,h' id=some o→h id=some o):∀{ps:List (Nat×AV)} {qs:List (Nat×Value)},tu Z ψ h w ps qs→tu Z ψ h' w ps qs:=by
 intro ps
 induction ps with
 |nil=>intro qs hp;cases qs with
  |nil=>trivial
  |cons q r=>exact hp.elim
 |cons p r ih=>intro qs hp;cases qs with
  |nil=>exact hp.elim
  |cons q s=>exact⟨hp.1,hp.2.1,hp.2.2.1.qz hs,ih hp.2.2.2⟩
theorem GS{hh:Heap}{Z1:Nat→Prop}(g:Good Z1 ψ h w B0 O)(g0:Good Z ψ hh.get w B0 O)(hz:∀b,Z b→Z1 b)(hB:B0≤w.heap.size){id:Nat}(hN:N id){t e:TypeId}{k:K}{i:TypeInfo}{z:Value}(ht:P.underlying t=some (.slice e))(he:pe P e k i z)
  {ps:List (Nat×AV)} {qs:Array (Nat×Value)} {xs:List k.T} (Ov:∀p∈ps,∀id b,AV.bO id∈p.2.cells→hh.get id≠none→ob (ψ id)=some b→Z1 b) (hp:tu Z ψ hh.get w ps qs.toList) (hl:qO k hh 0 ps=some xs) (hn:ps.length*k.sz≤1048576)
  (bu:∀i ty cs,h i=some (.box ty cs)→aE (fun i=>i≠id) cs) :
  ∃v' w',(Instr.buildSlice t ps.length qs).run P w=.ok v' w'∧Next Z1 ψ h w B0 O N Z1 (eC ψ id v') (eC h id (some (.own (.row e k) xs))) w'∧(v'.cells=#[v']∧v'.oneCell'=true)∧(∀b,Own ψ h b→w'.heap[b]? = w.heap[b]?)∧(∀b,ob v'=some b→w.heap.size≤b)∧∃A c,v'=.slice A c c:=by
 let GU:Array Value:=(Array.range (ps.length*k.sz)).map (z.cells[· % z.cells.size]!)
 have wS:GU.size=ps.length*k.sz:=by simp[GU]
 obtain⟨fY,flat,h1,h2,h3,h4,h5,h6⟩:=GR (Z':=Z1) g0 hz (ps:=ps) (qs:=qs.toList) (xs:=xs) (i:=0) (cells:=GU) Ov hp hl (by rw[Nat.zero_add,wS];exact Nat.le_refl _)
 have Vd:fY.toList=flat:=by
  rw[h2,Nat.zero_mul,List.take_zero,List.nil_append,Nat.zero_add,List.drop_eq_nil_of_le (by rw[Array.length_toList,wS];exact Nat.le_refl _),List.append_nil]
 have MH:fY.size=ps.length*k.sz:=by rw[←Array.length_toList,Vd];exact h3
 have JD:=k.iP
 have hlen:ps.length≤1048576:=Nat.le_trans (Nat.le_mul_of_pos_right _ JD) hn
 have ub:(w.alloc (.cells fY e)).ownsRow 0 e k.sz (.slice (some ⟨w.heap.size,0,none⟩) ps.length ps.length) xs.length flat:=by
  have:=World.ownsRow_lit (base:=0) (e:=e) (size:=k.sz) w fY ps.length (Nat.zero_le _) (by simp only[maxLen];omega) MH
  rw[h6,←Vd];exact this
 refine⟨.slice (some ⟨w.heap.size,0,none⟩) ps.length ps.length,w.alloc (.cells fY e),?_,qW g hB id e hN (vs:=flat) (dh.alloc _ _ _ _) (fun b hb=>heap_alloc_old w _ (g.bX hb)) (dG.of ub) (h4.GL ((dh.alloc ψ h w _).same g)) (fun b hb=>by simp only[ob]at hb;split at hb<;>cases hb;exact Nat.le_refl _) bu,(dG.of ub).one,fun b hb=>heap_alloc_old w _ (g.bX hb),fun b hb=>by simp only[ob]at hb;split at hb<;>cases hb;exact Nat.le_refl _,_,_,rfl⟩
 ·show _=Result.ok (Value.slice (some ⟨w.heap.size,0,none⟩) ps.length ps.length) _
  have AR:¬ps.length*k.sz>2 ^ 24:=by omega
  have hc:P.cellsOf e=k.sz:=by simp[Program.cellsOf,he.info,he.size]
  simp only[Instr.buildSlice,Sem.run_bind,run_underlying ht,Result.andThen_ok,dE he.info,hc]
  rw[if_neg AR]
  have De:(newRow e fY).run P w=.ok ⟨w.heap.size,0,none⟩ (w.alloc (.cells fY e)):=rfl
  by_cases h0:ps.length*k.sz=0
  ·have Tp:GU=#[]:=Array.eq_empty_of_size_eq_zero (by rw[wS,h0])
   have yv:(Array.range (ps.length*k.sz)).map (fun x=>(#[]:Array Value)[x%(#[]:Array Value).size]!)=#[]:=Array.eq_empty_of_size_eq_zero (by simp[h0])
   rw[if_pos h0]
   rw[Tp]at h1
   simp only[Sem.run_pure,Result.andThen_ok,yv,h1,Sem.run_bind,De]
  ·rw[if_neg h0]
   simp only[Sem.run_bind,vc he.info he.zero,Result.andThen_ok,Sem.run_pure]
   rw[show(Array.range (ps.length*k.sz)).map (fun x=>z.cells[x%z.cells.size]!)=GU from rfl,h1]
   simp only[Sem.run_bind,De,Result.andThen_ok,Sem.run_pure]
theorem OV(g:Good Z ψ h w B0 O)(hB:B0≤w.heap.size){id:Nat}{e:TypeId}{k:K}{xs:List k.T}{v':Value}(n:Next Z ψ h w B0 O N Z (eC ψ id v') (eC h id (some (.own (.row e k) xs))) w')
  (tj:∀b,Own ψ h b→w'.heap[b]? = w.heap[b]?) (De:∀b,ob v'=some b→w.heap.size≤b) (hex:∃A c,v'=.slice A c c) :
  Next Z ψ h w B0 O N (fun b=>Z b∨ob v'=some b) ψ h w'∧aw (fun b=>Z b∨ob v'=some b) ψ h w' (.sl true k xs) v':=by
 have oo:jV Z w' (.row e k) v' xs:=by
  have:=n.eL.row id (.row e k) xs (bq _ _ _)
  rwa [bq]at this
 obtain⟨vs,ho,hv⟩:=oo
 have m:Next Z ψ h w B0 O (fun _=>False) Z ψ h w':=g.more n.keep tj (fun _ _=>⟨rfl,rfl⟩) (fun i ty cs hb=>by
  have e:(fun _:Nat=>¬False)=fun _=>True:=by funext i;simp
  rw[e];exact aE.top cs) (fun _ _ _ h=>h.elim) (fun _ _ _ h=>h.elim) (fun _ _ h=>h.elim) (fun _ _ _ h=>h.elim) hB
 have hz:∀b,Z b→Z b∨ob v'=some b:=fun b h=>.inl h
 refine⟨⟨hz,fun b hb=>hb.imp (fun h=>h) fun h=>.inr (De b h),m.keep,fun i hi=>.inl ((m.ids i hi).resolve_right (fun h=>h)),⟨fun i ty cs hb=>?_,fun i ok x hb=>?_,fun i b h1 h2=>?_,m.eL.apart,fun b hb=>?_⟩⟩,?_⟩
 ·obtain⟨gg,vs,f1,f2,f3,f4⟩:=m.eL.box i ty cs hb
  exact⟨gg,vs,f1,f2,ar.less hz (cG.refl _ _) (fun _ h=>⟨h,rfl⟩) f3,f4⟩
 ·exact(m.eL.row i ok x hb).kept hz (cG.refl _ _) (fun _ _=>rfl)
 ·obtain⟨k1,k2⟩:=m.eL.live i b h1 h2
  refine⟨fun hb=>hb.elim k1 fun hb=>?_,k2⟩
  have:=g.bX ⟨i,h1,h2⟩
  have:=De b hb
  omega
 ·rcases hb with hb|hb
  ·exact m.eL.j5 b hb
  ·exact jV.lt (ok:=.row e k) ⟨vs,ho,hv⟩ hb
 ·simp only[aw]
  exact⟨u6 ho hv (fun b h=>.inl h) (fun b h=>.inr h),fun _=>hex⟩
end Go.Vs
