/- The value semantics of the loaded code: its definitions, what abstract values say of memory, and what single steps leave. -/
import Derived.Control
import Derived.Calls
import Derived.Orders
import GoSem.Machine.Frame
import Derived.Laws.AppendOwn
import GoSem.Core.Utf8
import Derived.Below
import Derived.Laws.OwnMore
import Derived.Laws.Rows
import Derived.Deep.Draws
import Derived.Laws.CopyRow
import Derived.Laws.Cells
import Derived.Laws.Sem
import Derived.Maps.AppendAt
import Derived.ArgAppend
import Derived.WalkKit
namespace Go.Vs
inductive K where
 |int (k:IntKind)|bool|str|sl (k:K)|pair (a b:K)|one (k:K)|mp (kk vk:K)
 deriving DecidableEq
def K.T:K→Type
 |.int _=>Int
 |.bool=>Bool
 |.str=>ByteArray
 |.sl k=>List k.T
 |.pair a b=>a.T×b.T
 |.one k=>k.T
 |.mp kk vk=>List (kk.T×vk.T)
def K.sz:K→Nat
 |.pair a b=>a.sz+b.sz
 |.one k=>k.sz
 |_=>1
def oQ(P:Program):Nat→TypeId→Option K
 |0,_=>none
 |d+1,t =>
  match P.underlying t with
  |some (.int k)=>some (.int k)
  |some .bool=>some .bool
  |some .string=>some .str
  |some (.slice e)=>(oQ P d e).map .sl
  |some (.map a b)=>match oQ P d a,oQ P d b with
   |some x,some y=>some (.mp x y)
   |_,_=>none
  |some (.struct fs) =>
   match (fs.toList.map fun f=>oQ P d f.type).reverse with
   |[]=>none
   |[k]=>k.map .one
   |last::rest=>rest.foldl (fun acc k=>match k,acc with|some k,some a=>some (.pair k a)|_,_=>none) last
  |_=>none
def K.flat:K→Bool
 |.sl _=>false
 |.mp _ _=>false
 |.pair a b=>a.flat&&b.flat
 |.one k=>k.flat
 |_=>true
def K.isAgg:K→Bool
 |.pair _ _=>true
 |.one _=>true
 |_=>false
inductive AV where
 |no
 |bool (b:Bool)
 |int (k:IntKind) (n:Int)
 |str (s:ByteArray)
 |kx
 |eY
 |ref (id s i off:Nat)
 |fp (k:K) (x:k.T) (off:Nat)
 |sl (ex:Bool) (k:K) (xs:List k.T)
 |mp (kk vk:K) (es:List (kk.T×vk.T))
 |bp (id:Nat)
 |fn (f:FuncId) (cap:List AV)
 |agg (cs:List AV)
 |ml (vs:List AV)
def AV.isAgg:AV→Bool
 |.agg _=>true
 |_=>false
def AV.cells:AV→List AV
 |.agg cs=>cs
 |v=>[v]
def enc:(k:K)→k.T→List AV
 |.int ik,n=>[.int ik n]
 |.bool,b=>[.bool b]
 |.str,s=>[.str s]
 |.sl k,xs=>[.sl false k xs]
 |.mp kk vk,es=>[.mp kk vk es]
 |.pair a b,x=>enc a x.1++enc b x.2
 |.one k,x=>enc k x
def BZ(ik:IntKind):List AV→Option (Int×List AV)
 |.int S7 n::r=>if S7=ik then some (n,r) else none
 |_=>none
def wz:List AV→Option (Bool×List AV)
 |.bool b::r=>some (b,r)
 |_=>none
def B2:List AV→Option (ByteArray×List AV)
 |.str s::r=>some (s,r)
 |_=>none
def HO(k:K):List AV→Option (List k.T×List AV)
 |.sl _ k' xs::r=>if h:k'=k then some (h▸xs,r) else none
 |.eY::r=>some ([],r)
 |_=>none
def HP(kk vk:K):List AV→Option (List (kk.T×vk.T)×List AV)
 |.mp HQ Oq es::r=>if h:HQ=kk∧Oq=vk then some (h.1▸h.2▸es,r) else none
 |_=>none
def dec:(k:K)→List AV→Option (k.T×List AV)
 |.int ik,cs=>BZ ik cs
 |.bool,cs=>wz cs
 |.str,cs=>B2 cs
 |.sl k,cs=>HO k cs
 |.mp kk vk,cs=>HP kk vk cs
 |.pair a b,cs =>
  match dec a cs with
  |some (x,r)=>match dec b r with
   |some (y,r')=>some ((x,y),r')
   |none=>none
  |none=>none
 |.one k,cs=>dec k cs
def de(k:K)(cs:List AV):Option k.T :=
 match dec k cs with
 |some (x,[])=>some x
 |_=>none
def bX:(k:K)→k.T→AV
 |.pair a b,x=>.agg (enc (.pair a b) x)
 |.one k,x=>.agg (enc (.one k) x)
 |.int ik,n=>.int ik n
 |.bool,b=>.bool b
 |.str,s=>.str s
 |.sl k,xs=>.sl false k xs
 |.mp kk vk,es=>.mp kk vk es
inductive OK where
 |row (ty:TypeId) (k:K)|map (kk vk:K)|iter (kk vk:K)|mr
 deriving DecidableEq
abbrev OK.T:OK→Type
 |.row _ k=>List k.T
 |.map kk vk=>List (kk.T×vk.T)
 |.iter kk vk=>Option (kk.T×vk.T)×List (kk.T×vk.T)
 |.mr=>ByteArray×Nat
inductive Ob where
 |box (ty:TypeId) (cs:List AV)
 |own (ok:OK) (x:ok.T)
abbrev Heap:=List (Nat×Ob)
def Heap.get:Heap→Nat→Option Ob
 |[],_=>none
 |(i,o)::r,n=>if i=n then some o else Heap.get r n
def Heap.del:Heap→Nat→Heap
 |[],_=>[]
 |(i,o)::r,n=>if i=n then Heap.del r n else(i,o)::Heap.del r n
def Heap.set(h:Heap)(n:Nat)(o:Ob):Heap:=(n,o)::h.del n
def cq(h:Heap):AV→AV
 |.bp id=>match h.get id with
  |some (.own (.row _ k) xs)=>.sl false k xs
  |some (.own (.map kk vk) es)=>.mp kk vk es
  |_=>.no
 |v=>v
def drop1(h:Heap):AV→Heap
 |.bp id=>h.del id
 |_=>h
def cm(h:Heap):List AV→Heap
 |[]=>h
 |c::r=>cm (drop1 h c) r
structure St where
 tmps:List (Nat×AV)
 heap:Heap
def look:List (Nat×AV)→Nat→AV
 |[],_=>.no
 |(i,v)::r,n=>if i=n then v else look r n
def St.put(s:St)(d:Option Tmp)(v:AV):St :=
 match d with
 |some d=>{ s with tmps:=(d,v)::s.tmps }
 |none=>s
def uc:Value→AV
 |.bool b=>.bool b
 |.int k n=>.int k n
 |.string s=>.str s
 |.pointer a=>if a=none then .kx else .no
 |.slice a n c=>if a=none∧n=0∧c=0 then .eY else .no
 |.func fn first cap=>match fn with
  |.func f=>if first.size=0∧cap.size=0 then .fn f [] else .no
  |_=>.no
 |_=>.no
def rJ(v:Value):AV :=
 match v with
 |.agg cs=>.agg (cs.toList.map uc)
 |v=>uc v
def ρ(s:List (Nat×AV)):Operand→AV
 |.tmp t=>look s t
 |.const v=>rJ v
 |.global _=>.no
 |.func f=>.fn f []
inductive bj where
 |val (v:AV)
 |new (v:AV) (os:Heap)
 |wr (v:AV) (h:Heap)
def bj.v:bj→AV
 |.val v=>v
 |.new v _=>v
 |.wr v _=>v
def bj.h(h:Heap):bj→Heap
 |.val _=>h
 |.new _ os=>os++h
 |.wr _ h'=>h'
inductive CK where
 |val (k:K)
 |own (ok:OK)
inductive PK where
 |val (k:K)
 |ref
 |own
 |B3 (f:FuncId) (n:Nat)
 |agg (n:Nat)
inductive RK where
 |val (k:K)
 |own (ok:OK)
 |dJ (b:Nat) (alts:List (Nat×Nat×Nat))
 |agg (c:List CK)
inductive BK where
 |box (ty:TypeId) (cU:List CK)
 |own (ok:OK)
def BK.cU:BK→List CK
 |.box _ c=>c
 |.own _=>[]
def CK.T:CK→Type
 |.val k=>k.T
 |.own ok=>ok.T
def oR:List CK→Type
 |[]=>Unit
 |c::r=>c.T×oR r
abbrev BK.T:BK→Type
 |.box _ c=>oR c
 |.own ok=>ok.T
def ud:List BK→Type
 |[]=>Unit
 |b::r=>b.T×ud r
def Dg:List K→Type
 |[]=>Unit
 |k::r=>k.T×Dg r
def RK.T:RK→Type
 |.val k=>k.T
 |.own ok=>ok.T
 |.dJ _ alts=>Option (Fin alts.length×Nat)
 |.agg c=>oR c
def ky:List RK→Type
 |[]=>Unit
 |r::l=>r.T×ky l
def jX:List PK→List K
 |[]=>[]
 |.val k::r=>k::jX r
 |_::r=>jX r
structure aL where
 ps:List PK
 bs:List BK
 rs:List RK
 x:Option (Heap→Nat→List AV→Option (Bool×bj)):=none
abbrev aL.A(g:aL):Type:=Dg (jX g.ps)×ud g.bs
abbrev aL.B(g:aL):Type:=ky g.rs×ud g.bs
def RK.plain:RK→Bool
 |.val _=>true
 |.own ..=>true
 |.dJ ..=>false
 |.agg c=>decide (c.length≤16)
def RK.flat:RK→Bool
 |.val k=>k.flat
 |.own ..=>false
 |.dJ ..=>true
 |.agg _=>false
end Go.Vs
namespace Go.Vs
section
variable (P:Program)
def FO:TypeDesc→Bool
 |.struct _=>true
 |.array _ _=>true
 |_=>false
def AJ(t:TypeId):Option Bool:=(P.underlying t).map FO
def fR(t:TypeId)(f:Nat):Option (Nat×TypeId) :=
 match P.underlying t with
 |some (.struct fs)=>(fs[f]?).map fun x=>(x.offset,x.type)
 |_=>none
def vp(t:TypeId):Option TypeId :=
 match P.underlying t with
 |some (.slice e)=>some e
 |_=>none
def xg(t:TypeId):Option (List AV):=(P.info? t).bind fun i=>i.zero.bind fun z=>if z.cells.toList.all (·.oneCell') then some (rJ z).cells else none
def dy(t:TypeId)(cs:List AV):Option AV :=
 match AJ P t with
 |some true=>if P.cellsOf t≤cs.length then some (.agg (cs.take (P.cellsOf t))) else none
 |some false=>match cs with
  |c::_=>some c
  |[]=>none
 |none=>none
def du{α:Type}(cs:List α):Nat→List α→List α
 |_,[]=>cs
 |off,v::r=>du (cs.set off v) (off+1) r
def AK(place:Nat→Option (Nat×Nat))(cs:List AV):List (Nat×AV)→Option (List AV)
 |[]=>some cs
 |(i,v)::r =>
  match place i with
  |none=>none
  |some (off,size)=>if v.cells.length≠size∨off+v.cells.length>cs.length then none else AK place (du cs off v.cells) r
def dN(op:BinOp)(k:IntKind)(a b:Int):Int :=
 k.wrap ((match op with
  |.and=>BitVec.ofInt k.bits a &&& BitVec.ofInt k.bits b
  |.or=>BitVec.ofInt k.bits a ||| BitVec.ofInt k.bits b
  |.xor=>BitVec.ofInt k.bits a ^^^ BitVec.ofInt k.bits b
  |_=>BitVec.ofInt k.bits a &&& ~~~(BitVec.ofInt k.bits b)).toNat:Int)
def TD(k:IntKind)(a b:Int):Int:=k.wrap (a*2 ^ (min b.toNat k.bits))
def j8(k:IntKind)(a b:Int):Int:=a.fdiv (2 ^ (min b.toNat k.bits))
def Q8(op:BinOp)(k:IntKind)(a b:Int):Option AV :=
 match op with
 |.add=>some (.int k (k.wrap (a+b)))
 |.sub=>some (.int k (k.wrap (a-b)))
 |.mul=>some (.int k (k.wrap (a*b)))
 |.eql=>some (.bool (a==b))
 |.neq=>some (.bool (a != b))
 |.lss=>some (.bool (decide (a<b)))
 |.leq=>some (.bool (decide (a≤b)))
 |.gtr=>some (.bool (decide (a>b)))
 |.geq=>some (.bool (decide (a≥b)))
 |.and=>some (.int k (dN .and k a b))
 |.or=>some (.int k (dN .or k a b))
 |.xor=>some (.int k (dN .xor k a b))
 |.andNot=>some (.int k (dN .andNot k a b))
 |_=>none
def TE(op:BinOp)(a b:ByteArray):Option AV :=
 match op with
 |.eql=>some (.bool (a==b))
 |.neq=>some (.bool (!(a==b)))
 |_=>none
def p4:(k:K)→k.T→k.T→Bool
 |.int _,x,y=>(show Int from x)==y
 |.bool,x,y=>(show Bool from x)==y
 |.str,x,y=>(show ByteArray from x)==y
 |.sl _,_,_=>false
 |.mp _ _,_,_=>false
 |.pair a b,x,y=>p4 a x.1 y.1&&p4 b x.2 y.2
 |.one k,x,y=>p4 k x y
def rK(kk:K){α:Type}(x:kk.T)(es:List (kk.T×α)):Option Nat:=es.findIdx? fun e=>p4 kk x e.1
def ia(kk:K){α:Type}(x:kk.T)(es:List (kk.T×α)):Option α:=(rK kk x es).bind fun i=>(es[i]?).map (·.2)
def lq(kk:K){α:Type}(x:kk.T)(v:α)(es:List (kk.T×α)):List (kk.T×α):=match rK kk x es with
 |some i=>es.set i (x,v)
 |none=>es++[(x,v)]
def KY(kk:K){α:Type}(x:kk.T)(es:List (kk.T×α)):List (kk.T×α):=match rK kk x es with
 |some i=>es.eraseIdx i
 |none=>es
def mu:(k:K)→k.T
 |.int _=>(0:Int)
 |.bool=>false
 |.str=>ByteArray.empty
 |.sl k=>([]:List k.T)
 |.pair a b=>(mu a,mu b)
 |.one k=>mu k
 |.mp kk vk=>([]:List (kk.T×vk.T))
def KZ:K→Value→Bool
 |.int ik,.int S7 n=>decide (S7=ik∧n=0)
 |.bool,.bool b => !b
 |.str,.string s=>decide (s=ByteArray.empty)
 |.sl _,.slice a n c=>decide (a=none∧n=0∧c=0)
 |_,_=>false
def HR(t:TypeId)(k:K):Bool:=match P.info? t with
 |some i=>match i.zero with
  |some z=>KZ k z
  |none=>false
 |none=>false
def HS(Eqs:TypeId→Option K)(t:TypeId)(k:K):Bool:=k.flat&&(match k,P.underlying t with
 |.int ik,some (.int S7)=>decide (S7=ik)
 |.bool,some .bool=>true
 |.str,some .string=>true
 |k,_=>k.isAgg&&decide (Eqs t=some k))
def mapOf(Eqs:TypeId→Option K)(t:TypeId):Option (K×K):=match P.underlying t with
 |some (.map a b)=>match oQ P 8 a,oQ P 8 b with
  |some kk,some vk=>if HS P Eqs a kk&&HR P b vk then some (kk,vk) else none
  |_,_=>none
 |_=>none
def cQ{α:Type}(xs:List α)(i:Int):Option α:=if 0≤i then xs[i.toNat]? else none
def eL:Nat:=1073741824
def bL(n m:Nat):Bool:=decide (n+m≤eL)
def kz(n:Nat)(lo hi:Option AV):Option (Int×Int) :=
 match lo,hi with
 |none,none=>some (0,(n:Int))
 |some (.int .i64 l),none=>some (l,(n:Int))
 |none,some (.int .i64 h)=>some (0,h)
 |some (.int .i64 l),some (.int .i64 h)=>some (l,h)
 |_,_=>none
def aR(n:Nat)(l h:Int):Bool:=decide (0≤l)&&(decide (l≤h)&&decide (h≤(n:Int)))
def cut{α:Type}(xs:List α)(l h:Int):List α:=(xs.take h.toNat).drop l.toNat
def Q9(s:ByteArray)(l h:Int):ByteArray:=s.extract l.toNat h.toNat
variable {R:Type}
def eU(k:K)(h:Heap)(v:AV):Option k.T:=if k.isAgg=v.isAgg then de k (v.cells.map (cq h)) else none
def rowOf(h:Heap)(v:AV)(k:K):Option (List k.T) :=
 match cq h v with
 |.sl _ k' xs=>if e:k'=k then some (e▸xs) else none
 |.eY=>some []
 |_=>none
def B4(e:TypeId)(k:K):Bool :=
 match P.info? e with
 |some i=>(match i.zero with
  |some z=>decide (i.size=k.sz)&&(decide (z.cells.size=k.sz)&&decide (i.bytes≤65536))
  |none=>false)
 |none=>false
def mv(h:Heap)(id:Nat)(t:TypeId)(s x:AV)(K:bj→Option R):Option R :=
 match vp P t with
 |none=>none
 |some e =>
  match oQ P 8 e with
  |none=>none
  |some kk =>
   match rowOf h x kk,B4 P e kk with
   |some ys,true =>
    match s with
    |.eY=>cond (bL 0 ys.length) (K (.new (.bp id) [(id,.own (.row e kk) ys)])) none
    |.bp c8 =>
     match h.get c8 with
     |some (.own (.row e' k') xs) =>
      if c:e'=e∧k'=kk then cond (bL xs.length ys.length) (K (.wr (.bp id) ((h.del c8).set id (.own (.row e kk) (c.2▸xs++ys))))) none else none
     |_=>none
    |.sl ex k' xs =>
     if c:k'=kk then cond (ex&&((!ys.isEmpty || xs.isEmpty)&&bL xs.length ys.length)) (K (.new (.bp id) [(id,.own (.row e kk) (c▸xs++ys))])) none else none
    |_=>none
   |_,_=>none
def ue:AV→Bool
 |.no=>false
 |.agg _=>false
 |.ml _=>false
 |_=>true
def FP(id:Nat):List AV→Bool
 |[]=>true
 |.bp i::r => !(i==id)&&FP id r
 |_::r=>FP id r
def stored(h:Heap)(vs:List AV):List AV×Heap:=(vs.map (cq h),cm h vs)
def p6(h:Heap)(t:TypeId)(a v:AV)(K:bj→Option R):Option R :=
 if v.cells.length=P.cellsOf t∧(P.info? t).isSome∧v.cells.all ue then
  match a with
  |.ref id s i off =>
   match h.get id with
   |some (.box ty cs)=>if i=0∧off+v.cells.length≤cs.length then K (.wr .no (h.set id (.box ty (du cs off v.cells)))) else none
   |some (.own (.row ty kk) xs) =>
    (xs[i]?).bind fun x =>
     if s=kk.sz∧off+v.cells.length≤kk.sz∧FP id v.cells then
      match de kk (du (enc kk x) off (stored h v.cells).1) with
      |some y=>K (.wr .no ((stored h v.cells).2.set id (.own (.row ty kk) (xs.set i y))))
      |none=>none
     else none
   |_=>none
  |_=>none
 else none
def kA(h:Heap)(t:TypeId)(a:AV)(K:bj→Option R):Option R :=
 match a with
 |.ref id s i off =>
  match h.get id with
  |some (.box _ cs)=>if i=0 then(match dy P t (cs.drop off) with|some v=>K (.val v)|none=>none) else none
  |some (.own (.row _ kk) xs)=>if s=kk.sz then(xs[i]?).bind fun x=>match dy P t ((enc kk x).drop off) with|some v=>K (.val v)|none=>none else none
  |_=>none
 |.fp kk x off=>match dy P t ((enc kk x).drop off) with|some v=>K (.val v)|none=>none
 |_=>none
def cZ(h:Heap)(t:TypeId)(x i:AV)(K:bj→Option R):Option R :=
 match vp P t with
 |none=>none
 |some e =>
  match x,i with
  |.sl _ kk xs,.int _ n=>if P.cellsOf e=kk.sz then(cQ xs n).bind fun y=>K (.val (.fp kk y 0)) else none
  |.bp id,.int _ n =>
   match h.get id with
   |some (.own (.row _ kk) xs)=>if P.cellsOf e=kk.sz then cond (decide (0≤n)&&decide (n<(xs.length:Int))) (K (.val (.ref id kk.sz n.toNat 0))) none else none
   |_=>none
  |_,_=>none
def xh(x:AV)(lo hi mx:Option AV)(K:bj→Option R):Option R :=
 match x,mx with
 |.str s,none =>
  match kz s.size lo hi with
  |some (l,u)=>cond (aR s.size l u) (K (.val (.str (Q9 s l u)))) none
  |none=>none
 |_,_=>none
def p7(h:Heap)(sz:Nat)(x:AV)(lo hi mx:Option AV)(K:bj→Option R):Option R :=
 match x with
 |.eY =>
  match kz 0 lo hi,mx with
  |some (l,u),none=>cond (aR 0 l u) (K (.val .eY)) none
  |_,_=>none
 |.sl _ kk xs =>
  if sz=kk.sz then
   match kz xs.length lo hi with
   |some (l,u) =>
    match mx with
    |none=>cond (aR xs.length l u) (K (.val (.sl false kk (cut xs l u)))) none
    |some (.int .i64 m)=>cond (aR xs.length l u&&(hi.isSome&&decide (m=u))) (K (.val (.sl true kk (cut xs l u)))) none
    |_=>none
   |none=>none
  else none
 |.bp id =>
  match h.get id with
  |some (.own (.row _ kk) xs) =>
   if sz=kk.sz then
    match kz xs.length lo hi with
    |some (l,u) =>
     match mx with
     |none=>cond (aR xs.length l u) (K (.wr (.sl false kk (cut xs l u)) (h.del id))) none
     |some (.int .i64 m)=>cond (aR xs.length l u&&(hi.isSome&&decide (m=u))) (K (.wr (.sl true kk (cut xs l u)) (h.del id))) none
     |_=>none
    |none=>none
   else none
  |_=>none
 |_=>none
def Ra(t:TypeId)(x:AV):Bool :=
 match P.underlying t,x with
 |some .string,.str _=>true
 |some (.slice _),.str _=>false
 |some (.slice _),_=>true
 |_,_=>false
def FQ(t:TypeId):Bool :=
 match P.underlying t with
 |some (.map _ _)=>true
 |_=>false
def AL(h:Heap)(x:AV)(K:bj→Option R):Option R :=
 match cq h x with
 |.str s=>K (.val (.int .i64 (s.size:Int)))
 |.sl _ _ xs=>K (.val (.int .i64 (xs.length:Int)))
 |.eY=>K (.val (.int .i64 0))
 |_=>none
def uf(h:Heap)(x:AV)(K:bj→Option R):Option R :=
 match cq h x with
 |.mp _ _ es=>K (.val (.int .i64 (es.length:Int)))
 |_=>none
def kg(Eqs:TypeId→Option K)(id:Nat)(t:TypeId)(K:bj→Option R):Option R :=
 match mapOf P Eqs t with
 |some (kk,vk)=>K (.new (.bp id) [(id,.own (.map kk vk) [])])
 |none=>none
def mw(Eqs:TypeId→Option K)(h:Heap)(t:TypeId)(m i:AV)(ok:Bool)(K:bj→Option R):Option R :=
 match mapOf P Eqs t,cq h m with
 |some (kk,vk),.mp HQ Oq es =>
  if c:HQ=kk∧Oq=vk then
   match eU kk h i with
   |some x=>K (.val (cond ok (.ml [bX vk ((ia kk x (c.1▸c.2▸es:List (kk.T×vk.T))).getD (mu vk)),.bool (ia kk x (c.1▸c.2▸es:List (kk.T×vk.T))).isSome]) (bX vk ((ia kk x (c.1▸c.2▸es:List (kk.T×vk.T))).getD (mu vk)))))
   |none=>none
  else none
 |_,_=>none
def gN(Eqs:TypeId→Option K)(h:Heap)(t:TypeId)(m i v:AV)(K:bj→Option R):Option R :=
 match mapOf P Eqs t,m with
 |some (kk,vk),.bp id =>
  match h.get id with
  |some (.own (.map HQ Oq) es) =>
   if c:HQ=kk∧Oq=vk then
    match eU kk h i,eU vk h v,(v.cells.all fun c=>match c with | .bp j => !(j==id)|_=>true) with
    |some x,some y,true=>K (.wr (.ml []) ((cm h v.cells).set id (.own (.map kk vk) (lq kk x y (c.1▸c.2▸es:List (kk.T×vk.T))))))
    |_,_,_=>none
   else none
  |_=>none
 |_,_=>none
def my(Eqs:TypeId→Option K)(h:Heap)(t:TypeId)(m i:AV)(K:bj→Option R):Option R :=
 match mapOf P Eqs t,m with
 |some (kk,vk),.bp id =>
  match h.get id with
  |some (.own (.map HQ Oq) es) =>
   if c:HQ=kk∧Oq=vk then
    match eU kk h i with
    |some x=>K (.wr (.ml []) (h.set id (.own (.map kk vk) (KY kk x (c.1▸c.2▸es:List (kk.T×vk.T))))))
    |none=>none
   else none
  |_=>none
 |_,_=>none
def mz(id:Nat)(t:TypeId)(x:AV)(K:bj→Option R):Option R :=
 match P.underlying t,x with
 |some .string,.str s=>K (.new (.bp id) [(id,.own .mr (s,0))])
 |_,_=>none
def nj(s:ByteArray)(p:Nat):Int:=(Utf8.decode s p).1
def xi(s:ByteArray)(p:Nat):Nat:=(Utf8.decode s p).2
def qa(h:Heap)(x:AV)(K:bj→Option R):Option R :=
 match x with
 |.bp id=>match h.get id with
  |some (.own .mr x)=>cond (decide (x.2<x.1.size)) (K (.wr (.ml [.bool true,.int .i64 (x.2:Int),.int .i32 (nj x.1 x.2)]) (h.set id (.own .mr (x.1,x.2+xi x.1 x.2))))) (K (.val (.ml [.bool false])))
  |_=>none
 |_=>none
def qb(h:Heap)(x:AV)(K:bj→Option R):Option R :=
 match x with
 |.bp id=>match h.get id with
  |some (.own (.iter kk vk) (some c,_))=>K (.val (.ml [bX kk c.1,bX vk c.2]))
  |_=>none
 |_=>none
def B5:TypeDesc→Bool
 |.bool=>true
 |_=>false
def ug:TypeDesc→Bool
 |.pointer _=>true
 |_=>false
def vq(Eqs:TypeId→Option K)(op:BinOp)(t:TypeId)(x y:AV)(K:bj→Option R):Option R :=
 match x,y with
 |.int k a,.int k' b =>
  match op with
  |.shl=>cond (decide (b<0)) none (K (.val (.int k (TD k a b))))
  |.shr=>cond (decide (b<0)) none (K (.val (.int k (j8 k a b))))
  |op =>
  if k=k' then
   match op with
   |.quo=>cond (b==0) none (K (.val (.int k (k.wrap (a.tdiv b)))))
   |.rem=>cond (b==0) none (K (.val (.int k (a.tmod b))))
   |op=>match Q8 op k a b with
    |some v=>K (.val v)
    |none=>none
  else none
 |.str a,.str b=>match TE op a b with
  |some v=>K (.val v)
  |none=>none
 |.bool a,.bool b =>
  match op,(P.underlying t).map B5 with
  |.eql,some true=>K (.val (.bool (a==b)))
  |.neq,some true=>K (.val (.bool (!(a==b))))
  |_,_=>none
 |.agg a,.agg b =>
  match Eqs t with
  |none=>none
  |some k =>
   match op,de k a,de k b with
   |.eql,some x,some y=>K (.val (.bool (p4 k x y)))
   |.neq,some x,some y=>K (.val (.bool (!(p4 k x y))))
   |_,_,_=>none
 |.kx,.kx =>
  match op,(P.underlying t).map ug with
  |.eql,some true=>K (.val (.bool true))
  |.neq,some true=>K (.val (.bool false))
  |_,_=>none
 |.ref ..,.kx =>
  match op,(P.underlying t).map ug with
  |.eql,some true=>K (.val (.bool false))
  |.neq,some true=>K (.val (.bool true))
  |_,_=>none
 |_,_=>none
def Qd(b:Bool)(x y:AV):AV :=
 match x,y with
 |.bool p,.bool q=>.bool (cond b p q)
 |x,y=>cond b x y
end
def dt(h:Heap)(ok:OK)(c:AV):Option ok.T :=
 match c with
 |.eY=>match ok with
  |.row _ _=>some []
  |_=>none
 |.bp id=>match h.get id with
  |some (.own S8 x)=>if e:S8=ok then some (e▸x) else none
  |_=>none
 |_=>none
def nk:AV→List Nat
 |.bp id=>[id]
 |_=>[]
def cr:(cU:List CK)→Heap→List AV→Option (oR cU)
 |[],_,[]=>some ()
 |.val k::r,h,cs =>
  match de k ((cs.take k.sz).map (cq h)),cr r h (cs.drop k.sz) with
  |some x,some y=>some (x,y)
  |_,_=>none
 |.own ok::r,h,c::cs =>
  match dt h ok c,cr r h cs with
  |some x,some y=>some (x,y)
  |_,_=>none
 |_,_,_=>none
def ov:List CK→List AV→List AV
 |.val k::r,cs=>cs.take k.sz++ov r (cs.drop k.sz)
 |.own _::r,_::cs=>ov r cs
 |_,_=>[]
def eO:List CK→List AV→List Nat
 |.val k::r,cs=>eO r (cs.drop k.sz)
 |.own _::r,c::cs=>nk c++eO r cs
 |_,_=>[]
def av:(cU:List CK)→Nat→oR cU→List AV
 |[],_,_=>[]
 |.val k::r,n,x=>enc k x.1++av r (n+1) x.2
 |.own _::r,n,x=>.bp n::av r (n+1) x.2
def aM:(cU:List CK)→Nat→oR cU→Heap
 |[],_,_=>[]
 |.val _::r,n,x=>aM r (n+1) x.2
 |.own ok::r,n,x=>(n,.own ok x.1)::aM r (n+1) x.2
def AM(h:Heap)(id:Nat)(ty:TypeId):Option (List AV) :=
 match h.get id with
 |some (.box wb cs)=>if wb=ty then some cs else none
 |_=>none
def ow:(b:BK)→Heap→Nat→Option b.T
 |.box ty c,h,i=>match AM h i ty with
  |some cs=>cr c h cs
  |none=>none
 |.own ok,h,i=>dt h ok (.bp i)
def cC:(bs:List BK)→Heap→List Nat→Option (ud bs)
 |[],_,[]=>some ()
 |b::r,h,i::is =>
  match ow b h i,cC r h is with
  |some x,some y=>some (x,y)
  |_,_=>none
 |_,_,_=>none
def ib:(b:BK)→Nat→Nat→b.T→Heap
 |.box ty c,i,n,x=>(i,.box ty (av c n x))::aM c n x
 |.own ok,i,_,x=>[(i,.own ok x)]
def aX:(bs:List BK)→List Nat→Nat→ud bs→Heap
 |b::r,i::is,n,x=>ib b i n x.1++aX r is (n+16) x.2
 |_,_,_,_=>[]
def xj:BK→Heap→Nat→List AV
 |.box _ c,h,i=>match h.get i with
  |some (.box _ cs)=>ov c cs
  |_=>[]
 |.own _,_,_=>[]
def eZ:List BK→Heap→List Nat→List AV
 |b::r,h,i::is=>xj b h i++eZ r h is
 |_,_,_=>[]
def jt:BK→Heap→Nat→List Nat
 |.box _ c,h,i=>i::(match h.get i with
  |some (.box _ cs)=>eO c cs
  |_=>[])
 |.own _,_,i=>[i]
def cE:List BK→Heap→List Nat→List Nat
 |b::r,h,i::is=>jt b h i++cE r h is
 |_,_,_=>[]
def fS(h:Heap):List Nat→Heap
 |[]=>h
 |i::r=>fS (h.del i) r
def AO:AV→Option Nat
 |.ref id _ 0 0=>some id
 |_=>none
def iO:List AV→Option (List Nat)
 |[]=>some []
 |v::r=>match AO v,iO r with
  |some i,some is=>some (i::is)
  |_,_=>none
def nm:List AV→Option (List Nat)
 |[]=>some []
 |.bp i::r=>match nm r with
  |some is=>some (i::is)
  |none=>none
 |_=>none
def cg:List PK→List AV→Option (List Nat)
 |[],[]=>some []
 |.val _::ps,_::vs=>cg ps vs
 |.ref::ps,v::vs=>match AO v,cg ps vs with
  |some i,some is=>some (i::is)
  |_,_=>none
 |.own::ps,.bp i::vs=>match cg ps vs with
  |some is=>some (i::is)
  |none=>none
 |.B3 f n::ps,.fn f' cap::vs =>
  if f'=f∧cap.length=n then match iO cap,cg ps vs with
   |some a,some b=>some (a++b)
   |_,_=>none
  else none
 |.agg n::ps,.agg cs::vs =>
  if cs.length=n then match nm cs,cg ps vs with
   |some a,some b=>some (a++b)
   |_,_=>none
  else none
 |_,_=>none
def dI:(ps:List PK)→Heap→List AV→Option (Dg (jX ps))
 |[],_,[]=>some ()
 |.val k::ps,h,v::vs =>
  match eU k h v,dI ps h vs with
  |some x,some y=>some (x,y)
  |_,_=>none
 |.ref::ps,h,_::vs=>dI ps h vs
 |.own::ps,h,_::vs=>dI ps h vs
 |.B3 _ _::ps,h,_::vs=>dI ps h vs
 |.agg _::ps,h,_::vs=>dI ps h vs
 |_,_,_=>none
def cS:List PK→List AV→List AV
 |.val _::ps,v::vs=>v.cells++cS ps vs
 |_::ps,_::vs=>cS ps vs
 |_,_=>[]
def aH:(ps:List PK)→(ids:List Nat)→Nat→Dg (jX ps)→List (Nat×AV)
 |[],_,_,_=>[]
 |.val k::ps,ids,s,x=>(s,bX k x.1)::aH ps ids (s+1) x.2
 |.ref::ps,i::ids,s,x=>(s,.ref i 0 0 0)::aH ps ids (s+1) x
 |.ref::ps,[],s,x=>(s,.no)::aH ps [] (s+1) x
 |.own::ps,i::ids,s,x=>(s,.bp i)::aH ps ids (s+1) x
 |.own::ps,[],s,x=>(s,.no)::aH ps [] (s+1) x
 |.B3 f n::ps,ids,s,x=>(s,.fn f ((ids.take n).map fun i=>.ref i 0 0 0))::aH ps (ids.drop n) (s+1) x
 |.agg n::ps,ids,s,x=>(s,.agg ((ids.take n).map .bp))::aH ps (ids.drop n) (s+1) x
def lz:List CK→Nat→Nat
 |.val k::r,c+1=>k.sz+lz r c
 |.own _::r,c+1=>1+lz r c
 |_,_=>0
def eV:List CK→Nat→Bool
 |.own (.row _ _)::_,0=>true
 |_::r,c+1=>eV r c
 |_,_=>false
def K0(id:Nat):Option AV→Bool
 |some (.bp lr)=>lr==id
 |_=>false
def vr(c:List CK)(cs:List AV)(id s off:Nat)(a:Nat×Nat×Nat):Bool :=
 K0 id (cs[lz c a.1]?)&&(decide (s=a.2.1)&&(decide (off=a.2.2)&&eV c a.1))
def lX(bs:List BK)(h:Heap)(ids:List Nat)(b:Nat)(alts:List (Nat×Nat×Nat))(v:AV):Option (Option (Fin alts.length×Nat)) :=
 match v with
 |.kx=>some none
 |.ref id s i off =>
  (match ids[b]?,bs[b]? with
  |some bi,some bk=>(match h.get bi with
   |some (.box _ cs)=>(match (List.finRange alts.length).find? (fun a=>vr bk.cU cs id s off (alts.get a)) with
    |some a=>some (some (a,i))
    |none=>none)
   |_=>none)
  |_,_=>none)
 |_=>none
def xk(c:List CK)(h:Heap)(v:AV):Option (oR c) :=
 match v with
 |.agg cs=>cr c h cs
 |_=>none
def bq(bs:List BK):(rs:List RK)→Heap→List Nat→List AV→Option (ky rs)
 |[],_,_,[]=>some ()
 |.val k::r,h,ids,v::vs =>
  match eU k h v,bq bs r h ids vs with
  |some x,some y=>some (x,y)
  |_,_=>none
 |.own ok::r,h,ids,v::vs =>
  match dt h ok v,bq bs r h ids vs with
  |some x,some y=>some (x,y)
  |_,_=>none
 |.dJ b alts::r,h,ids,v::vs =>
  match lX bs h ids b alts v,bq bs r h ids vs with
  |some x,some y=>some (x,y)
  |_,_=>none
 |.agg c::r,h,ids,v::vs =>
  match xk c h v,bq bs r h ids vs with
  |some x,some y=>some (x,y)
  |_,_=>none
 |_,_,_,_=>none
def fa:List RK→List AV→List AV
 |.val _::r,v::vs=>v.cells++fa r vs
 |.agg c::r,v::vs=>ov c v.cells++fa r vs
 |_::r,_::vs=>fa r vs
 |_,_=>[]
def dm:List RK→List AV→List Nat
 |.own _::r,v::vs=>nk v++dm r vs
 |.agg c::r,v::vs=>eO c v.cells++dm r vs
 |_::r,_::vs=>dm r vs
 |_,_=>[]
def sI(b n:Nat)(alts:List (Nat×Nat×Nat)):Option (Fin alts.length×Nat)→AV
 |none=>.kx
 |some (a,i)=>.ref (n+16*b+(alts.get a).1) (alts.get a).2.1 i (alts.get a).2.2
def aI:(rs:List RK)→(ids:List Nat)→(n m:Nat)→ky rs→List AV
 |[],_,_,_,_=>[]
 |.val k::r,ids,n,m,x=>bX k x.1::aI r ids n (m+1) x.2
 |.agg c::r,ids,n,m,x=>.agg (av c m x.1)::aI r ids n (m+1) x.2
 |.own _::r,ids,n,m,x=>.bp m::aI r ids n (m+1) x.2
 |.dJ b alts::r,ids,n,m,x=>sI b n alts x.1::aI r ids n (m+1) x.2
def ag:(rs:List RK)→(m:Nat)→ky rs→Heap
 |[],_,_=>[]
 |.own ok::r,m,x=>(m,.own ok x.1)::ag r (m+1) x.2
 |.agg c::r,m,x=>aM c m x.1++ag r (m+1) x.2
 |.val _::r,m,x=>ag r (m+1) x.2
 |.dJ _ _::r,m,x=>ag r (m+1) x.2
def dO:List AV→AV
 |[v]=>v
 |vs=>.ml vs
def bU:List CK→Nat→List Nat
 |[],_=>[]
 |.val _::r,n=>bU r (n+1)
 |.own _::r,n=>n::bU r (n+1)
def bM:List BK→List Nat→Nat→List Nat
 |b::r,i::is,n=>i::(bU b.cU n++bM r is (n+16))
 |_,_,_=>[]
def aY:List RK→Nat→List Nat
 |[],_=>[]
 |.own _::r,m=>m::aY r (m+1)
 |.agg c::r,m=>bU c m++aY r (m+1)
 |.val _::r,m=>aY r (m+1)
 |.dJ _ _::r,m=>aY r (m+1)
def aF(n:Nat):List Nat:=(List.range n).map fun i=>1000+20*i
def oS(g:aL):List Nat:=bM g.bs (aF g.bs.length) 2000++aY g.rs 3000
def Dh:List AV→Bool
 |[]=>true
 |.bp _::_=>false
 |_::r=>Dh r
def oT:List AV→Bool
 |[]=>true
 |v::r=>Dh v.cells&&oT r
def bR:List Nat→Bool
 |[]=>true
 |i::r => !(r.contains i)&&bR r
def uh(kept:List Nat)(jV:List AV):Bool:=bR kept&&kept.all fun i=>FP i jV
section
variable (P:Program) (Eqs:TypeId→Option K) (Sg:FuncId→Option aL) (F:(f:FuncId)→(g:aL)→g.A→Option g.B)
variable {R:Type}
def rL(f:FuncId):List AV→FuncId
 |[]=>f
 |.fn g _::_=>f+1000*(g+1)
 |_::r=>rL f r
def xl:List AV→Bool
 |[]=>false
 |.bp _::_=>true
 |.agg cs::r=>(cs.any fun c=>match c with | .bp _=>true|_=>false) || xl r
 |_::r=>xl r
def keyOf(f:FuncId)(vs:List AV):FuncId:=if xl vs&&(Sg (rL f vs+500000)).isSome then rL f vs+500000 else rL f vs
def Ak(bs:List BK)(r:RK):Bool:=match r with
 |.dJ b alts=>match bs[b]? with
  |some bk=>(alts.all fun a=>eV bk.cU a.1)&&decide ((alts.map fun a=>(a.1,a.2.2)).Nodup)
  |none=>false
 |.agg c=>decide (c.length≤16)
 |_=>true
def oU(bs:List BK)(rs:List RK):Bool:=rs.all (Ak bs)
def K1(f:FuncId)(g:aL):Bool:=oU g.bs g.rs&&( (decide (g.bs.length≤8)&&(g.bs.all fun b=>decide (b.cU.length≤16)))&&((decide (g.rs.length≤100)&&decide (f<1000))&&bR (oS g)))
def oV{α R:Type}(o:Option α)(a:Option R)(f:α→Option R):Option R:=match o with
 |none=>a
 |some x=>f x
def TF{R:Type}(n:Nat)(a:Fin n)(f:Fin n→Option R):Option R:=(List.finRange n).foldr (fun j r=>cond (a.val==j.val) (f j) r) none
def iP{R:Type}:(rs:List RK)→ky rs→(ky rs→Option R)→Option R
 |[],_,K=>K ()
 |.dJ _ alts::r,x,K=>oV x.1 (iP r x.2 fun z=>K (none,z)) (fun p=>TF alts.length p.1 fun a=>iP r x.2 fun z=>K (some (a,p.2),z))
 |.val _::r,x,K=>iP r x.2 fun z=>K (x.1,z)
 |.own _::r,x,K=>iP r x.2 fun z=>K (x.1,z)
 |.agg _::r,x,K=>iP r x.2 fun z=>K (x.1,z)
def ic(h:Heap)(id:Nat)(f:FuncId)(vs:List AV)(K:bj→Option R):Option R :=
 match Sg (keyOf Sg f vs) with
 |none=>none
 |some g=>match g.x with
 |some u=>if f<1000 then(u h id vs).bind fun p=>cond p.1 (K p.2) none else none
 |none =>
  match cg g.ps vs,K1 f g with
  |some is,true =>
   if is.isEmpty&&g.rs.all RK.plain then
   match dI g.ps h vs,cC g.bs h [],g.rs.all RK.plain with
   |some x,some b,true =>
    (F (keyOf Sg f vs) g (x,b)).bind fun y =>
     cond (g.rs.all RK.flat || oT vs)
      (K (.new (dO (aI g.rs [] id (id+128) y.1)) (ag g.rs (id+128) y.1)))
      (K (.wr (dO (aI g.rs [] id (id+128) y.1)) (ag g.rs (id+128) y.1++cm h (cS g.ps vs))))
   |_,_,_=>none
   else
   match dI g.ps h vs,cC g.bs h is,uh (cE g.bs h is) (cS g.ps vs++eZ g.bs h is)&&bR (bM g.bs is id++aY g.rs (id+128)) with
   |some x,some b,true =>
    (F (keyOf Sg f vs) g (x,b)).bind fun y=>iP g.rs y.1 fun z =>
     K (.wr (dO (aI g.rs is id (id+128) z))
      (aX g.bs is id y.2++(ag g.rs (id+128) z++fS (cm h (cS g.ps vs++eZ g.bs h is)) (cE g.bs h is))))
   |_,_,_=>none
  |_,_=>none
def oW{α:Type}(xs:List α)(i:Int)(ys:List α):Bool:=decide (0≤i)&&(decide (i≤xs.length)&&(decide (ys.length=1)&&bL xs.length ys.length))
def fb{α:Type}(xs:List α)(i:Int)(ys:List α):List α:=xs.take i.toNat++(ys++xs.drop i.toNat)
def iK{α:Type}(xs:List α)(i j:Int):Bool:=decide (0≤i)&&(decide (i<j)&&(decide (j≤xs.length)&&bL xs.length 0))
def cV{α:Type}(xs:List α)(i j:Int):List α:=xs.take i.toNat++xs.drop j.toNat
def xm(n:Int):Bool:=decide (0≤n)&&decide (n≤eL)
def K2(ty:TypeId)(k:K)(h:Heap)(id:Nat):List AV→Option (Bool×bj)
 |[.bp o,.int .i64 i,.bp j]=>match dt h (.row ty k) (.bp o),dt h (.row ty k) (.bp j) with
  |some xs,some ys=>if o=j then none else some (oW xs i ys,.wr (.bp id) ((id,.own (.row ty k) (fb xs i ys))::h.del o))
  |_,_=>none
 |_=>none
def Ot(ty:TypeId)(k:K)(h:Heap)(id:Nat):List AV→Option (Bool×bj)
 |[.bp o,.int .i64 i,.int .i64 j]=>match dt h (.row ty k) (.bp o) with
  |some xs=>some (iK xs i j,.wr (.bp id) ((id,.own (.row ty k) (cV xs i j))::h.del o))
  |none=>none
 |_=>none
def K3(ty:TypeId)(k:K)(_:Heap)(id:Nat):List AV→Option (Bool×bj)
 |[.eY,.int .i64 n]=>some (xm n,.new (.bp id) [(id,.own (.row ty k) [])])
 |_=>none
def ui(id:Nat)(t:TypeId)(vs:List AV)(K:bj→Option R):Option R :=
 K (.new (.ref id vs.length 0 0) [(id,.box t vs)])
def Qe:AV→Bool
 |.no=>false
 |_=>true
def qc(t:TypeId)(parts:List (Nat×AV))(K:bj→Option R):Option R :=
 match xg P t,P.underlying t with
 |some z,some (.struct fs) =>
  match AK (fun i=>(fs[i]?).map fun f=>(f.offset,P.cellsOf f.type)) z parts,fs.toList.all (fun f=>(P.info? f.type).isSome)&&parts.all (fun p=>Qe p.2) with
  |some cs,true=>K (.val (.agg cs))
  |_,_=>none
 |_,_=>none
def oX(k:K)(h:Heap):Nat→List (Nat×AV)→Option (List k.T)
 |_,[]=>some []
 |i,(j,v)::r =>
  if j=i then match de k (v.cells.map (cq h)),oX k h (i+1) r with
   |some x,some xs=>some (x::xs)
   |_,_=>none
  else none
def sJ(h:Heap)(id:Nat)(t:TypeId)(n:Nat)(parts:List (Nat×AV))(K:bj→Option R):Option R :=
 match vp P t with
 |none=>none
 |some e =>
  match oQ P 8 e with
  |none=>none
  |some k =>
   match oX k h 0 parts,B4 P e k with
   |none,_=>none
   |some _,false=>none
   |some xs,true =>
    if parts.length=n∧n*k.sz≤1048576 then
     cond (oT (parts.map (·.2))) (K (.new (.bp id) [(id,.own (.row e k) xs)])) (K (.wr (.bp id) ((id,.own (.row e k) xs)::cm h (parts.flatMap (·.2.cells)))))
    else none
def Ou:bj→bj
 |.new (.bp _) [(_,.own (.row _ k) xs)]=>.new (.sl true k xs) []
 |e=>e
def uj(jV:Bool)(h:Heap)(id:Nat)(t:TypeId)(n:Nat)(parts:List (Nat×AV))(K:bj→Option R):Option R :=
 sJ P h id t n parts fun e=>K (if jV then Ou e else e)
def xn(src dst:TypeId)(x:AV)(K:bj→Option R):Option R :=
 match P.underlying src,P.underlying dst,x with
 |some (.int _),some (.int k),.int _ n=>K (.val (.int k (k.wrap n)))
 |some .string,some .string,.str s=>K (.val (.str s))
 |_,_,_=>none
def I7(mx:Bool)(vs:List AV)(K:bj→Option R):Option R :=
 match vs with
 |[.int k a,.int k' b]=>if k=k' then K (.val (.int k (cond mx (max a b) (min a b)))) else none
 |_=>none
def cv(id:Nat)(h:Heap)(s:List (Nat×AV))(o:Oper)(K:bj→Option R):Option R :=
 match o.op with
 |.move x | .assign x=>K (.val (ρ s x))
 |.pick c a b=>match ρ s c with
  |.bool t=>K (.val (Qd t (ρ s a) (ρ s b)))
  |_=>none
 |.box t x=>if(ρ s x).cells.all ue then ui id t (ρ s x).cells K else none
 |.alloc t=>match xg P t with
  |some z=>ui id t z K
  |none=>none
 |.build t ps=>qc P t (ps.toList.map fun p=>(p.1,ρ s p.2)) K
 |.buildSlice t n ps=>uj P (Sg (900000+t)).isSome h id t n (ps.toList.map fun p=>(p.1,ρ s p.2)) K
 |.load t a=>kA P h t (ρ s a) K
 |.store t a v=>p6 P h t (ρ s a) (ρ s v) K
 |.nilCheck x=>match ρ s x with
  |.ref id s i off=>K (.val (.ref id s i off))
  |.fp k x off=>K (.val (.fp k x off))
  |.fn f cap=>K (.val (.fn f cap))
  |_=>none
 |.binOp op t x y _=>vq P Eqs op t (ρ s x) (ρ s y) K
 |.unOp .not _ x=>match ρ s x with
  |.bool b=>K (.val (.bool (!b)))
  |_=>none
 |.convert src dst x=>xn P src dst (ρ s x) K
 |.makeFunc (.func f) first cap=>if first.size=0 then K (.val (.fn f (cap.toList.map (ρ s)))) else none
 |.slice t x lo hi mx=>match P.underlying t with
  |some .string=>xh (ρ s x) (lo.map (ρ s)) (hi.map (ρ s)) (mx.map (ρ s)) K
  |some (.slice e)=>if(P.info? e).isSome then p7 h (P.cellsOf e) (ρ s x) (lo.map (ρ s)) (hi.map (ρ s)) (mx.map (ρ s)) K else none
  |_=>none
 |.fieldAddr t x f=>match fR P t f,ρ s x with
  |some (n,ft),.ref id s i off=>if P.cellsOf ft=0 then none else K (.val (.ref id s i (off+n)))
  |some (n,ft),.fp k x off=>if P.cellsOf ft=0 then none else K (.val (.fp k x (off+n)))
  |_,_=>none
 |.field t x f=>match fR P t f,ρ s x with
  |some (n,ft),.agg cs=>match dy P ft (cs.drop n) with
   |some v=>K (.val v)
   |none=>none
  |_,_=>none
 |.indexAddr t x i=>cZ P h t (ρ s x) (ρ s i) K
 |.index t x i=>match P.underlying t,ρ s x,ρ s i with
  |some .string,.str b,.int _ n=>(if 0≤n then b[n.toNat]? else none).bind fun c=>K (.val (.int .u8 (c.toNat:Int)))
  |_,_,_=>none
 |.makeMap t none=>kg P Eqs id t K
 |.lookup t m i ok=>mw P Eqs h t (ρ s m) (ρ s i) ok K
 |.mapUpdate t m i v=>gN P Eqs h t (ρ s m) (ρ s i) (ρ s v) K
 |.range t x=>mz P id t (ρ s x) K
 |.next x true=>qa h (ρ s x) K
 |.entry x=>qb h (ρ s x) K
 |.extract t i=>match ρ s t with
  |.ml vs=>match vs[i]? with
   |some v=>K (.val v)
   |none=>none
  |_=>none
 |.call c =>
  match c.callee with
  |.value f=>match ρ s f with
   |.fn f cap=>ic Sg F h id f (c.args.toList.map (ρ s)++cap) K
   |_=>none
  |.builtin .len=>match c.args.toList,c.argTypes.toList with
   |[x],[t]=>if FQ P t then uf h (ρ s x) K else if Ra P t (ρ s x) then AL h (ρ s x) K else none
   |_,_=>none
  |.builtin .append=>match c.args.toList,c.argTypes.toList with
   |[x,y],[t,t']=>if t'=t then mv P h id t (ρ s x) (ρ s y) K else none
   |_,_=>none
  |.builtin .delete=>match c.args.toList,c.argTypes.toList with
   |[m,x],t::_=>my P Eqs h t (ρ s m) (ρ s x) K
   |_,_=>none
  |.builtin .max=>I7 true (c.args.toList.map (ρ s)) K
  |.builtin .min=>I7 false (c.args.toList.map (ρ s)) K
  |_=>none
 |_=>none
def lY:Op→Bool
 |.move _ | .assign _ | .extract .. | .unOp .. | .pick .. | .fieldAddr .. | .nilCheck _ | .makeFunc .. | .build ..=>true
 |.binOp op ..=>match op with
  |.eql | .neq=>false
  |_=>true
 |_=>false
def makes:Op→Bool
 |.box .. | .alloc _ | .buildSlice .. | .makeMap .. | .range ..=>true
 |.call c=>match c.callee with
  |.builtin .append | .value _=>true
  |_=>false
 |_=>false
def opId(rid i:Nat):Nat:=((rid+1)*128+i)*256
def sK(ops:Array Oper)(b:Array Nat):Bool :=
 (List.range ops.size).all fun i=>match ops[i]? with
  |some o=>(o.after.toList.all fun e => !Region.binds .any e || decide (e.on<i)) &&
   b.getD i 0==o.after.toList.foldl (fun s e=>if Region.binds .any e then s ||| 2 ^ e.on ||| b.getD e.on 0 else s) 0
  |none=>false
def xp(ops:Array Oper)(b:Array Nat):Bool :=
 (List.range ops.size).all fun j=>(List.range j).all fun i =>
  (b.getD j 0).testBit i || (match ops[i]?,ops[j]? with
   |some x,some y=>x.apart ops y
   |_,_=>false)
def ig:Op→Option Operand
 |.load _ x=>some x
 |.indexAddr _ x _=>some x
 |_=>none
def B6:Op→Bool
 |.store ..=>true
 |.call c=>match c.callee with
  |.value _=>true
  |_=>false
 |_=>false
def sL(ops:Array Oper)(i j:Nat):Bool :=
 match (ops[j]?).bind (ig ·.op) with
 |some (.tmp d)=>(List.range ops.size).all fun m => !(decide (min i j≤m)&&decide (m<max i j)) || (match (ops[m]?).bind (·.dst) with|some d'=>d' != d|none=>true)
 |some _=>true
 |none=>false
def sM:AV→List Nat
 |.ref id _ _ _=>[id]
 |.bp id=>[id]
 |_=>[]
def Rb(ops:Array Oper)(b:Array Nat)(i:Nat)(tmps:List (Nat×AV)):List Nat :=
 (List.range ops.size).flatMap fun j=>if j==i || (b.getD j 0).testBit i || (b.getD i 0).testBit j then[] else match (ops[j]?).bind (ig ·.op) with
  |some x=>sM (ρ tmps x)
  |none=>[]
def fT(ops:Array Oper)(b:Array Nat)(i:Nat)(tmps:List (Nat×AV))(o:Oper):List Nat:=if B6 o.op then Rb ops b i tmps else[]
def FR(ops:Array Oper)(b:Array Nat)(i:Nat):Bool :=
 (List.range ops.size).all fun j =>
  j==i || (b.getD j 0).testBit i || (b.getD i 0).testBit j || (match ops[j]? with|some o=>lY o.op|none=>true) || ((match ops[i]? with|some o=>B6 o.op|none=>false)&&sL ops i j)
def ahead(rid:Nat)(FU:Nat)(h:Heap):Heap:=h.filter fun p=>(p.1 / 32768 != rid+1) || FU.testBit (p.1 / 256%128)
def gq(n:Nat)(o:Oper):Bool :=
 match o.dst with
 |some d=>decide (d<n)
 |none=>true
end
def oY(rid bits id:Nat):Bool:=(id / 32768 != rid+1) || bits.testBit (id / 256%128)
mutual
def qU(rid bits:Nat):AV→Bool
 |.ref id _ _ _=>oY rid bits id
 |.bp id=>oY rid bits id
 |.fn _ cap=>xq rid bits cap
 |.agg cs=>xq rid bits cs
 |.ml vs=>xq rid bits vs
 |.no=>true
 |.bool _=>true
 |.int _ _=>true
 |.str _=>true
 |.kx=>true
 |.eY=>true
 |.fp _ _ _=>true
 |.sl _ _ _=>true
 |.mp _ _ _=>true
def xq(rid bits:Nat):List AV→Bool
 |[]=>true
 |v::r=>qU rid bits v&&xq rid bits r
end
def vt(rid bits:Nat):Heap→Bool
 |[]=>true
 |(id,.box _ cs)::r=>oY rid bits id&&xq rid bits cs&&vt rid bits r
 |(id,.own _ _)::r=>oY rid bits id&&vt rid bits r
def fL(draw:Bool)(rid:Nat)(ops:Array Oper)(b:Array Nat)(i FU:Nat):bj→Bool
 |.wr v h=>(!draw || FR ops b i)&&qU rid (FU ||| 2 ^ i) v&&vt rid (FU ||| 2 ^ i) h
 |.new v os=>qU rid (FU ||| 2 ^ i) v&&(os.all fun p=>p.1 / 256==(rid+1)*128+i)&&vt rid (FU ||| 2 ^ i) os
 |.val v=>qU rid FU v
def dQ(ft:List Nat)(hp h:Heap):Heap:=(ft.filterMap fun i=>(hp.get i).map fun o=>(i,o))++h
def fM(ft:List Nat)(hp:Heap):bj→bj
 |.wr v h=>.wr v (dQ ft hp h)
 |.val v=>.val v
 |.new v os=>.new v os
mutual
def oZ(ft:List Nat):AV→Bool
 |.ref id _ _ _ => !(ft.contains id)
 |.bp id => !(ft.contains id)
 |.fn _ cap=>rM ft cap
 |.agg cs=>rM ft cs
 |.ml vs=>rM ft vs
 |.no=>true
 |.bool _=>true
 |.int _ _=>true
 |.str _=>true
 |.kx=>true
 |.eY=>true
 |.fp _ _ _=>true
 |.sl _ _ _=>true
 |.mp _ _ _=>true
def rM(ft:List Nat):List AV→Bool
 |[]=>true
 |v::r=>oZ ft v&&rM ft r
end
def rN(ft:List Nat):Heap→Bool
 |[]=>true
 |(id,.box _ cs)::r => !(ft.contains id)&&(rM ft cs&&rN ft r)
 |(id,.own _ _)::r => !(ft.contains id)&&rN ft r
def lZ(ft:List Nat):bj→Bool
 |.wr v h=>oZ ft v&&rN ft h
 |_=>true
section
variable (P:Program) (Eqs:TypeId→Option K) (Sg:FuncId→Option aL) (F:(f:FuncId)→(g:aL)→g.A→Option g.B)
variable {R:Type}
noncomputable def qM(n:Nat)(f:Nat→Option R):Option R:=open Classical in if h:∃r,∀j,j<n→f j=some r then some (Classical.choose h) else none
def Di(m:Nat)(d:AV):AV→AV
 |.bp i=>if i=m then d else .bp i
 |v=>v
def np(id:Nat)(st:St)(o:Oper):Option St :=
 match o.op with
 |.range t x=>match P.underlying t,ρ st.tmps x with
  |some (.map _ _),.bp m=>match st.heap.get m with
   |some (.own (.map kk vk) es)=>some (({ tmps:=st.tmps.map fun p=>(p.1,Di m (.mp kk vk es) p.2),heap:=(id,.own (.iter kk vk) (none,es))::st.heap.del m }:St).put o.dst (.bp id))
   |_=>none
  |_,_=>none
 |_=>none
def sN(o:Oper):Option Operand :=
 match o.op with
 |.next x false=>some x
 |_=>none
noncomputable def j9(h:Heap)(x:AV)(K:AV→Heap→Option R):Option R :=
 match x with
 |.bp id=>match h.get id with
  |some (.own (.iter kk vk) p)=>cond p.2.isEmpty (K (.ml [.bool false]) h) (qM p.2.length fun j=>(p.2[j]?).bind fun c=>K (.ml [.bool true,bX kk c.1,bX vk c.2]) (h.set id (.own (.iter kk vk) (some c,p.2.eraseIdx j))))
  |_=>none
 |_=>none
def isNil(o:Oper):Option (Operand×Bool) :=
 match o.op with
 |.binOp op t x (.const v) _=>match op,P.underlying t,uc v with
  |.eql,some (.slice _),.eY=>some (x,true)
  |.neq,some (.slice _),.eY=>some (x,false)
  |_,_,_=>none
 |_=>none
noncomputable def sO(h:Heap)(x:AV)(want:Bool)(K:AV→Option R):Option R :=
 match cq h x with
 |.eY=>K (.bool want)
 |.sl _ _ xs=>cond xs.isEmpty (qM 2 fun j=>K (.bool ((j==0)==want))) (K (.bool (!want)))
 |_=>none
noncomputable def bc(rid:Nat)(draw:Bool)(ops:Array Oper)(b:Array Nat):List (Nat×Oper)→St→(St→Option R)→Option R
 |[],st,K=>K st
 |(i,o)::r,st,K =>
  let run (st:St):Option R :=
   match (if draw then none else np P (opId rid i) st o) with
   |some dE=>bc rid draw ops b r dE K
   |none =>
   match (if draw then none else sN o) with
   |some x=>j9 st.heap (ρ st.tmps x) fun v h=>bc rid draw ops b r (({ st with heap:=h }:St).put o.dst v) K
   |none =>
   match (if draw then none else isNil P o) with
   |some (x,want)=>sO st.heap (ρ st.tmps x) want fun v=>bc rid draw ops b r (st.put o.dst v) K
   |none =>
   if draw then
    cv P Eqs Sg F (opId rid i) (fS (ahead rid (b.getD i 0) st.heap) (fT ops b i st.tmps o)) st.tmps o fun e =>
     if fL true rid ops b i (b.getD i 0) (fM (fT ops b i st.tmps o) (ahead rid (b.getD i 0) st.heap) e)&&lZ (fT ops b i st.tmps o) e then
      bc rid draw ops b r ({ st with heap:=match fM (fT ops b i st.tmps o) (ahead rid (b.getD i 0) st.heap) e with | .wr _ h=>h|e=>e.h st.heap }.put o.dst e.v) K else none
   else
    cv P Eqs Sg F (opId rid i) st.heap st.tmps o fun e =>
     if fL false rid ops b i (2 ^ i-1) e then bc rid draw ops b r ({ st with heap:=match e with | .wr _ h=>h|e=>e.h st.heap }.put o.dst e.v) K else none
  let skip (st:St):Option R:=bc rid draw ops b r (st.put o.dst (.ml [])) K
  match o.guard with
  |none=>run st
  |some (j,want) =>
   match (ops[j]?).bind (·.dst) with
   |none=>none
   |some d =>
    match look st.tmps d with
    |.bool t=>cond t (if want then run (st.put (some d) (.bool true)) else skip (st.put (some d) (.bool true))) (if want then skip (st.put (some d) (.bool false)) else run (st.put (some d) (.bool false)))
    |.ml _=>skip st
    |_=>none
end
mutual
def bf(rid:Nat):AV→AV
 |.ref id s i off=>if id / 32768=rid+1 then .no else .ref id s i off
 |.bp id=>if id / 32768=rid+1 then .no else .bp id
 |.fn f cap=>.fn f (kB rid cap)
 |.agg cs=>.agg (kB rid cs)
 |.ml vs=>.ml (kB rid vs)
 |.no=>.no
 |.bool b=>.bool b
 |.int k n=>.int k n
 |.str s=>.str s
 |.kx=>.kx
 |.eY=>.eY
 |.fp k x off=>.fp k x off
 |.sl ex k xs=>.sl ex k xs
 |.mp kk vk es=>.mp kk vk es
def kB(rid:Nat):List AV→List AV
 |[]=>[]
 |v::r=>bf rid v::kB rid r
end
def xt(rid:Nat):Ob→Ob
 |.box ty cs=>.box ty (kB rid cs)
 |.own ok x=>.own ok x
def j5(draw:Bool)(rid:Nat)(ops:Array Oper)(st:St):St :=
 if draw || ops.any (makes ·.op) then
  { tmps:=st.tmps.map fun p=>(p.1,bf rid p.2),heap:=(st.heap.filter fun p=>p.1 / 32768 != rid+1).map fun p=>(p.1,xt rid p.2) }
 else st
section
variable (P:Program) (Eqs:TypeId→Option K) (Sg:FuncId→Option aL) (F:(f:FuncId)→(g:aL)→g.A→Option g.B)
variable {R:Type}
noncomputable def gr(n rid:Nat)(ops:Array Oper)(draw:Bool)(st:St)(K:St→Option R):Option R :=
 let b:=if draw then Region.before ops else #[]
 if(ops.all fun o=>gq n o)&&(!draw || (sK ops b&&(xp ops b&&bR (ops.toList.filterMap (·.dst)))))&&decide (ops.size≤128) then
  bc P Eqs Sg F rid draw ops b (ops.toList.zipIdx.map fun p=>(p.2,p.1)) (j5 draw rid ops st) K
 else none
inductive Src where
 |slot (s:Nat)
 |cap (s j:Nat)
structure Shape where
 wc:List (Nat×K)
 boxes:List (Src×Nat×BK)
 rows:List (Nat×Nat×OK)
 fns:List (Nat×FuncId×List Nat)
def Shape.ks(sh:Shape):List K:=sh.wc.map (·.2)
def Shape.bs(sh:Shape):List BK:=sh.boxes.map (·.2.2)
def FV:List OK→Type
 |[]=>Unit
 |k::r=>k.T×FV r
abbrev Shape.T(sh:Shape):Type:=Dg sh.ks×ud sh.bs×FV (sh.rows.map (·.2.2))
def o4(st:St):(l:List (Nat×K))→Option (Dg (l.map (·.2)))
 |[]=>some ()
 |(s,k)::r =>
  match eU k st.heap (look st.tmps s),o4 st r with
  |some x,some y=>some (x,y)
  |_,_=>none
def Qf(st:St):Src→Option Nat
 |.slot s=>AO (look st.tmps s)
 |.cap s j=>match look st.tmps s with
  |.fn _ cap=>match cap[j]? with
   |some v=>AO v
   |none=>none
  |_=>none
def B7(st:St):List (Src×Nat×BK)→Option (List Nat)
 |[]=>some []
 |p::r=>match Qf st p.1,B7 st r with
  |some i,some is=>some (i::is)
  |_,_=>none
def l0(st:St):(l:List (Nat×Nat×OK))→Option (FV (l.map (·.2.2)))
 |[]=>some ()
 |(s,_,ok)::r =>
  match dt st.heap ok (look st.tmps s),l0 st r with
  |some x,some y=>some (x,y)
  |_,_=>none
def wA(st:St)(sh:Shape)(ids:List Nat):List AV:=(sh.wc.flatMap fun p=>(look st.tmps p.1).cells)++eZ sh.bs st.heap ids
def Dk(st:St)(sh:Shape)(ids:List Nat):List Nat:=cE sh.bs st.heap ids++sh.rows.flatMap fun p=>nk (look st.tmps p.1)
def mA(st:St)(m:Nat):List (Nat×Nat×OK)→Bool
 |[]=>false
 |(s,id,_)::r=>(id==m&&(match look st.tmps s with | .bp i=>i==m|_=>false)) || mA st m r
def qd(sh:Shape):List Nat:=bM sh.bs (sh.boxes.map (·.2.1)) 9000++sh.rows.map (·.2.1)
def HT(st:St)(ids:List (Nat×Nat)):List (Nat×FuncId×List Nat)→Bool
 |[]=>true
 |(s,f,Al)::r =>
  (match look st.tmps s with
  |.fn f' cap=>decide (f'=f)&&(match iO cap with|some is=>decide (is.map (fun i=>(ids.find? (·.1==i)).map (·.2))=Al.map some)|none=>false)
  |_=>false)&&HT st ids r
def cj(sh:Shape)(st:St):Option sh.T :=
 match B7 st sh.boxes with
 |none=>none
 |some ids =>
  match o4 st sh.wc,cC sh.bs st.heap ids,l0 st sh.rows,uh (Dk st sh ids) (wA st sh ids)&&(bR (qd sh)&&((qd sh).all (fun m=>decide (2000≤m) || ((ids.zip (sh.boxes.map (·.2.1))).any fun p=>p.1==m&&p.2==m) || mA st m sh.rows)&&HT st (ids.zip (sh.boxes.map (·.2.1))) sh.fns)) with
  |some x,some y,some z,true=>some (x,y,z)
  |_,_,_,_=>none
def o5:(l:List (Nat×K))→Dg (l.map (·.2))→List (Nat×AV)
 |[],_=>[]
 |(s,k)::r,x=>(s,bX k x.1)::o5 r x.2
def iQ:List (Src×Nat×BK)→List (Nat×AV)
 |[]=>[]
 |(.slot s,id,_)::r=>(s,.ref id 0 0 0)::iQ r
 |(.cap _ _,_,_)::r=>iQ r
def wB(l:List (Nat×FuncId×List Nat)):List (Nat×AV):=l.map fun p=>(p.1,.fn p.2.1 (p.2.2.map fun i=>.ref i 0 0 0))
def o6:(l:List (Nat×Nat×OK))→FV (l.map (·.2.2))→Heap
 |[],_=>[]
 |(_,id,ok)::r,x=>(id,.own ok x.1)::o6 r x.2
def ai(sh:Shape)(x:sh.T):St :=
  { tmps:=o5 sh.wc x.1++(iQ sh.boxes++(wB sh.fns++sh.rows.map fun p=>(p.1,.bp p.2.1))),
    heap:=aX sh.bs (sh.boxes.map (·.2.1)) 9000 x.2.1++o6 sh.rows x.2.2 }
def qe:Code→Nat
 |.region id _ _=>id
 |.seq a _=>qe a
 |.block _ a=>qe a
 |.loop a=>qe a
 |.scope a=>qe a
 |_=>0
noncomputable def au(n:Nat)(ann:Nat→Option Shape)(J:(sh:Shape)→List Item→sh.T→Option R)(ret:St→Option R):Nat→List Item→St→Option R
 |0,_,_=>none
 |_+1,[],st=>ret st
 |m+1,.inBlock _::k,st=>au n ann J ret m k st
 |m+1,.inScope _::k,st=>au n ann J ret m k st
 |_+1,.inLoop c::k,st =>
  match ann (qe c) with
  |none=>none
  |some sh=>match cj sh st with
   |some x=>J sh (.inLoop c::k) x
   |none=>none
 |m+1,.code c::k,st =>
  match c with
  |.skip | .label _=>au n ann J ret m k st
  |.seq a b=>au n ann J ret m (.code a::.code b::k) st
  |.cond c a b=>match ρ st.tmps c with
   |.bool t=>cond t (au n ann J ret m (.code a::k) st) (au n ann J ret m (.code b::k) st)
   |_=>none
  |.block id c=>au n ann J ret m (.code c::.inBlock id::k) st
  |.scope c=>au n ann J ret m (.code c::.inScope c::k) st
  |.loop c=>au n ann J ret m (.inLoop c::k) st
  |.exit id=>match exitTo id k with
   |some k'=>au n ann J ret m k' st
   |none=>none
  |.ret=>ret st
  |.region id ops draw=>gr P Eqs Sg F n id ops draw st fun dE=>au n ann J ret m k dE
  |_=>none
 |_,_,_=>none
def vu(h:Heap)(tmps:List (Nat×AV))(rvs:List ResultVar):Option (List AV) :=
 match rvs with
 |[]=>some []
 |.tmp t::r=>match vu h tmps r with
  |some vs=>some (look tmps t::vs)
  |none=>none
 |.cell a t::r=>match look tmps a with
  |.ref id _ 0 off=>(match h.get id with
   |some (.box _ cs)=>(match dy P t (cs.drop off),vu h tmps r with
    |some v,some vs=>some (v::vs)
    |_,_=>none)
   |_=>none)
  |_=>none
def o8(g:aL)(fn:Func)(st:St):Option g.B :=
 match vu P st.heap st.tmps fn.results.toList with
 |none=>none
 |some vs =>
  match bq g.bs g.rs st.heap (aF g.bs.length) vs,cC g.bs st.heap (aF g.bs.length),
   uh (cE g.bs st.heap (aF g.bs.length)++dm g.rs vs) (fa g.rs vs++eZ g.bs st.heap (aF g.bs.length))&&bR (oS g) with
  |some x,some y,true=>some (x,y)
  |_,_,_=>none
def entry(g:aL)(x:g.A):St :=
 { tmps:=aH g.ps (aF g.bs.length) 0 x.1,heap:=aX g.bs (aF g.bs.length) 2000 x.2 }
def fuel:Nat:=100000
end
section
variable (P:Program) (Eqs:TypeId→Option K) (Sg:FuncId→Option aL) (An:FuncId→Nat→Option Shape) (G:(f:FuncId)→(g:aL)→Option (g.A→Option g.B))
variable (F:(f:FuncId)→(g:aL)→g.A→Option g.B)
def body(f:FuncId):Option (Func×Code):=(P.funcs[f]?).bind fun fn=>fn.body.map fun c=>(fn,c)
noncomputable def lu(f:FuncId)(g:aL)(fn:Func):Nat→(sh:Shape)→List Item→sh.T→Option g.B
 |0,_,_,_=>none
 |n+1,sh,.inLoop c::k,x=>au P Eqs Sg F fn.ntmps (An f) (lu f g fn n) (o8 P g fn) fuel (.code c::.inLoop c::k) (ai sh x)
 |_+1,_,_,_=>none
noncomputable def FY(f:FuncId)(g:aL)(n:Nat)(x:g.A):Option g.B :=
 match body P (f%1000) with
 |none=>none
 |some (fn,c)=>if decide (g.ps.length≤fn.ntmps)&&decide (g.bs.length≤8) then au P Eqs Sg F fn.ntmps (An f) (lu P Eqs Sg An F f g fn n) (o8 P g fn) fuel [.code c] (entry g x) else none
end
section
variable (P:Program) (Eqs:TypeId→Option K) (Sg:FuncId→Option aL) (An:FuncId→Nat→Option Shape) (G:(f:FuncId)→(g:aL)→Option (g.A→Option g.B))
noncomputable def Fn:Nat→(f:FuncId)→(g:aL)→g.A→Option g.B
 |0,f,g,x=>match G f g with
  |some u=>u x
  |none=>none
 |m+1,f,g,x=>match G f g with
  |some u=>u x
  |none=>FY P Eqs Sg An (Fn m) f g m x
end
end Go.Vs
namespace Go.Vs
def o9:Code→List Item→List (List Item)
 |.seq a b,k=>o9 a (.code b::k)++o9 b k
 |.cond _ a b,k=>o9 a k++o9 b k
 |.block id c,k=>o9 c (.inBlock id::k)
 |.scope c,k=>o9 c (.inScope c::k)
 |.loop c,k=>(.inLoop c::k)::o9 c (.inLoop c::k)
 |_,_=>[]
def bA(P:Program)(f:FuncId)(j:Nat):List Item :=
 match body P f with
 |some (_,c)=>(o9 c []).getD j []
 |none=>[]
def round:List Item→List Item
 |.inLoop c::k=>.code c::.inLoop c::k
 |k=>k
end Go.Vs
namespace Go.Vs
theorem sP(a:Addr)(n m:Nat):(a.add n).add m=a.add (n+m):=by
 unfold Addr.add
 by_cases h1:n=0<;>by_cases h2:m=0<;>simp[h1,h2,Nat.add_assoc]
theorem AP(a:Addr):a.add 0=a:=by simp[Addr.add]
theorem cc(a:Addr)(n:Nat):(a.add n).block=a.block:=by unfold Addr.add;split<;>rfl
theorem bY(g i n:Nat):(⟨g,i,none⟩:Addr).add n=⟨g,i+n,none⟩:=by unfold Addr.add;split<;>simp_all
def b4(Z:Nat→Prop)(w w':World):Prop:=∀b,Z b→w'.heap[b]? = w.heap[b]?
theorem b4.refl(Z:Nat→Prop)(w:World):b4 Z w w:=fun _ _=>rfl
theorem b4.trans{Z:Nat→Prop}{w w1 w2:World}(h:b4 Z w w1)(k:b4 Z w1 w2):b4 Z w w2:=fun b hb=>(k b hb).trans (h b hb)
theorem b4.cell{Z:Nat→Prop}{w w':World}(h:b4 Z w w'){a:Addr}(ha:Z a.block):w'.cell? a=w.cell? a:=World.cell?_of_block (h _ ha)
def Yb{α:Type}(r:α→List Value→Prop)(Z:Nat→Prop)(sz:Nat)(w:World)(xs:List α)(v:Value):Prop :=
 ∃A c,v=.slice A xs.length c∧xs.length≤c∧(A=none→c=0) ∧
  ∀(i:Nat) (x:α),xs[i]? = some x→∃a us,A=some a∧Z a.block∧r x us∧∀(j:Nat) u,us[j]? = some u→w.cell? (a.add (i*sz+j))=some u
def B8{α β:Type}(ra:α→List Value→Prop)(rb:β→List Value→Prop)(pa pb:Bool)(es:List (α×β))(bH:List MapEntry):Prop :=
 es.length=bH.length∧∀(i:Nat) (x:α×β) (e:MapEntry),es[i]? = some x→bH[i]? = some e →
  (ra x.1 e.key.cells.toList∧(pa=true→∃vs,e.key=.agg vs)∧(pa=false→e.key.cells=#[e.key]))∧rb x.2 e.val.cells.toList∧(pb=true→∃vs,e.val=.agg vs)∧(pb=false→e.val.cells=#[e.val])
def ax(Z:Nat→Prop)(w:World):(k:K)→k.T→List Value→Prop
 |.int ik,n,vs=>vs=[.int ik n]
 |.bool,b,vs=>vs=[.bool b]
 |.str,s,vs=>vs=[.string s]
 |.sl k,xs,vs=>∃v,vs=[v]∧Yb (ax Z w k) Z k.sz w xs v
 |.pair a b,x,vs=>∃us ws,vs=us++ws∧ax Z w a x.1 us∧ax Z w b x.2 ws
 |.one k,x,vs=>ax Z w k x vs
 |.mp kk vk,es,vs=>∃A,vs=[.map A]∧((A=none∧es=[])∨∃m bH clock,A=some m∧Z m∧w.heap[m]? = some (.map bH clock)∧B8 (ax Z w kk) (ax Z w vk) kk.isAgg vk.isAgg es bH.toList)
variable {Z Z':Nat→Prop} {w w':World}
theorem ax.len:∀{k:K} {x:k.T} {vs:List Value},ax Z w k x vs→vs.length=k.sz
 |.int _,_,_,h=>by simp only[ax]at h;subst h;rfl
 |.bool,_,_,h=>by simp only[ax]at h;subst h;rfl
 |.str,_,_,h=>by simp only[ax]at h;subst h;rfl
 |.sl _,_,_,h=>by simp only[ax]at h;obtain⟨v,rfl,_⟩:=h;rfl
 |.pair a b,x,_,h=>by
  simp only[ax]at h
  obtain⟨us,ws,rfl,h1,h2⟩:=h
  rw[List.length_append,ax.len h1,ax.len h2];rfl
 |.one k,x,_,h=>by
  simp only[ax]at h
  exact ax.len (k:=k) h
 |.mp _ _,_,_,h=>by simp only[ax]at h;obtain⟨A,rfl,_⟩:=h;rfl
theorem K.gu:∀k:K,0<k.sz
 |.int _=>Nat.one_pos
 |.bool=>Nat.one_pos
 |.str=>Nat.one_pos
 |.sl _=>Nat.one_pos
 |.pair a _=>Nat.lt_of_lt_of_le (K.gu a) (Nat.le_add_right _ _)
 |.one k=>K.gu k
 |.mp _ _=>Nat.one_pos
theorem ax.one:∀{k:K} {x:k.T} {vs:List Value},ax Z w k x vs→∀u∈vs,u.oneCell'=true
 |.int _,_,_,h=>by simp only[ax]at h;subst h;simp[Value.oneCell']
 |.bool,_,_,h=>by simp only[ax]at h;subst h;simp[Value.oneCell']
 |.str,_,_,h=>by simp only[ax]at h;subst h;simp[Value.oneCell']
 |.sl _,_,_,h=>by simp only[ax]at h;obtain⟨v,rfl,A,c,rfl,_⟩:=h;simp[Value.oneCell']
 |.pair a b,x,_,h=>by
  simp only[ax]at h
  obtain⟨us,ws,rfl,h1,h2⟩:=h
  intro u hu
  rcases List.mem_append.1 hu with hu|hu
  ·exact ax.one h1 u hu
  ·exact ax.one h2 u hu
 |.one k,x,_,h=>by
  simp only[ax]at h
  exact ax.one (k:=k) h
 |.mp _ _,_,_,h=>by simp only[ax]at h;obtain⟨A,rfl,_⟩:=h;simp[Value.oneCell']
theorem B8.imp{α β:Type}{ra ra':α→List Value→Prop}{rb rb':β→List Value→Prop}{pa pb:Bool}(ha:∀x vs,ra x vs→ra' x vs)(hb:∀x vs,rb x vs→rb' x vs){es:List (α×β)}{bH:List MapEntry}(h:B8 ra rb pa pb es bH):B8 ra' rb' pa pb es bH :=
 ⟨h.1,fun i x e h1 h2=>by obtain⟨⟨a,b⟩,c,d⟩:=h.2 i x e h1 h2;exact⟨⟨ha _ _ a,b⟩,hb _ _ c,d⟩⟩
theorem ax.mono(hz:∀b,Z b→Z' b)(hs:b4 Z w w'):∀{k:K} {x:k.T} {vs:List Value},ax Z w k x vs→ax Z' w' k x vs
 |.int _,_,_,h=>h
 |.bool,_,_,h=>h
 |.str,_,_,h=>h
 |.sl k,xs,_,h=>by
  simp only[ax]at h ⊢
  obtain⟨v,rfl,A,c,rfl,hl,hn,he⟩:=h
  refine⟨_,rfl,A,c,rfl,hl,hn,fun i x hx=>?_⟩
  obtain⟨a,us,ha,TG,hr,hc⟩:=he i x hx
  refine⟨a,us,ha,hz _ TG,ax.mono hz hs hr,fun j u hu=>?_⟩
  rw[hs.cell (by rw[cc];exact TG)]
  exact hc j u hu
 |.pair a b,x,_,h=>by
  simp only[ax]at h ⊢
  obtain⟨us,ws,rfl,h1,h2⟩:=h
  exact⟨us,ws,rfl,ax.mono hz hs h1,ax.mono hz hs h2⟩
 |.one k,x,_,h=>by
  simp only[ax]at h ⊢
  exact ax.mono hz hs (k:=k) h
 |.mp kk vk,es,_,h=>by
  simp only[ax]at h ⊢
  obtain⟨A,rfl,h⟩:=h
  refine⟨A,rfl,h.imp (fun h=>h) fun⟨m,bH,clock,h1,h2,h3,h4⟩=>⟨m,bH,clock,h1,hz _ h2,(hs m h2).trans h3,h4.imp (fun _ _ h=>ax.mono hz hs h) (fun _ _ h=>ax.mono hz hs h)⟩⟩
def Ov:Value→Nat
 |.pointer (some a)=>a.block
 |.slice (some a) _ _=>a.block
 |_=>0
def ob:Value→Option Nat
 |.pointer (some a)=>some a.block
 |.slice (some a) _ c=>if c=0 then none else some a.block
 |.map (some m)=>some m
 |_=>none
mutual
def ao(Z:Nat→Prop)(ψ:Nat→Value)(h:Nat→Option Ob)(w:World):AV→Value→Prop
 |.no,_=>True
 |.bool b,v=>v=.bool b
 |.int k n,v=>v=.int k n
 |.str s,v=>v=.string s
 |.kx,v=>v=.pointer none
 |.eY,v=>v=.slice none 0 0
 |.ref id s i off,v=>∃a,v=.pointer (some a)∧(h id≠none→a=⟨Ov (ψ id),i*s+off,none⟩)
 |.fp k x off,v=>∃a us,v=.pointer (some a)∧Z a.block∧ax Z w k x us∧∀(j:Nat) u,us[off+j]? = some u→w.cell? (a.add j)=some u
 |.sl ex k xs,v=>ax Z w (.sl k) xs [v]∧(ex=true→∃A c,v=.slice A c c)
 |.mp kk vk es,v=>ax Z w (.mp kk vk) es [v]
 |.bp id,v=>(v.cells=#[v]∧v.oneCell'=true)∧(h id≠none→v=ψ id)
 |.fn f cap,v=>∃vs,v=.func (.func f) #[] vs∧ah Z ψ h w cap vs.toList
 |.agg cs,v=>∃vs,v=.agg vs∧ah Z ψ h w cs vs.toList
 |.ml cs,v=>∃vs,v=.tuple vs∧ah Z ψ h w cs vs.toList
def ah(Z:Nat→Prop)(ψ:Nat→Value)(h:Nat→Option Ob)(w:World):List AV→List Value→Prop
 |[],vs=>vs=[]
 |a::r,vs=>∃v us,vs=v::us∧ao Z ψ h w a v∧ah Z ψ h w r us
end
mutual
def aC(p:Nat→Prop):AV→Prop
 |.ref id _ _ _=>p id
 |.bp id=>p id
 |.fn _ cap=>aw p cap
 |.agg cs=>aw p cs
 |.ml vs=>aw p vs
 |.no=>True
 |.bool _=>True
 |.int _ _=>True
 |.str _=>True
 |.kx=>True
 |.eY=>True
 |.fp _ _ _=>True
 |.sl _ _ _=>True
 |.mp _ _ _=>True
def aw(p:Nat→Prop):List AV→Prop
 |[]=>True
 |v::r=>aC p v∧aw p r
end
section
variable {Z Z':Nat→Prop} {w w':World} {ψ ψ':Nat→Value} {h h':Nat→Option Ob} {p:Nat→Prop}
mutual
theorem ao.move(hz:∀b,Z b→Z' b)(hs:b4 Z w w')(hh:∀id,p id→h' id≠none→h id≠none∧ψ' id=ψ id):∀{a:AV} {v:Value},aC p a→ao Z ψ h w a v→ao Z' ψ' h' w' a v
 |.no,_,_,_=>by simp only[ao]
 |.bool b,_,_,hr=>by simpa only[ao] using hr
 |.int k n,_,_,hr=>by simpa only[ao] using hr
 |.str s,_,_,hr=>by simpa only[ao] using hr
 |.kx,_,_,hr=>by simpa only[ao] using hr
 |.eY,_,_,hr=>by simpa only[ao] using hr
 |.ref id s i off,_,hm,hr=>by
  simp only[ao,aC]at hr hm ⊢
  obtain⟨a,rfl,ha⟩:=hr
  refine⟨a,rfl,fun hn=>?_⟩
  obtain⟨h1,h2⟩:=hh id hm hn
  rw[h2];exact ha h1
 |.fp k x off,_,_,hr=>by
  simp only[ao]at hr ⊢
  obtain⟨a,us,rfl,TG,hk,hc⟩:=hr
  refine⟨a,us,rfl,hz _ TG,hk.mono hz hs,fun j u hu=>?_⟩
  rw[hs.cell (by rw[cc];exact TG)]
  exact hc j u hu
 |.sl ex k xs,_,_,hr=>by
  simp only[ao]at hr ⊢
  exact⟨ax.mono hz hs hr.1,hr.2⟩
 |.mp kk vk es,_,_,hr=>by
  simp only[ao]at hr ⊢
  exact ax.mono hz hs hr
 |.bp id,_,hm,hr=>by
  simp only[ao,aC]at hr hm ⊢
  refine⟨hr.1,fun hn=>?_⟩
  obtain⟨h1,h2⟩:=hh id hm hn
  rw[h2];exact hr.2 h1
 |.fn f cap,_,hm,hr=>by
  simp only[ao,aC]at hr hm ⊢
  obtain⟨vs,rfl,hl⟩:=hr
  exact⟨vs,rfl,ah.move hz hs hh hm hl⟩
 |.agg cs,_,hm,hr=>by
  simp only[ao,aC]at hr hm ⊢
  obtain⟨vs,rfl,hl⟩:=hr
  exact⟨vs,rfl,ah.move hz hs hh hm hl⟩
 |.ml cs,_,hm,hr=>by
  simp only[ao,aC]at hr hm ⊢
  obtain⟨vs,rfl,hl⟩:=hr
  exact⟨vs,rfl,ah.move hz hs hh hm hl⟩
theorem ah.move(hz:∀b,Z b→Z' b)(hs:b4 Z w w')(hh:∀id,p id→h' id≠none→h id≠none∧ψ' id=ψ id):∀{a:List AV} {v:List Value},aw p a→ah Z ψ h w a v→ah Z' ψ' h' w' a v
 |[],_,_,hr=>by simpa only[ah] using hr
 |a::r,_,hm,hr=>by
  simp only[ah,aw]at hr hm ⊢
  obtain⟨v,us,rfl,h1,h2⟩:=hr
  exact⟨v,us,rfl,ao.move hz hs hh hm.1 h1,ah.move hz hs hh hm.2 h2⟩
end
mutual
theorem aC.top:∀a:AV,aC (fun _=>True) a
 |.no=>by simp only[aC]
 |.bool b=>by simp only[aC]
 |.int k n=>by simp only[aC]
 |.str s=>by simp only[aC]
 |.kx=>by simp only[aC]
 |.eY=>by simp only[aC]
 |.ref id s i off=>by simp only[aC]
 |.fp k x off=>by simp only[aC]
 |.sl ex k xs=>by simp only[aC]
 |.mp kk vk es=>by simp only[aC]
 |.bp id=>by simp only[aC]
 |.fn f cap=>by simp only[aC];exact aw.top cap
 |.agg cs=>by simp only[aC];exact aw.top cs
 |.ml cs=>by simp only[aC];exact aw.top cs
theorem aw.top:∀a:List AV,aw (fun _=>True) a
 |[]=>by simp only[aw]
 |a::r=>by simp only[aw];exact⟨aC.top a,aw.top r⟩
end
theorem ao.less(hz:∀b,Z b→Z' b)(hs:b4 Z w w')(hh:∀id,h' id≠none→h id≠none∧ψ' id=ψ id){a:AV}{v:Value}(hr:ao Z ψ h w a v):ao Z' ψ' h' w' a v :=
 ao.move (p:=fun _=>True) hz hs (fun id _ hn=>hh id hn) (aC.top a) hr
theorem ah.less(hz:∀b,Z b→Z' b)(hs:b4 Z w w')(hh:∀id,h' id≠none→h id≠none∧ψ' id=ψ id){a:List AV}{v:List Value}(hr:ah Z ψ h w a v):ah Z' ψ' h' w' a v :=
 ah.move (p:=fun _=>True) hz hs (fun id _ hn=>hh id hn) (aw.top a) hr
theorem ah.length:∀{a:List AV} {v:List Value},ah Z ψ h w a v→a.length=v.length
 |[],_,hr=>by simp only[ah]at hr;subst hr;rfl
 |a::r,_,hr=>by
  simp only[ah]at hr
  obtain⟨v,us,rfl,_,h2⟩:=hr
  simp[ah.length h2]
theorem ah.get:∀{a:List AV} {v:List Value} (i:Nat) {x:AV},ah Z ψ h w a v→a[i]? = some x→∃u,v[i]? = some u∧ao Z ψ h w x u
 |[],_,i,x,_,hx=>by simp at hx
 |a::r,_,0,x,hr,hx=>by
  simp only[ah]at hr
  obtain⟨v,us,rfl,h1,h2⟩:=hr
  simp only[List.getElem?_cons_zero,Option.some.injEq]at hx;subst hx
  exact⟨v,rfl,h1⟩
 |a::r,_,i+1,x,hr,hx=>by
  simp only[ah]at hr
  obtain⟨v,us,rfl,h1,h2⟩:=hr
  obtain⟨u,hu,hr⟩:=ah.get i h2 (by simpa using hx)
  exact⟨u,by simpa using hu,hr⟩
theorem ah.append:∀{a b:List AV} {v u:List Value},ah Z ψ h w a v→ah Z ψ h w b u→ah Z ψ h w (a++b) (v++u)
 |[],b,_,u,hr,hb=>by simp only[ah]at hr;subst hr;exact hb
 |a::r,b,_,u,hr,hb=>by
  simp only[ah]at hr
  obtain⟨v,us,rfl,h1,h2⟩:=hr
  simp only[List.cons_append,ah]
  exact⟨v,us++u,rfl,h1,ah.append h2 hb⟩
theorem ah.split:∀{a b:List AV} {v:List Value},ah Z ψ h w (a++b) v→∃us ws,v=us++ws∧ah Z ψ h w a us∧ah Z ψ h w b ws
 |[],b,v,hr=>⟨[],v,rfl,by simp only[ah],hr⟩
 |a::r,b,v,hr=>by
  simp only[List.cons_append,ah]at hr
  obtain⟨x,us,rfl,h1,h2⟩:=hr
  obtain⟨hM,ws,rfl,h3,h4⟩:=ah.split h2
  exact⟨x::hM,ws,rfl,by simp only[ah];exact⟨x,hM,rfl,h1,h3⟩,h4⟩
theorem ah.drop(n:Nat){a:List AV}{v:List Value}(hr:ah Z ψ h w a v):ah Z ψ h w (a.drop n) (v.drop n):=by
 by_cases hn:n≤a.length
 ·have qf:ah Z ψ h w (a.take n++a.drop n) v:=by rw[List.take_append_drop];exact hr
  obtain⟨us,ws,rfl,h1,h2⟩:=ah.split qf
  have hl:=h1.length
  rw[List.length_take,Nat.min_eq_left hn]at hl
  rw[hl,List.drop_left];rw[←hl];exact h2
 ·have:=hr.length
  rw[List.drop_eq_nil_of_le (by omega),List.drop_eq_nil_of_le (by omega)];simp only[ah]
theorem ah.take(n:Nat){a:List AV}{v:List Value}(hr:ah Z ψ h w a v):ah Z ψ h w (a.take n) (v.take n):=by
 by_cases hn:n≤a.length
 ·have qf:ah Z ψ h w (a.take n++a.drop n) v:=by rw[List.take_append_drop];exact hr
  obtain⟨us,ws,rfl,h1,h2⟩:=ah.split qf
  have hl:=h1.length
  rw[List.length_take,Nat.min_eq_left hn]at hl
  conv=>rhs;rw[hl,List.take_left]
  exact h1
 ·have:=hr.length
  rw[List.take_of_length_le (by omega),List.take_of_length_le (by omega)];exact hr
theorem ah.set:∀{a:List AV} {v:List Value} (i:Nat) {x:AV} {u:Value},ah Z ψ h w a v→ao Z ψ h w x u→ah Z ψ h w (a.set i x) (v.set i u)
 |[],_,i,x,u,hr,_=>by simp only[ah]at hr;subst hr;simp only[List.set_nil,ah]
 |a::r,_,0,x,u,hr,hx=>by
  simp only[ah]at hr
  obtain⟨v,us,rfl,h1,h2⟩:=hr
  simp only[List.set_cons_zero,ah];exact⟨u,us,rfl,hx,h2⟩
 |a::r,_,i+1,x,u,hr,hx=>by
  simp only[ah]at hr
  obtain⟨v,us,rfl,h1,h2⟩:=hr
  simp only[List.set_cons_succ,ah];exact⟨v,_,rfl,h1,ah.set i h2 hx⟩
theorem gk:∀{k:K} {x:k.T} {vs:List Value},ax Z w k x vs→ah Z ψ h w (enc k x) vs
 |.int _,_,_,hr=>by simp only[ax]at hr;subst hr;simp[enc,ah,ao]
 |.bool,_,_,hr=>by simp only[ax]at hr;subst hr;simp[enc,ah,ao]
 |.str,_,_,hr=>by simp only[ax]at hr;subst hr;simp[enc,ah,ao]
 |.sl k,xs,_,hr=>by
  have qf:=hr
  simp only[ax]at qf
  obtain⟨v,rfl,_⟩:=qf
  simp only[enc,ah,ao]
  exact⟨v,[],rfl,⟨hr,by simp⟩,rfl⟩
 |.pair a b,x,_,hr=>by
  simp only[ax]at hr
  obtain⟨us,ws,rfl,h1,h2⟩:=hr
  simp only[enc]
  exact ah.append (gk h1) (gk h2)
 |.one k,x,_,hr=>by
  simp only[ax]at hr
  simp only[enc]
  exact gk (k:=k) hr
 |.mp kk vk,es,_,hr=>by
  have qf:=hr
  simp only[ax]at qf
  obtain⟨A,rfl,_⟩:=qf
  simp only[enc,ah,ao]
  exact⟨_,[],rfl,hr,rfl⟩
theorem K4{k:K}{v:Value}(hr:ao Z ψ h w .eY v):ax Z w (.sl k) [] [v]:=by
 simp only[ao]at hr
 subst hr
 simp only[ax]
 exact⟨_,rfl,none,0,rfl,Nat.le_refl _,fun _=>rfl,fun i x hx=>by simp at hx⟩
theorem wC:∀{k:K} {cs:List AV} {x:k.T} {r:List AV} {vs:List Value},dec k cs=some (x,r)→ah Z ψ h w cs vs→∃us ws,vs=us++ws∧ax Z w k x us∧ah Z ψ h w r ws
 |.int ik,cs,x,r,vs,hd,hr=>by
  simp only[dec]at hd
  unfold BZ at hd
  split at hd
  ·split at hd
   ·rename_i he
    subst he
    cases hd
    simp only[ah,ao]at hr
    obtain⟨v,us,rfl,rfl,h2⟩:=hr
    exact⟨[_],us,rfl,by simp only[ax],h2⟩
   ·cases hd
  ·cases hd
 |.bool,cs,x,r,vs,hd,hr=>by
  simp only[dec]at hd
  unfold wz at hd
  split at hd
  ·cases hd
   simp only[ah,ao]at hr
   obtain⟨v,us,rfl,rfl,h2⟩:=hr
   exact⟨[_],us,rfl,by simp only[ax],h2⟩
  ·cases hd
 |.str,cs,x,r,vs,hd,hr=>by
  simp only[dec]at hd
  unfold B2 at hd
  split at hd
  ·cases hd
   simp only[ah,ao]at hr
   obtain⟨v,us,rfl,rfl,h2⟩:=hr
   exact⟨[_],us,rfl,by simp only[ax],h2⟩
  ·cases hd
 |.sl k,cs,x,r,vs,hd,hr=>by
  simp only[dec]at hd
  unfold HO at hd
  split at hd
  ·split at hd
   ·rename_i he
    subst he
    cases hd
    simp only[ah]at hr
    obtain⟨v,us,rfl,h1,h2⟩:=hr
    simp only[ao]at h1
    exact⟨[_],us,rfl,h1.1,h2⟩
   ·cases hd
  ·cases hd
   simp only[ah]at hr
   obtain⟨v,us,rfl,h1,h2⟩:=hr
   exact⟨[_],us,rfl,K4 h1,h2⟩
  ·cases hd
 |.pair a b,cs,x,r,vs,hd,hr=>by
  simp only[dec]at hd
  split at hd
  ·rename_i x1 r1 h1
   split at hd
   ·rename_i y1 r2 h2
    cases hd
    obtain⟨us,ws,rfl,k1,k2⟩:=wC h1 hr
    obtain⟨hM,Yc,rfl,k3,k4⟩:=wC h2 k2
    exact⟨us++hM,Yc,by rw[List.append_assoc],by simp only[ax];exact⟨us,hM,rfl,k1,k3⟩,k4⟩
   ·cases hd
  ·cases hd
 |.one k,cs,x,r,vs,hd,hr=>by
  simp only[dec]at hd
  obtain⟨us,ws,e,k1,k2⟩:=wC (k:=k) hd hr
  exact⟨us,ws,e,by simp only[ax];exact k1,k2⟩
 |.mp kk vk,cs,x,r,vs,hd,hr=>by
  simp only[dec]at hd
  unfold HP at hd
  split at hd
  ·split at hd
   ·rename_i he
    obtain⟨rfl,rfl⟩:=he
    cases hd
    simp only[ah]at hr
    obtain⟨v,us,rfl,h1,h2⟩:=hr
    simp only[ao]at h1
    exact⟨[_],us,rfl,h1,h2⟩
   ·cases hd
  ·cases hd
theorem dg{k:K}{cs:List AV}{x:k.T}{vs:List Value}(hd:de k cs=some x)(hr:ah Z ψ h w cs vs):ax Z w k x vs:=by
 unfold de at hd
 split at hd
 ·rename_i x' h1
  cases hd
  obtain⟨us,ws,rfl,k1,k2⟩:=wC h1 hr
  simp only[ah]at k2
  subst k2
  rw[List.append_nil];exact k1
 ·cases hd
theorem kC{k:K}{x:k.T}{v:Value}(hr:ax Z w k x v.cells.toList)(hp:k.isAgg=true→∃vs,v=.agg vs)(hn:k.isAgg=false→v.cells=#[v]):ao Z ψ h w (bX k x) v:=by
 cases k with
 |int ik=>rw[hn rfl]at hr;simp only[ax]at hr;simp only[bX,ao];simpa using hr
 |bool=>rw[hn rfl]at hr;simp only[ax]at hr;simp only[bX,ao];simpa using hr
 |str=>rw[hn rfl]at hr;simp only[ax]at hr;simp only[bX,ao];simpa using hr
 |sl k=>rw[hn rfl]at hr;simp only[bX,ao];exact⟨hr,by simp⟩
 |mp kk vk=>rw[hn rfl]at hr;simp only[bX,ao];exact hr
 |pair a b =>
  obtain⟨vs,rfl⟩:=hp rfl
  simp only[bX,ao]
  exact⟨vs,rfl,gk hr⟩
 |one k =>
  obtain⟨vs,rfl⟩:=hp rfl
  simp only[bX,ao]
  exact⟨vs,rfl,gk hr⟩
end
end Go.Vs
namespace Go.Vs
theorem Heap.gx{n m:Nat}(aV:m≠n):∀h:Heap,(h.del n).get m=h.get m
 |[]=>rfl
 |(i,o)::r=>by
  simp only[Heap.del]
  split
  ·rename_i hi
   rw[Heap.gx aV r]
   simp only[Heap.get]
   rw[if_neg (by omega)]
  ·simp only[Heap.get]
   split
   ·rfl
   ·exact Heap.gx aV r
theorem Heap.fC(n:Nat):∀h:Heap,(h.del n).get n=none
 |[]=>rfl
 |(i,o)::r=>by
  simp only[Heap.del]
  split
  ·exact Heap.fC n r
  ·rename_i hi
   simp only[Heap.get]
   rw[if_neg hi];exact Heap.fC n r
theorem Heap.B9(h:Heap)(n:Nat)(o:Ob):(h.set n o).get n=some o:=by simp[Heap.set,Heap.get]
theorem Heap.FZ{n m:Nat}(aV:m≠n)(h:Heap)(o:Ob):(h.set n o).get m=h.get m:=by
 simp only[Heap.set,Heap.get]
 rw[if_neg (by omega)]
 exact Heap.gx aV h
theorem Heap.sQ{n m:Nat}{h:Heap}{o:Ob}(hg:(h.del n).get m=some o):h.get m=some o∧m≠n:=by
 by_cases aV:m=n
 ·subst aV;rw[Heap.fC]at hg;cases hg
 ·rw[Heap.gx aV]at hg;exact⟨hg,aV⟩
theorem Heap.get_append(a b:Heap)(n:Nat):(a++b).get n=(match a.get n with|some o=>some o|none=>b.get n):=by
 induction a with
 |nil=>rfl
 |cons p r ih =>
  obtain⟨i,o⟩:=p
  simp only[List.cons_append,Heap.get]
  split
  ·rfl
  ·exact ih
def l6(Z:Nat→Prop)(w:World)(k:K)(xs:List k.T)(vs:List Value):Prop :=
 ∀(i:Nat) (x:k.T),xs[i]? = some x→ax Z w k x ((vs.drop (i*k.sz)).take k.sz)
abbrev Hp:=Nat→Option Ob
def c9(w:World)(e:TypeId)(size:Nat)(v:Value)(n:Nat)(vs:List Value):Prop :=
  vs.length=n*size ∧
  ((n=0∧∃A,v=.slice A 0 0) ∨
   ∃g cap cur,v=.slice (some ⟨g,0,none⟩) n cap∧0<cap∧w.heap[g]? = some (.cells cur e (0,0))∧n≤cap∧cap≤maxLen∧cur.size=cap*size∧cur.toList.take (n*size)=vs)
theorem c9.of{w:World}{base e size n:Nat}{v:Value}{vs:List Value}(h:w.ownsRow base e size v n vs):c9 w e size v n vs:=by
 obtain⟨h1,h2⟩:=h
 refine⟨h1,?_⟩
 rcases h2 with⟨rfl,h2⟩|⟨g,cap,cur,rfl,_,h3,h4,h5,h6,h7⟩
 ·exact .inl ⟨h2,none,rfl⟩
 ·by_cases hc:cap=0
  ·subst hc
   have:n=0:=by omega
   subst this
   exact .inl ⟨rfl,_,rfl⟩
  ·exact .inr ⟨g,cap,cur,rfl,by omega,h3,h4,h5,h6,h7⟩
theorem c9.slice{w:World}{e size n:Nat}{v:Value}{vs:List Value}(h:c9 w e size v n vs):∃A c,v=.slice A n c:=by
 rcases h.2 with⟨h0,A,rfl⟩|⟨g,cap,cur,rfl,_⟩
 ·subst h0;exact⟨A,0,rfl⟩
 ·exact⟨_,_,rfl⟩
theorem c9.one{w:World}{e size n:Nat}{v:Value}{vs:List Value}(h:c9 w e size v n vs):v.cells=#[v]∧v.oneCell'=true:=by
 obtain⟨A,c,rfl⟩:=h.slice
 exact⟨rfl,by simp[Value.oneCell']⟩
theorem c9.kept{w w':World}{e size n:Nat}{v:Value}{vs:List Value}(ho:c9 w e size v n vs)(hk:∀g,ob v=some g→w'.heap[g]? = w.heap[g]?):c9 w' e size v n vs:=by
 obtain⟨h1,h2⟩:=ho
 refine⟨h1,?_⟩
 rcases h2 with h2|⟨g,cap,cur,rfl,hc,hh,r⟩
 ·exact .inl h2
 ·exact .inr ⟨g,cap,cur,rfl,hc,(hk g (by simp only[ob];rw[if_neg (by omega)])).trans hh,r⟩
def iL(Z:Nat→Prop)(w:World):(ok:OK)→Value→ok.T→Prop
 |.row ty k,v,xs=>∃vs,c9 w ty k.sz v xs.length vs∧l6 Z w k xs vs
 |.map kk vk,v,es=>∃m bH clock,v=.map (some m)∧w.heap[m]? = some (.map bH clock)∧B8 (ax Z w kk) (ax Z w vk) kk.isAgg vk.isAgg es bH.toList∧bH.toList.Pairwise (fun a b=>a.born≠b.born)∧∀e∈bH.toList,e.born<clock
 |.iter kk vk,v,x=>∃r m since seen bH clock,v=.pointer (some ⟨r,0,none⟩)∧w.heap[r]? = some (.mapIter (some m) since seen clock)∧Z m∧w.heap[m]? = some (.map bH clock) ∧
   bH.toList.Pairwise (fun a b=>a.born≠b.born)∧since=clock∧(∀e∈bH.toList,e.born<clock)∧B8 (ax Z w kk) (ax Z w vk) kk.isAgg vk.isAgg x.2 (bH.toList.filter fun e => !seen.contains e.born) ∧
   (match x.1 with|none=>True|some c=>∃e∈bH.toList,seen.back? = some e.born∧B8 (ax Z w kk) (ax Z w vk) kk.isAgg vk.isAgg [c] [e])
 |.mr,v,x=>∃r,v=.pointer (some ⟨r,0,none⟩)∧w.heap[r]? = some (.stringIter x.1 x.2)
theorem iL.lt{Z:Nat→Prop}{w:World}:∀{ok:OK} {v:Value} {x:ok.T} {b:Nat},iL Z w ok v x→ob v=some b→b<w.heap.size
 |.row ty k,v,xs,b,h,hb=>by
  obtain⟨vs,⟨_,h⟩,_⟩:=h
  rcases h with⟨_,A,rfl⟩|⟨g,cap,cur,rfl,hc,h2,_⟩
  ·cases A<;>simp[ob]at hb
  ·simp only[ob]at hb
   rw[if_neg (by omega)]at hb
   cases hb
   exact(Array.getElem?_eq_some_iff.1 h2).1
 |.map _ _,v,_,b,h,hb=>by
  obtain⟨m,bH,clock,rfl,h2,_⟩:=h
  simp only[ob,Option.some.injEq]at hb;subst hb
  exact(Array.getElem?_eq_some_iff.1 h2).1
 |.iter _ _,v,_,b,h,hb=>by
  obtain⟨r,m,since,seen,bH,clock,rfl,h2,_⟩:=h
  simp only[ob,Option.some.injEq]at hb;subst hb
  exact(Array.getElem?_eq_some_iff.1 h2).1
 |.mr,v,_,b,h,hb=>by
  obtain⟨r,rfl,h2⟩:=h
  simp only[ob,Option.some.injEq]at hb;subst hb
  exact(Array.getElem?_eq_some_iff.1 h2).1
theorem iL.one{Z:Nat→Prop}{w:World}:∀{ok:OK} {v:Value} {x:ok.T},iL Z w ok v x→v.cells=#[v]∧v.oneCell'=true
 |.row ty k,v,xs,h=>by
  obtain⟨vs,h,_⟩:=h
  obtain⟨A,c,rfl⟩:=h.slice
  exact⟨rfl,by simp[Value.oneCell']⟩
 |.map _ _,v,_,h=>by obtain⟨m,bH,clock,rfl,_⟩:=h;exact⟨rfl,by simp[Value.oneCell']⟩
 |.iter _ _,v,_,h=>by obtain⟨r,m,since,seen,bH,clock,rfl,_⟩:=h;exact⟨rfl,by simp[Value.oneCell']⟩
 |.mr,v,_,h=>by obtain⟨r,rfl,_⟩:=h;exact⟨rfl,by simp[Value.oneCell']⟩
theorem iL.kept{Z Z':Nat→Prop}{w w':World}(hz:∀b,Z b→Z' b)(sm:b4 Z w w'):∀{ok:OK} {v:Value} {x:ok.T},(∀g,ob v=some g→w'.heap[g]? = w.heap[g]?)→iL Z w ok v x→iL Z' w' ok v x
 |.row ty k,v,xs,hk,h=>by
  obtain⟨vs,h1,h2⟩:=h
  exact⟨vs,h1.kept hk,fun i x hx=>(h2 i x hx).mono hz sm⟩
 |.map _ _,v,_,hk,h=>by
  obtain⟨m,bH,clock,rfl,h2,h3,h4⟩:=h
  exact⟨m,bH,clock,rfl,(hk m rfl).trans h2,h3.imp (fun _ _ h=>h.mono hz sm) (fun _ _ h=>h.mono hz sm),h4⟩
 |.iter _ _,v,x,hk,h=>by
  obtain⟨r,m,since,seen,bH,clock,rfl,h2,h3,h4,h5,h6,h7,h8,h9⟩:=h
  refine⟨r,m,since,seen,bH,clock,rfl,(hk r rfl).trans h2,hz _ h3,(sm m h3).trans h4,h5,h6,h7,h8.imp (fun _ _ h=>h.mono hz sm) (fun _ _ h=>h.mono hz sm),?_⟩
  split
  ·trivial
  ·rename_i c hc
   rw[hc]at h9
   obtain⟨e,he,l8,we⟩:=h9
   exact⟨e,he,l8,we.imp (fun _ _ h=>h.mono hz sm) (fun _ _ h=>h.mono hz sm)⟩
 |.mr,v,_,hk,h=>by
  obtain⟨r,rfl,h2⟩:=h
  exact⟨r,rfl,(hk r rfl).trans h2⟩
structure Good(Z:Nat→Prop)(ψ:Nat→Value)(h:Hp)(w:World)(B0:Nat)(O:Nat→Prop):Prop where
 box:∀id ty cs,h id=some (.box ty cs)→∃g vs,ψ id=.pointer (some ⟨g,0,none⟩)∧w.heap[g]? = some (.cells vs ty (0,0))∧ah Z ψ h w cs vs.toList∧∀u∈vs.toList,u.oneCell'=true
 row:∀id ok x,h id=some (.own ok x)→iL Z w ok (ψ id) x
 live:∀id g,h id≠none→ob (ψ id)=some g→¬Z g∧(B0≤g∨O g)
 apart:∀id lr g,h id≠none→h lr≠none→ob (ψ id)=some g→ob (ψ lr)=some g→id=lr
 iR:∀b,Z b→b<w.heap.size
variable {Z Z':Nat→Prop} {ψ ψ':Nat→Value} {h h':Hp} {w w':World} {B0:Nat} {O:Nat→Prop}
theorem Good.sub(g:Good Z ψ h w B0 O)(hs:∀id o,h' id=some o→h id=some o):Good Z ψ h' w B0 O:=by
 have hn:∀id,h' id≠none→h id≠none:=fun id hn=>by
  obtain⟨o,ho⟩:=Option.ne_none_iff_exists'.1 hn
  rw[hs id o ho];simp
 refine⟨fun id ty cs hb=>?_,fun id ok x hb=>g.row id ok x (hs _ _ hb),fun id b h1 h2=>g.live id b (hn id h1) h2,fun id lr b h1 h2 h3 h4=>g.apart id lr b (hn _ h1) (hn _ h2) h3 h4,g.iR⟩
 obtain⟨b,vs,h1,h2,h3,h4⟩:=g.box id ty cs (hs _ _ hb)
 exact⟨b,vs,h1,h2,ah.less (fun _ h=>h) (b4.refl _ _) (fun id bD=>⟨hn id bD,rfl⟩) h3,h4⟩
theorem Good.freeze(g:Good Z ψ h w B0 O)(hs:∀id o,h' id=some o→h id=some o)(hz:∀b,Z b→Z' b)
  (KK:∀b,Z' b→Z b∨∃id,h id≠none∧h' id=none∧ob (ψ id)=some b):Good Z' ψ h' w B0 O:=by
 have hn:∀id,h' id≠none→h id≠none:=fun id hn=>by
  obtain⟨o,ho⟩:=Option.ne_none_iff_exists'.1 hn
  rw[hs id o ho];simp
 have lt:∀id b,h id≠none→ob (ψ id)=some b→b<w.heap.size:=by
  intro id b h1 h2
  obtain⟨o,ho⟩:=Option.ne_none_iff_exists'.1 h1
  cases o with
  |box ty cs =>
   obtain⟨gg,vs,e1,e2,_⟩:=g.box id ty cs ho
   rw[e1]at h2;simp only[ob,Option.some.injEq]at h2;subst h2
   exact(Array.getElem?_eq_some_iff.1 e2).1
  |own ok x=>exact(g.row id ok x ho).lt h2
 refine⟨fun id ty cs hb=>?_,fun id ok x hb=>?_,fun id b h1 h2=>⟨fun TH=>?_,(g.live id b (hn id h1) h2).2⟩,fun id lr b h1 h2 h3 h4=>g.apart id lr b (hn _ h1) (hn _ h2) h3 h4,fun b hb=>?_⟩
 ·obtain⟨b,vs,h1,h2,h3,h4⟩:=g.box id ty cs (hs _ _ hb)
  exact⟨b,vs,h1,h2,ah.less hz (b4.refl _ _) (fun id bD=>⟨hn id bD,rfl⟩) h3,h4⟩
 ·exact(g.row id ok x (hs _ _ hb)).kept hz (b4.refl _ _) (fun _ _=>rfl)
 ·rcases KK b TH with h3|⟨lr,h3,h4,h5⟩
  ·exact(g.live id b (hn id h1) h2).1 h3
  ·have:=g.apart id lr b (hn id h1) h3 h2 h5
   subst this;exact h1 h4
 ·rcases KK b hb with h3|⟨lr,h3,h4,h5⟩
  ·exact g.iR b h3
  ·exact lt lr b h3 h5
theorem sR{ty:TypeId}{k:K}{xs:List k.T}{v:Value}{vs:List Value}(ho:c9 w ty k.sz v xs.length vs)(hv:l6 Z w k xs vs)(hz:∀b,Z b→Z' b)(hb:∀b,ob v=some b→Z' b) :
  ax Z' w (.sl k) xs [v]:=by
 simp only[ax]
 refine⟨v,rfl,?_⟩
 obtain⟨hl,e⟩:=ho
 rcases e with⟨h0,A,rfl⟩|⟨g,cap,cur,rfl,F2,hh,hc,_,hs,Yd⟩
 ·have:xs=[]:=List.eq_nil_of_length_eq_zero h0
  subst this
  exact⟨A,0,rfl,Nat.le_refl _,fun _=>rfl,fun i x hx=>by simp at hx⟩
 ·refine⟨some ⟨g,0,none⟩,cap,rfl,hc,fun e=>(by cases e),fun i x hx=>?_⟩
  have hi:i<xs.length:=(List.getElem?_eq_some_iff.1 hx).1
  refine⟨⟨g,0,none⟩,_,rfl,hb g (by simp only[ob];rw[if_neg (by omega)]),(hv i x hx).mono hz (b4.refl _ _),fun j u hu=>?_⟩
  rw[bY,Nat.zero_add]
  simp only[World.cell?,hh]
  rw[List.getElem?_take]at hu
  split at hu
  ·rename_i hj
   rw[List.getElem?_drop]at hu
   rw[←Yd,List.getElem?_take]at hu
   split at hu
   ·simpa using hu
   ·cases hu
  ·cases hu
theorem AQ{hh:Heap}{a:AV}{v:Value}(g:Good Z ψ hh.get w B0 O)(hz:∀b,Z b→Z' b)(hb:∀id b,a=.bp id→hh.get id≠none→ob (ψ id)=some b→Z' b)(hr:ao Z ψ hh.get w a v):ao Z' ψ hh.get w (cq hh a) v:=by
 unfold cq
 split
 ·rename_i id
  split
  ·rename_i ty k xs hg
   simp only[ao]at hr
   have hv:=hr.2 (by rw[hg];simp)
   subst hv
   obtain⟨vs,h1,h2⟩:=g.row id (.row ty k) xs hg
   simp only[ao]
   exact⟨sR h1 h2 hz (fun b Rc=>hb id b rfl (by rw[hg];simp) Rc),by simp⟩
  ·rename_i kk vk es hg
   simp only[ao]at hr
   have hv:=hr.2 (by rw[hg];simp)
   subst hv
   obtain⟨m,bH,clock,h1,h2,h3,_⟩:=g.row id (.map kk vk) es hg
   simp only[ao,ax]
   refine⟨some m,by rw[h1],.inr ⟨m,bH,clock,rfl,hb id m rfl (by rw[hg];simp) (by rw[h1];rfl),h2,h3.imp (fun _ _ h=>h.mono hz (b4.refl _ _)) (fun _ _ h=>h.mono hz (b4.refl _ _))⟩⟩
  ·simp only[ao]
 ·exact hr.less hz (b4.refl _ _) (fun id bD=>⟨bD,rfl⟩)
theorem mB{hh:Heap}(g:Good Z ψ hh.get w B0 O)(hz:∀b,Z b→Z' b):∀{cs:List AV} {vs:List Value},(∀id b,AV.bp id∈cs→hh.get id≠none→ob (ψ id)=some b→Z' b)→ah Z ψ hh.get w cs vs→ah Z' ψ hh.get w (cs.map (cq hh)) vs
 |[],_,_,hr=>by simpa only[ah,List.map_nil] using hr
 |a::r,_,hb,hr=>by
  simp only[ah,List.map_cons]at hr ⊢
  obtain⟨v,us,rfl,h1,h2⟩:=hr
  exact⟨v,us,rfl,AQ g hz (fun id b e=>hb id b (by rw[e];simp)) h1,mB g hz (fun id b e=>hb id b (List.mem_cons_of_mem _ e)) h2⟩
theorem I8(hh:Heap)(a:AV):∀id o,(drop1 hh a).get id=some o→hh.get id=some o:=by
 intro id o hg
 unfold drop1 at hg
 split at hg
 ·exact(Heap.sQ hg).1
 ·exact hg
theorem dz:∀(cs:List AV) (hh:Heap),∀id o,(cm hh cs).get id=some o→hh.get id=some o
 |[],_,_,_,hg=>hg
 |c::r,hh,id,o,hg=>I8 hh c id o (dz r (drop1 hh c) id o hg)
theorem xu:∀(cs:List AV) (hh:Heap) (id:Nat),AV.bp id∈cs→(cm hh cs).get id=none
 |[],_,_,hm=>by simp at hm
 |c::r,hh,id,hm=>by
  simp only[cm]
  rcases List.mem_cons.1 hm with rfl|hm
  ·cases hg:(cm (drop1 hh (.bp id)) r).get id with
   |none=>rfl
   |some o =>
    have:=dz r _ id o hg
    simp only[drop1,Heap.fC]at this;cases this
  ·exact xu r _ id hm
theorem nq:∀(cs:List AV) (hh:Heap) (id:Nat),AV.bp id∉cs→(cm hh cs).get id=hh.get id
 |[],_,_,_=>rfl
 |c::r,hh,id,hm=>by
  simp only[cm]
  rw[nq r _ id (fun h=>hm (List.mem_cons_of_mem _ h))]
  unfold drop1
  split
  ·rename_i lr
   exact Heap.gx (fun e=>hm (by rw[e];simp)) hh
  ·rfl
def oP(Z:Nat→Prop)(ψ:Nat→Value)(h:Hp)(cs:List AV):Nat→Prop:=fun b=>Z b∨∃id,AV.bp id∈cs∧h id≠none∧ob (ψ id)=some b
theorem gy{hh:Heap}(g:Good Z ψ hh.get w B0 O)(cs:List AV):Good (oP Z ψ hh.get cs) ψ (cm hh cs).get w B0 O :=
 g.freeze (dz cs hh) (fun _ hb=>.inl hb) (fun b hb=>by
  rcases hb with hb|⟨id,h1,h2,h3⟩
  ·exact .inl hb
  ·exact .inr ⟨id,h2,xu cs hh id h1,h3⟩)
end Go.Vs
namespace Go.Vs
def Own(ψ:Nat→Value)(h:Hp)(b:Nat):Prop:=∃id,h id≠none∧ob (ψ id)=some b
structure cF(ψ:Nat→Value)(h:Hp)(w w':World):Prop where
 os:w'.os=w.os
 tape:w'.tape=w.tape
 output:w'.output=w.output
 size:w.heap.size≤w'.heap.size
 block:∀b,b<w.heap.size→¬Own ψ h b→w'.heap[b]? = w.heap[b]?
structure Next(Z:Nat→Prop)(ψ:Nat→Value)(h:Hp)(w:World)(B0:Nat)(O:Nat→Prop)(N:Nat→Prop)(Z':Nat→Prop)(ψ':Nat→Value)(h':Hp)(w':World):Prop where
 eP:∀b,Z b→Z' b
 dF:∀b,Z' b→Z b∨Own ψ h b∨w.heap.size≤b
 keep:cF ψ h w w'
 ids:∀id,h' id≠none→(h id≠none∧ψ' id=ψ id)∨N id
 dA:Good Z' ψ' h' w' B0 O
variable {Z Z':Nat→Prop} {ψ ψ':Nat→Value} {h h':Hp} {w w':World} {B0:Nat} {O:Nat→Prop} {N:Nat→Prop}
theorem cF.refl(ψ:Nat→Value)(h:Hp)(w:World):cF ψ h w w:=⟨rfl,rfl,rfl,Nat.le_refl _,fun _ _ _=>rfl⟩
theorem cF.same(k:cF ψ h w w')(g:Good Z ψ h w B0 O):b4 Z w w':=fun b hb=>k.block b (g.iR b hb) (fun⟨id,h1,h2⟩=>(g.live id b h1 h2).1 hb)
theorem Next.same(n:Next Z ψ h w B0 O N Z' ψ' h' w')(g:Good Z ψ h w B0 O):b4 Z w w':=n.keep.same g
theorem Next.refl(g:Good Z ψ h w B0 O):Next Z ψ h w B0 O N Z ψ h w :=
 ⟨fun _ h=>h,fun _ h=>.inl h,cF.refl _ _ _,fun _ bD=>.inl ⟨bD,rfl⟩,g⟩
theorem Next.rep(n:Next Z ψ h w B0 O N Z' ψ' h' w')(g:Good Z ψ h w B0 O){a:AV}{v:Value}(hm:aC (fun id=>¬N id) a)(hr:ao Z ψ h w a v):ao Z' ψ' h' w' a v :=
 hr.move n.eP (n.same g) (fun id hp bD=>(n.ids id bD).resolve_right hp) hm
theorem Good.bw(g:Good Z ψ h w B0 O){b:Nat}(ho:Own ψ h b):b<w.heap.size:=by
 obtain⟨id,h1,h2⟩:=ho
 obtain⟨o,ho⟩:=Option.ne_none_iff_exists'.1 h1
 cases o with
 |box ty cs =>
  obtain⟨gg,vs,e1,e2,_⟩:=g.box id ty cs ho
  rw[e1]at h2;simp only[ob,Option.some.injEq]at h2;subst h2
  exact(Array.getElem?_eq_some_iff.1 e2).1
 |own ok x=>exact(g.row id ok x ho).lt h2
theorem Good.more(g:Good Z ψ h w B0 O)(k:cF ψ h w w')(qV:∀b,Own ψ h b→w'.heap[b]? = w.heap[b]?)
  (hold:∀id,¬N id→h' id=h id∧ψ' id=ψ id)
  (aT:∀id ty cs,h id=some (.box ty cs)→aw (fun i=>¬N i) cs)
  (K5:∀id ty cs,N id→h' id=some (.box ty cs)→∃g vs,ψ' id=.pointer (some ⟨g,0,none⟩)∧w'.heap[g]? = some (.cells vs ty (0,0))∧ah Z ψ' h' w' cs vs.toList∧∀u∈vs.toList,u.oneCell'=true)
  (lx:∀id ok x,N id→h' id=some (.own ok x)→iL Z w' ok (ψ' id) x)
  (xw:∀id b,N id→h' id≠none→ob (ψ' id)=some b→w.heap.size≤b)
  (F3:∀id lr b,N id→N lr→h' id≠none→h' lr≠none→ob (ψ' id)=some b→ob (ψ' lr)=some b→id=lr) (hB:B0≤w.heap.size) :
  Next Z ψ h w B0 O N Z ψ' h' w':=by
 have qN:∀id,h' id≠none→(h id≠none∧ψ' id=ψ id)∨N id:=fun id bD=>by
  by_cases hn:N id
  ·exact .inr hn
  ·obtain⟨e1,e2⟩:=hold id hn
   exact .inl ⟨by rwa [e1]at bD,e2⟩
 have sm:b4 Z w w':=k.same g
 have vv:∀id b,¬N id→h' id≠none→ob (ψ' id)=some b→Own ψ h b:=fun id b hn h1 h2=>by
  obtain⟨e1,e2⟩:=hold id hn
  exact⟨id,by rwa [e1]at h1,by rwa [e2]at h2⟩
 refine⟨fun _ h=>h,fun _ h=>.inl h,k,qN,⟨fun id ty cs hb=>?_,fun id ok x hb=>?_,fun id b h1 h2=>?_,fun id lr b h1 h2 h3 h4=>?_,fun b hb=>Nat.lt_of_lt_of_le (g.iR b hb) k.size⟩⟩
 ·by_cases hn:N id
  ·exact K5 id ty cs hn hb
  ·obtain⟨e1,e2⟩:=hold id hn
   rw[e1]at hb
   obtain⟨gg,vs,h1,h2,h3,h4⟩:=g.box id ty cs hb
   have ho:Own ψ h gg:=⟨id,by rw[hb];simp,by rw[h1];rfl⟩
   exact⟨gg,vs,by rw[e2,h1],(qV gg ho).trans h2,h3.move (fun _ h=>h) sm (fun i hp bD=>(qN i bD).resolve_right hp) (aT id ty cs hb),h4⟩
 ·by_cases hn:N id
  ·exact lx id ok x hn hb
  ·obtain⟨e1,e2⟩:=hold id hn
   rw[e1]at hb
   rw[e2]
   exact(g.row id ok x hb).kept (fun _ h=>h) sm (fun gg I9=>qV gg ⟨id,by rw[hb];simp,I9⟩)
 ·by_cases hn:N id
  ·have:=xw id b hn h1 h2
   exact⟨fun hz=>by have:=g.iR b hz;omega,.inl (by omega)⟩
  ·obtain⟨e1,e2⟩:=hold id hn
   rw[e1]at h1;rw[e2]at h2
   exact g.live id b h1 h2
 ·by_cases hn:N id<;>by_cases F4:N lr
  ·exact F3 id lr b hn F4 h1 h2 h3 h4
  ·have:=xw id b hn h1 h3
   have:=g.bw (vv lr b F4 h2 h4);omega
  ·have:=xw lr b F4 h2 h4
   have:=g.bw (vv id b hn h1 h3);omega
  ·obtain⟨e1,e2⟩:=hold id hn
   obtain⟨e3,e4⟩:=hold lr F4
   rw[e1]at h1;rw[e2]at h3;rw[e3]at h2;rw[e4]at h4
   exact g.apart id lr b h1 h2 h3 h4
end Go.Vs
namespace Go.Vs
variable {P:Program} {Z Z':Nat→Prop} {ψ ψ':Nat→Value} {h h':Hp} {w w':World} {B0:Nat} {O:Nat→Prop} {N:Nat→Prop}
theorem qg{α:Type}:∀(vs cs:List α) (off:Nat),off+vs.length≤cs.length→du cs off vs=cs.take off++vs++cs.drop (off+vs.length)
 |[],cs,off,_=>by simp[du]
 |v::r,cs,off,hl=>by
  simp only[List.length_cons]at hl
  simp only[du]
  rw[qg r (cs.set off v) (off+1) (by rw[List.length_set];omega)]
  have h1:(cs.set off v).take (off+1)=cs.take off++[v]:=by
   rw[List.take_set,List.take_succ_eq_append_getElem (by omega),List.set_append_right _ _ (by rw[List.length_take];omega)]
   rw[List.length_take,Nat.min_eq_left (by omega)]
   simp
  have h2:(cs.set off v).drop (off+1+r.length)=cs.drop (off+(r.length+1)):=by
   rw[List.drop_set_of_lt (by omega)];congr 1;omega
  rw[h1,h2,List.append_assoc,List.append_assoc,List.append_assoc];rfl
theorem fe{t:TypeId}{b:Bool}(hb:AJ P t=some b):(isAgg t).run P w=.ok b w:=by
 unfold AJ at hb
 obtain⟨d,hd,rfl⟩:=Option.map_eq_some_iff.1 hb
 simp only[isAgg,Sem.run_bind,run_underlying hd,Result.andThen_ok]
 cases d<;>rfl
theorem qW{t:TypeId}{d:TypeDesc}(hd:P.underlying t=some d):∃i,P.info? t=some i:=by
 unfold Program.underlying at hd
 split at hd
 ·rename_i heq;exact⟨_,heq⟩
 ·rename_i heq;exact⟨_,heq⟩
 ·cases hd
theorem c6{t:TypeId}{i:TypeInfo}(hi:P.info? t=some i):(sizeOf t).run P w=.ok (P.cellsOf t) w:=by
 simp[sizeOf,typeInfo,hi,Program.cellsOf]
theorem vw{t:TypeId}{b:Bool}(hb:AJ P t=some b):∃i,P.info? t=some i:=by
 unfold AJ at hb
 obtain⟨d,hd,rfl⟩:=Option.map_eq_some_iff.1 hb
 exact qW hd
theorem iS{t:TypeId}{cs:List AV}{us:List Value}{a:Addr}{x:AV}(hr:ah Z ψ h w cs us)(hc:∀(j:Nat) u,us[j]? = some u→w.cell? (a.add j)=some u)(hx:dy P t cs=some x) :
  ∃V,(Instr.loadAt t (.pointer (some a))).run P w=.ok V w∧ao Z ψ h w x V:=by
 unfold dy at hx
 have hlen:=hr.length
 split at hx
 ·rename_i hb
  split at hx
  ·rename_i hl
   cases hx
   obtain⟨i,hi⟩:=vw hb
   refine⟨.agg (us.take (P.cellsOf t)).toArray,?_,by simp only[ao];exact⟨_,rfl,by simpa using hr.take (P.cellsOf t)⟩⟩
   have aE:(us.take (P.cellsOf t)).length=P.cellsOf t:=by rw[List.length_take];omega
   have hld:=run_loadCells_list (P:=P) w a (us.take (P.cellsOf t)) (fun j v hv=>hc j v (by
    rw[List.getElem?_take]at hv;split at hv
    ·exact hv
    ·cases hv))
   rw[aE]at hld
   simp[Instr.loadAt,Instr.sureAddr,loadVar,fe hb,c6 hi,hld]
  ·cases hx
 ·rename_i hb
  split at hx
  ·rename_i c r
   cases hx
   simp only[ah]at hr
   obtain⟨v,hM,rfl,h1,h2⟩:=hr
   refine⟨v,?_,h1⟩
   have:=hc 0 v rfl
   rw[AP]at this
   simp[Instr.loadAt,Instr.sureAddr,loadVar,fe hb,this]
  ·cases hx
 ·cases hx
theorem jY{t:TypeId}{i:TypeInfo}(hi:P.info? t=some i)(g off:Nat)(V:Value)(cur:Array Value)(ty:TypeId)(hg:w.heap[g]? = some (.cells cur ty (0,0)))(hs:V.cells.size=P.cellsOf t)
  (hl:off+V.cells.size≤cur.size) (h1:∀v∈V.cells.toList,v.oneCell'=true) :
  (Instr.storeAt t (.pointer (some ⟨g,off,none⟩)) V).run P w=.ok () (w.setRow g (cur.toList.take off++V.cells.toList++cur.toList.drop (off+V.cells.size)).toArray):=by
 have sS:=run_storeCells_at P g off ty V.cells.toList 0 cur w hg (by simpa using hl) h1
 simp only[Nat.add_zero,Array.length_toList]at sS
 simp[Instr.storeAt,Instr.sureAddr,storeVar,c6 hi,hs,sS]
end Go.Vs
namespace Go.Vs
variable {P:Program} {Z Z':Nat→Prop} {ψ ψ':Nat→Value} {h h':Hp} {w w':World} {B0:Nat} {O:Nat→Prop} {N:Nat→Prop}
def dv{α:Type}(f:Nat→α)(i:Nat)(v:α):Nat→α:=fun j=>if j=i then v else f j
theorem aS{α:Type}(f:Nat→α)(i:Nat)(v:α):dv f i v i=v:=by simp[dv]
theorem cw{α:Type}(f:Nat→α){i j:Nat}(v:α)(aV:j≠i):dv f i v j=f j:=by simp[dv,aV]
theorem cF.alloc(ψ:Nat→Value)(h:Hp)(w:World)(o:Obj):cF ψ h w (w.alloc o) :=
 ⟨rfl,rfl,rfl,by rw[World.size_alloc];omega,fun b hb _=>heap_alloc_old w o hb⟩
theorem xx(g:Good Z ψ h w B0 O)(hB:B0≤w.heap.size)(id:Nat)(ty:TypeId){cs:List AV}{vs:Array Value}(hN:N id)(hr:ah Z ψ h w cs vs.toList)(h1:∀u∈vs.toList,u.oneCell'=true)
  (aT:∀i ty cs,h i=some (.box ty cs)→aw (fun i=>i≠id) cs) (hm:aw (fun i=>i≠id) cs) :
  Next Z ψ h w B0 O N Z (dv ψ id (.pointer (some ⟨w.heap.size,0,none⟩))) (dv h id (some (.box ty cs))) (w.alloc (.cells vs ty)):=by
 have n:Next Z ψ h w B0 O (·=id) Z (dv ψ id (.pointer (some ⟨w.heap.size,0,none⟩))) (dv h id (some (.box ty cs))) (w.alloc (.cells vs ty)):=by
  refine g.more (cF.alloc _ _ _ _) (fun b hb=>heap_alloc_old w _ (g.bw hb)) (fun i hi=>⟨cw _ _ hi,cw _ _ hi⟩) (fun i wb cs' hb=>?_) (fun i wb cs' hi hb=>?_) (fun i ok x hi hb=>?_) (fun i b hi aV hb=>?_) (fun i i' b hi sV _ _ _ _=>by subst hi;exact sV.symm) hB
  ·exact aT i wb cs' hb
  ·subst hi
   rw[aS]at hb;cases hb
   refine⟨w.heap.size,vs,aS _ _ _,heap_alloc_new _ _,?_,h1⟩
   refine hr.move (fun _ h=>h) ((cF.alloc ψ h w _).same g) (fun j hj aV=>?_) hm
   rw[cw _ _ hj]at aV
   exact⟨aV,cw _ _ hj⟩
  ·subst hi;rw[aS]at hb;cases hb
  ·subst hi;rw[aS]at hb;simp only[ob,Option.some.injEq]at hb;omega
 exact⟨n.eP,n.dF,n.keep,fun i hi=>(n.ids i hi).imp (fun h=>h) (fun e=>by subst e;exact hN),n.dA⟩
theorem K6{h:Hp}{id:Nat}{o:Ob}(bD:h id≠none):∀i,dv h id (some o) i≠none→h i≠none:=fun i hi=>by
 by_cases e:i=id
 ·subst e;exact bD
 ·rwa [cw _ _ e]at hi
theorem Good.write(g:Good Z ψ h w B0 O)(id:Nat)(bD:h id≠none)(k:cF ψ h w w')(K7:∀b,ob (ψ id)≠some b→b<w.heap.size→w'.heap[b]? = w.heap[b]?)(o':Ob)
  (K5:∀ty cs,o'=.box ty cs→∃gg vs,ψ id=.pointer (some ⟨gg,0,none⟩)∧w'.heap[gg]? = some (.cells vs ty (0,0))∧ah Z ψ h w' cs vs.toList∧∀u∈vs.toList,u.oneCell'=true)
  (lx:∀ok x,o'=.own ok x→iL Z w' ok (ψ id) x) :
  Next Z ψ h w B0 O N Z ψ (dv h id (some o')) w':=by
 have hs:=K6 (o:=o') bD
 have sm:=k.same g
 refine⟨fun _ h=>h,fun _ h=>.inl h,k,fun i hi=>.inl ⟨hs i hi,rfl⟩,⟨fun i ty cs hb=>?_,fun i ok x hb=>?_,fun i b h1 h2=>g.live i b (hs i h1) h2,fun i i' b h1 h2 h3 h4=>g.apart i i' b (hs i h1) (hs i' h2) h3 h4,fun b hb=>Nat.lt_of_lt_of_le (g.iR b hb) k.size⟩⟩
 ·by_cases e:i=id
  ·subst e
   rw[aS]at hb;cases hb
   obtain⟨gg,vs,h1,h2,h3,h4⟩:=K5 _ _ rfl
   exact⟨gg,vs,h1,h2,h3.less (fun _ h=>h) (b4.refl _ _) (fun j hj=>⟨hs j hj,rfl⟩),h4⟩
  ·rw[cw _ _ e]at hb
   obtain⟨gg,vs,h1,h2,h3,h4⟩:=g.box i ty cs hb
   refine⟨gg,vs,h1,?_,h3.less (fun _ h=>h) sm (fun j hj=>⟨hs j hj,rfl⟩),h4⟩
   rw[K7 gg (fun hh=>e (g.apart i id gg (by rw[hb];simp) bD (by rw[h1];rfl) hh)) (Array.getElem?_eq_some_iff.1 h2).1]
   exact h2
 ·by_cases e:i=id
  ·subst e
   rw[aS]at hb;cases hb
   exact lx _ _ rfl
  ·rw[cw _ _ e]at hb
   exact(g.row i ok x hb).kept (fun _ h=>h) sm (fun gg I9=>K7 gg (fun hh=>e (g.apart i id gg (by rw[hb];simp) bD I9 hh)) (g.bw ⟨i,by rw[hb];simp,I9⟩))
theorem cF.setRow{gg:Nat}(ho:Own ψ h gg)(arr:Array Value):cF ψ h w (w.setRow gg arr) :=
 ⟨rfl,rfl,rfl,by simp[World.setRow],fun b _ hb=>by
  have:gg≠b:=fun e=>hb (e▸ho)
  simp[World.setRow,Array.getElem?_modify,this]⟩
theorem setRow_other{gg b:Nat}(arr:Array Value)(aV:gg≠b):(w.setRow gg arr).heap[b]? = w.heap[b]? := by
 simp[World.setRow,Array.getElem?_modify,aV]
theorem xy(g:Good Z ψ h w B0 O){id:Nat}{ty:TypeId}{cs vs:List AV}(hb:h id=some (.box ty cs)){t:TypeId}{i:TypeInfo}(hi:P.info? t=some i){off:Nat}{V:Value}
  (hv:ah Z ψ h w vs V.cells.toList) (h1:∀u∈V.cells.toList,u.oneCell'=true) (hs:V.cells.size=P.cellsOf t) (hl:off+vs.length≤cs.length) {a:Addr} (ha:a=⟨Ov (ψ id),off,none⟩) :
  ∃w',(Instr.storeAt t (.pointer (some a)) V).run P w=.ok () w'∧Next Z ψ h w B0 O N Z ψ (dv h id (some (.box ty (du cs off vs)))) w':=by
 obtain⟨gg,arr,e1,e2,e3,e4⟩:=g.box id ty cs hb
 have hlen:=hv.length
 have K8:=e3.length
 simp only[Array.length_toList]at hlen K8
 have bD:h id≠none:=by rw[hb];simp
 have ho:Own ψ h gg:=⟨id,bD,by rw[e1];rfl⟩
 rw[e1]at ha
 simp only[Ov]at ha
 subst ha
 refine⟨_,jY hi gg off V arr ty e2 hs (by omega) h1,?_⟩
 have kk:=cF.setRow (w:=w) ho ((arr.toList.take off++V.cells.toList++arr.toList.drop (off+V.cells.size)).toArray)
 refine g.write id bD kk (fun b hb _=>setRow_other _ (fun e=>hb (by rw[e1];simp[ob,e]))) _ (fun wb cs' he=>?_) (fun _ _ he=>by cases he)
 cases he
 refine⟨gg,_,e1,setRow_heap w gg arr _ ty _ e2,?_,?_⟩
 ·rw[qg _ _ _ hl]
  have h5:ah Z ψ h w (cs.take off++vs++cs.drop (off+vs.length)) (arr.toList.take off++V.cells.toList++arr.toList.drop (off+V.cells.size)):=by
   rw[←hlen];exact((e3.take off).append hv).append (e3.drop (off+vs.length))
  exact h5.less (fun _ h=>h) (kk.same g) (fun j hj=>⟨hj,rfl⟩)
 ·intro u hu
  rw[List.toList_toArray]at hu
  rcases List.mem_append.1 hu with hu|hu
  ·rcases List.mem_append.1 hu with hu|hu
   ·exact e4 u (List.mem_of_mem_take hu)
   ·exact h1 u hu
  ·exact e4 u (List.mem_of_mem_drop hu)
theorem Rd{α:Type}(cur V:List α)(m off sz L:Nat)(h:off+V.length≤sz)(h1:m+sz≤L)(h2:L≤cur.length) :
  ((cur.take (m+off)++V++cur.drop (m+off+V.length)).take L |>.drop m |>.take sz)=((cur.drop m).take sz).take off++V++((cur.drop m).take sz).drop (off+V.length):=by
 apply List.ext_getElem?
 intro q
 simp only[List.getElem?_take,List.getElem?_drop,List.getElem?_append,List.length_append,List.length_take,List.length_drop]
 rw[Nat.min_eq_left (show m+off≤cur.length by omega),Nat.min_eq_left (show off≤min sz (cur.length-m) by omega)]
 repeat' split
 all_goals first|rfl|(exfalso;omega)|(congr 1;omega)|(rw[List.getElem?_eq_none (by omega)])
theorem Ow{α:Type}(cur V:List α)(m off sz L p:Nat)(h:off+V.length≤sz)(h1:m+sz≤L)(h2:L≤cur.length)(h3:p+sz≤L)(h4:p+sz≤m∨m+sz≤p) :
  ((cur.take (m+off)++V++cur.drop (m+off+V.length)).take L |>.drop p |>.take sz)=(cur.drop p).take sz:=by
 apply List.ext_getElem?
 intro q
 simp only[List.getElem?_take,List.getElem?_drop,List.getElem?_append,List.length_append,List.length_take]
 rw[Nat.min_eq_left (show m+off≤cur.length by omega)]
 repeat' split
 all_goals first|rfl|(exfalso;omega)|(congr 1;omega)|(rw[List.getElem?_eq_none (by omega)])
theorem ax.xz{k:K}{x:k.T}{vs us:List Value}(e:vs=us)(hr:ax Z w k x vs):ax Z w k x us:=e▸hr
theorem xC(g:Good Z ψ h w B0 O){id:Nat}{ty:TypeId}{kk:K}{xs:List kk.T}(hb:h id=some (.own (.row ty kk) xs)){t:TypeId}{i:TypeInfo}(hi:P.info? t=some i){n off:Nat}{x y:kk.T}{V:Value}
  (hx:xs[n]? = some x) (hs:V.cells.size=P.cellsOf t) (hl:off+V.cells.size≤kk.sz) {a:Addr} (ha:a=⟨Ov (ψ id),n*kk.sz+off,none⟩)
  (hy:∀us,ax Z w kk x us→ax Z w kk y (us.take off++V.cells.toList++us.drop (off+V.cells.size))) (h1:∀u∈V.cells.toList,u.oneCell'=true) :
  ∃w',(Instr.storeAt t (.pointer (some a)) V).run P w=.ok () w'∧Next Z ψ h w B0 O N Z ψ (dv h id (some (.own (.row ty kk) (xs.set n y)))) w':=by
 obtain⟨vs,ho,hv⟩:=g.row id (.row ty kk) xs hb
 have bD:h id≠none:=by rw[hb];simp
 have hn:n<xs.length:=(List.getElem?_eq_some_iff.1 hx).1
 have F2:=kk.gu
 have hmul:n*kk.sz+kk.sz≤xs.length*kk.sz:=by rw[←Nat.succ_mul];exact Nat.mul_le_mul_right _ hn
 obtain⟨Xs,e⟩:=ho
 rcases e with⟨h0,_⟩|⟨gg,cap,cur,e1,e2,e3,e4,e5,e6,e7⟩
 ·omega
 have Re:xs.length*kk.sz≤cap*kk.sz:=Nat.mul_le_mul_right _ e4
 have iU:ob (ψ id)=some gg:=by rw[e1];simp only[ob];rw[if_neg (by omega)]
 have ho:Own ψ h gg:=⟨id,bD,iU⟩
 have Dl:a=⟨gg,n*kk.sz+off,none⟩:=by rw[ha,e1];rfl
 subst Dl
 refine⟨_,jY hi gg (n*kk.sz+off) V cur ty e3 hs (by omega) h1,?_⟩
 have hk:=cF.setRow (w:=w) ho ((cur.toList.take (n*kk.sz+off)++V.cells.toList++cur.toList.drop (n*kk.sz+off+V.cells.size)).toArray)
 have sm:=hk.same g
 refine g.write id bD hk (fun b hb _=>setRow_other _ (fun e=>hb (by rw[iU,e]))) _ (fun _ _ he=>by cases he) (fun S8 x' he=>?_)
 cases he
 have sG:cur.toList.length=cap*kk.sz:=by rw[Array.length_toList];exact e6
 have Xt:V.cells.toList.length=V.cells.size:=Array.length_toList
 let cI:=cur.toList.take (n*kk.sz+off)++V.cells.toList++cur.toList.drop (n*kk.sz+off+V.cells.size)
 have F5:cI.length=cap*kk.sz:=by
  simp only[cI,List.length_append,List.length_take,List.length_drop,sG,Xt];omega
 have Ox:(xs.set n y).length=xs.length:=List.length_set
 have rO:vs=cur.toList.take (xs.length*kk.sz):=e7.symm
 refine⟨cI.take (xs.length*kk.sz),⟨by rw[List.length_take,F5,Ox];omega,.inr ⟨gg,cap,cI.toArray,by rw[Ox];exact e1,e2,setRow_heap w gg cur _ ty _ e3,by rw[Ox];exact e4,e5,by simpa using F5,by rw[Ox]⟩⟩,fun j z hz=>?_⟩
 have hj:j<xs.length:=by have:=(List.getElem?_eq_some_iff.1 hz).1;rwa [Ox]at this
 have Xu:j*kk.sz+kk.sz≤xs.length*kk.sz:=by rw[←Nat.succ_mul];exact Nat.mul_le_mul_right _ hj
 have TI:∀p,p+kk.sz≤xs.length*kk.sz→(vs.drop p).take kk.sz=(cur.toList.drop p).take kk.sz:=fun p hp=>by
  rw[rO,List.drop_take,List.take_take,Nat.min_eq_left (by omega)]
 by_cases KM:j=n
 ·subst KM
  rw[List.getElem?_set_self hn]at hz;cases hz
  have hu:=hy _ (hv j x hx)
  rw[TI _ Xu,←Xt]at hu
  refine ax.mono (fun _ h=>h) sm (ax.xz ?_ hu)
  have:=Rd cur.toList V.cells.toList (j*kk.sz) off kk.sz (xs.length*kk.sz) (by omega) Xu (by omega)
  rw[←this,Xt]
 ·rw[List.getElem?_set_ne (fun e=>KM e.symm)]at hz
  have hu:=hv j z hz
  rw[TI _ Xu]at hu
  refine ax.mono (fun _ h=>h) sm (ax.xz ?_ hu)
  have h4:j*kk.sz+kk.sz≤n*kk.sz∨n*kk.sz+kk.sz≤j*kk.sz:=by
   rcases Nat.lt_or_ge j n with h|h
   ·left;rw[←Nat.succ_mul];exact Nat.mul_le_mul_right _ h
   ·right;rw[←Nat.succ_mul];exact Nat.mul_le_mul_right _ (by omega)
  have:=Ow cur.toList V.cells.toList (n*kk.sz) off kk.sz (xs.length*kk.sz) (j*kk.sz) (by omega) hmul (by omega) Xu h4
  rw[←this,Xt]
theorem rP{k:K}{ys:List k.T}{u:Value}(hr:ax Z w (.sl k) ys [u]) :
  (u=.slice none 0 0∧ys=[])∨∃a c news,u=.slice (some a) ys.length c∧ys.length≤c∧news.length=ys.length*k.sz∧(∀(j:Nat) q,news[j]? = some q→w.cell? (a.add j)=some q)∧(∀q∈news,q.oneCell'=true)∧l6 Z w k ys news:=by
 simp only[ax]at hr
 obtain⟨v,hv,A,c,rfl,hl,hn,he⟩:=hr
 cases hv
 cases A with
 |none =>
  left
  cases ys with
  |nil=>exact⟨by rw[hn rfl];rfl,rfl⟩
  |cons y r=>obtain⟨a,us,h1,_⟩:=he 0 y rfl;cases h1
 |some a =>
  right
  have Rf:∀i (hi:i<ys.length),∃us,ax Z w k ys[i] us∧∀(j:Nat) u,us[j]? = some u→w.cell? (a.add (i*k.sz+j))=some u:=fun i hi=>by
   obtain⟨a',us,h1,_,h3,h4⟩:=he i _ (List.getElem?_eq_getElem hi)
   cases h1
   exact⟨us,h3,h4⟩
  have F2:=k.gu
  let news:=(List.range (ys.length*k.sz)).map fun j=>(w.cell? (a.add j)).getD default
  have AR:∀j,j<ys.length*k.sz→∃q,w.cell? (a.add j)=some q∧q.oneCell'=true:=fun j hj=>by
   have hi:j / k.sz<ys.length:=Nat.div_lt_of_lt_mul (by rw[Nat.mul_comm];exact hj)
   obtain⟨us,h3,h4⟩:=Rf (j / k.sz) hi
   have hm:j%k.sz<us.length:=by rw[h3.len];exact Nat.mod_lt _ F2
   refine⟨us[j%k.sz],?_,h3.one _ (List.getElem_mem hm)⟩
   have:=h4 (j%k.sz) _ (List.getElem?_eq_getElem hm)
   rwa [Nat.mul_comm,Nat.div_add_mod]at this
  have l9:∀j,j<ys.length*k.sz→∃q,news[j]? = some q∧w.cell? (a.add j)=some q:=fun j hj=>by
   obtain⟨q,hq,_⟩:=AR j hj
   exact⟨q,by simp[news,List.getElem?_map,List.getElem?_range hj,hq],hq⟩
  have hlen:news.length=ys.length*k.sz:=by simp[news]
  refine⟨a,c,news,rfl,hl,hlen,fun j q hq=>?_,fun q hq=>?_,fun i x hx=>?_⟩
  ·have hj:j<ys.length*k.sz:=by rw[←hlen];exact(List.getElem?_eq_some_iff.1 hq).1
   obtain⟨q',h1,h2⟩:=l9 j hj
   rw[h1]at hq;cases hq;exact h2
  ·obtain⟨j,hj,rfl⟩:=List.mem_iff_getElem.1 hq
   obtain⟨q',h1,h2⟩:=l9 j (by omega)
   obtain⟨q2,h3,h4⟩:=AR j (by omega)
   rw[List.getElem?_eq_getElem hj]at h1;cases h1
   rw[h2]at h3;cases h3;exact h4
  ·have hi:i<ys.length:=(List.getElem?_eq_some_iff.1 hx).1
   obtain⟨us,h3,h4⟩:=Rf i hi
   rw[List.getElem?_eq_getElem hi]at hx;cases hx
   refine ax.xz ?_ h3
   have hul:=h3.len
   have hmul:i*k.sz+k.sz≤ys.length*k.sz:=by rw[←Nat.succ_mul];exact Nat.mul_le_mul_right _ hi
   apply List.ext_getElem?
   intro q
   rw[List.getElem?_take,List.getElem?_drop]
   by_cases hq:q<k.sz
   ·rw[if_pos hq]
    obtain⟨q',h5,h6⟩:=l9 (i*k.sz+q) (by omega)
    rw[h5]
    have h7:=h4 q _ (List.getElem?_eq_getElem (by omega))
    rw[List.getElem?_eq_getElem (by omega)]
    rw[h6]at h7;cases h7;rfl
   ·rw[if_neg hq,List.getElem?_eq_none (by omega)]
theorem Ja{hh:Heap}(g:Good Z ψ hh.get w B0 O){x:AV}{u:Value}{k:K}{ys:List k.T}(hx:rowOf hh x k=some ys)(hr:ao Z ψ hh.get w x u) :
  (u=.slice none 0 0∧ys=[])∨∃a c news,u=.slice (some a) ys.length c∧ys.length≤c∧news.length=ys.length*k.sz∧(∀(j:Nat) q,news[j]? = some q→w.cell? (a.add j)=some q)∧(∀q∈news,q.oneCell'=true)∧l6 Z w k ys news:=by
 unfold rowOf at hx
 split at hx
 ·rename_i ex k' xs heq
  split at hx
  ·rename_i e
   subst e
   cases hx
   cases x with
   |sl ex' k'' TJ =>
    simp only[cq]at heq
    cases heq
    simp only[ao]at hr
    exact rP hr.1
   |bp id =>
    simp only[cq]at heq
    split at heq
    ·rename_i ty kk zs hg
     cases heq
     simp only[ao]at hr
     have hv:=hr.2 (by rw[hg];simp)
     subst hv
     obtain⟨vs,ho,hv⟩:=g.row id (.row ty _) _ hg
     have h1:=rP (sR (Z':=fun b=>Z b∨ob (ψ id)=some b) ho hv (fun b hb=>.inl hb) (fun b hb=>.inr hb))
     rcases h1 with h1|⟨a,c,news,h1,h2,h3,h4,h5,_⟩
     ·exact .inl h1
     ·right
      refine⟨a,c,news,h1,h2,h3,h4,h5,?_⟩
      have Oy:news=vs:=by
       obtain⟨hl,e⟩:=ho
       rcases e with⟨e,_⟩|⟨gg,cap,cur,e,_,e3,_,_,_,e7⟩
       ·rw[e,Nat.zero_mul]at h3 hl
        rw[List.eq_nil_of_length_eq_zero h3,List.eq_nil_of_length_eq_zero hl]
       ·rw[e]at h1;cases h1
        apply List.ext_getElem?
        intro j
        by_cases hj:j<xs.length*k'.sz
        ·have hn:=h4 j _ (List.getElem?_eq_getElem (by omega))
         rw[bY,Nat.zero_add]at hn
         simp only[World.cell?,e3]at hn
         have vx:vs[j]? = cur.toList[j]? := by rw[←e7,List.getElem?_take,if_pos hj]
         rw[vx,List.getElem?_eq_getElem (by omega)]
         simpa using hn.symm
        ·rw[List.getElem?_eq_none (by omega),List.getElem?_eq_none (by omega)]
      rw[Oy];exact hv
    ·cases heq
    ·cases heq
   |_=>simp only[cq]at heq<;>cases heq
  ·cases hx
 ·rename_i heq
  cases hx
  cases x with
  |eY=>simp only[ao]at hr;exact .inl ⟨hr,rfl⟩
  |bp id=>simp only[cq]at heq;split at heq<;>cases heq
  |_=>simp only[cq]at heq<;>cases heq
 ·cases hx
structure nr(P:Program)(e:TypeId)(k:K)(i:TypeInfo)(z:Value):Prop where
 info:P.info? e=some i
 zero:i.zero=some z
 size:i.size=k.sz
 qX:z.cells.size=k.sz
 bytes:i.bytes≤65536
theorem cd{e:TypeId}{k:K}(he:B4 P e k=true):∃i z,nr P e k i z:=by
 unfold B4 at he
 split at he
 ·rename_i i hi
  split at he
  ·rename_i z hz
   simp only[Bool.and_eq_true,decide_eq_true_eq]at he
   exact⟨i,z,hi,hz,he.1,he.2.1,he.2.2⟩
  ·cases he
 ·cases he
theorem l6.append{k:K}{xs ys:List k.T}{vs us:List Value}(h1:l6 Z w k xs vs)(h2:l6 Z w k ys us)(hl:vs.length=xs.length*k.sz):l6 Z w k (xs++ys) (vs++us):=fun i x hx=>by
 by_cases hi:i<xs.length
 ·rw[List.getElem?_append_left hi]at hx
  have hm:i*k.sz+k.sz≤xs.length*k.sz:=by rw[←Nat.succ_mul];exact Nat.mul_le_mul_right _ hi
  have h3:=h1 i x hx
  rw[List.drop_append_of_le_length (by omega),List.take_append_of_le_length (by rw[List.length_drop];omega)]
  exact h3
 ·rw[List.getElem?_append_right (by omega)]at hx
  have h3:=h2 (i-xs.length) x hx
  have e:i*k.sz=vs.length+(i-xs.length)*k.sz:=by
   rw[hl,←Nat.add_mul];congr 1;omega
  rw[e,List.drop_append,List.drop_eq_nil_of_le (by omega),List.nil_append,Nat.add_sub_cancel_left]
  exact h3
theorem l6.Dm{k:K}{xs:List k.T}{vs:List Value}(h:l6 Z w k xs vs)(sm:b4 Z w w'):l6 Z w' k xs vs:=fun i x hx=>(h i x hx).mono (fun _ h=>h) sm
theorem Dn(g:Good Z ψ h w B0 O)(hB:B0≤w.heap.size)(id:Nat)(hN:N id){ok:OK}{x:ok.T}{v:Value}(kk:cF ψ h w w')(qV:∀b,Own ψ h b→w'.heap[b]? = w.heap[b]?)
  (ho:iL Z w' ok v x) (hb:∀b,ob v=some b→w.heap.size≤b)
  (aT:∀i ty cs,h i=some (.box ty cs)→aw (fun i=>i≠id) cs) :
  Next Z ψ h w B0 O N Z (dv ψ id v) (dv h id (some (.own ok x))) w':=by
 have n:Next Z ψ h w B0 O (·=id) Z (dv ψ id v) (dv h id (some (.own ok x))) w':=by
  refine g.more kk qV (fun i hi=>⟨cw _ _ hi,cw _ _ hi⟩) (fun i wb cs' hb=>aT i wb cs' hb) (fun i wb cs' hi hb=>?_) (fun i ok x hi hb=>?_) (fun i b hi aV Rc=>?_) (fun i i' b hi sV _ _ _ _=>by subst hi;exact sV.symm) hB
  ·subst hi;rw[aS]at hb;cases hb
  ·subst hi
   rw[aS]at hb;cases hb
   rw[aS];exact ho
  ·subst hi;rw[aS]at Rc;exact hb b Rc
 exact⟨n.eP,n.dF,n.keep,fun i hi=>(n.ids i hi).imp (fun h=>h) (fun e=>by subst e;exact hN),n.dA⟩
theorem pe(g:Good Z ψ h w B0 O)(hB:B0≤w.heap.size)(id:Nat)(ty:TypeId)(hN:N id){k:K}{xs:List k.T}{vs:List Value}{v:Value}(kk:cF ψ h w w')(qV:∀b,Own ψ h b→w'.heap[b]? = w.heap[b]?)
  (ho:c9 w' ty k.sz v xs.length vs) (hv:l6 Z w' k xs vs) (hb:∀b,ob v=some b→w.heap.size≤b)
  (aT:∀i ty cs,h i=some (.box ty cs)→aw (fun i=>i≠id) cs) :
  Next Z ψ h w B0 O N Z (dv ψ id v) (dv h id (some (.own (.row ty k) xs))) w':=Dn g hB id hN (ok:=.row ty k) kk qV ⟨vs,ho,hv⟩ hb aT
theorem cF.grown{row:Option Nat}(hg:w.grownBy w' row)(hr:∀b,row=some b→Own ψ h b):cF ψ h w w' :=
 ⟨hg.os,hg.tape,hg.output,hg.size,fun b hb hn=>hg.block b hb (fun e=>hn (hr b e.symm))⟩
theorem pf(g:Good Z ψ h w B0 O)(hB:B0≤w.heap.size)(id c8:Nat)(hN:N id){ok:OK}{x y:ok.T}(ho:h c8=some (.own ok x))(aV:c8≠id)
  (hg:w.grownBy w' (ob (ψ c8))) {v:Value} (hv:iL Z w' ok v y)
  (hb:ob v=ob (ψ c8)∨∀b,ob v=some b→w.heap.size≤b)
  (aT:∀i ty cs,h i=some (.box ty cs)→aw (fun i=>i≠id) cs) :
  Next Z ψ h w B0 O N Z (dv ψ id v) (dv (dv h c8 none) id (some (.own ok y))) w':=by
 have hold:h c8≠none:=by rw[ho];simp
 have iU:∀b,ob (ψ c8)=some b→ob (ψ c8)=some b:=fun _ h=>h
 have kk:cF ψ h w w':=cF.grown hg (fun b e=>⟨c8,hold,iU b e⟩)
 have sm:=kk.same g
 have other:∀i b,h i≠none→i≠c8→ob (ψ i)=some b→w'.heap[b]? = w.heap[b]? := fun i b h1 h2 h3 =>
  hg.block b (g.bw ⟨i,h1,h3⟩) (fun e=>h2 (g.apart i c8 b h1 hold h3 (iU b e.symm)))
 have at_:∀i,i≠id→dv (dv h c8 none) id (some (.own ok y)) i≠none→h i≠none∧i≠c8:=fun i hi h1=>by
  rw[cw _ _ hi]at h1
  by_cases e:i=c8
  ·subst e;rw[aS]at h1;exact absurd rfl h1
  ·rw[cw _ _ e]at h1;exact⟨h1,e⟩
 have ids:∀i,dv (dv h c8 none) id (some (.own ok y)) i≠none→(h i≠none∧dv ψ id v i=ψ i)∨i=id:=fun i h1=>by
  by_cases e:i=id
  ·exact .inr e
  ·exact .inl ⟨(at_ i e h1).1,cw _ _ e⟩
 have vob:∀b,ob v=some b→ob (ψ c8)=some b∨w.heap.size≤b:=fun b Rc=>by
  rcases hb with hb|hb
  ·left;rw[←hb];exact Rc
  ·right;exact hb b Rc
 refine⟨fun _ h=>h,fun _ h=>.inl h,kk,fun i h1=>(ids i h1).imp (fun h=>h) (fun e=>by subst e;exact hN),⟨fun i wb cs oH=>?_,fun i S8 z oH=>?_,fun i b h1 h2=>?_,fun i i' b h1 h2 h3 h4=>?_,fun b hz=>Nat.lt_of_lt_of_le (g.iR b hz) kk.size⟩⟩
 ·by_cases e:i=id
  ·subst e;rw[aS]at oH;cases oH
  ·have F6:=at_ i e (by rw[oH];simp)
   rw[cw _ _ e,cw _ _ F6.2]at oH
   obtain⟨gg,us,h1,h2,h3,h4⟩:=g.box i wb cs oH
   refine⟨gg,us,by rw[cw _ _ e];exact h1,(other i gg F6.1 F6.2 (by rw[h1];rfl)).trans h2,?_,h4⟩
   exact h3.move (fun _ h=>h) sm (fun j hj hn=>(ids j hn).resolve_right hj) (aT i wb cs oH)
 ·by_cases e:i=id
  ·subst e;rw[aS]at oH;cases oH
   rw[aS];exact hv
  ·have F6:=at_ i e (by rw[oH];simp)
   rw[cw _ _ e,cw _ _ F6.2]at oH
   rw[cw _ _ e]
   exact(g.row i S8 z oH).kept (fun _ h=>h) sm (fun gg I9=>other i gg F6.1 F6.2 I9)
 ·by_cases e:i=id
  ·subst e;rw[aS]at h2
   rcases vob b h2 with h3|h3
   ·exact g.live c8 b hold h3
   ·exact⟨fun hz=>by have:=g.iR b hz;omega,.inl (by omega)⟩
  ·rw[cw _ _ e]at h2
   exact g.live i b (at_ i e h1).1 h2
 ·have key:∀j,j≠id→dv (dv h c8 none) id (some (.own ok y)) j≠none→ob (ψ j)=some b→ob v=some b→False:=fun j hj h5 h6 h7=>by
   obtain⟨h8,h9⟩:=at_ j hj h5
   rcases vob b h7 with l8|l8
   ·exact h9 (g.apart j c8 b h8 hold h6 l8)
   ·have:=g.bw ⟨j,h8,h6⟩;omega
  by_cases e:i=id<;>by_cases e':i'=id
  ·rw[e,e']
  ·subst e;rw[aS]at h3;rw[cw _ _ e']at h4
   exact(key i' e' h2 h4 h3).elim
  ·subst e';rw[aS]at h4;rw[cw _ _ e]at h3
   exact(key i e h1 h3 h4).elim
  ·rw[cw _ _ e]at h3;rw[cw _ _ e']at h4
   exact g.apart i i' b (at_ i e h1).1 (at_ i' e' h2).1 h3 h4
def Jb(w:World)(sz:Nat)(u:Value)(m:Nat)(news:List Value):Prop :=
 news.length=m*sz∧(∀q∈news,q.oneCell'=true)∧((u=.slice none 0 0∧m=0)∨∃a c,u=.slice (some a) m c∧∀(j:Nat) q,news[j]? = some q→w.cell? (a.add j)=some q)
theorem Ca{hh:Heap}(g:Good Z ψ hh.get w B0 O){x:AV}{u:Value}{k:K}{ys:List k.T}(hx:rowOf hh x k=some ys)(hr:ao Z ψ hh.get w x u):∃news,Jb w k.sz u ys.length news∧l6 Z w k ys news:=by
 rcases Ja g hx hr with⟨rfl,rfl⟩|⟨a,c,news,h1,_,h2,h3,h4,h5⟩
 ·exact⟨[],⟨by simp,by simp,.inl ⟨rfl,rfl⟩⟩,fun i x hx=>by simp at hx⟩
 ·exact⟨news,⟨h2,h4,.inr ⟨a,c,h1,h3⟩⟩,h5⟩
theorem dR{t ty e:TypeId}{i:TypeInfo}(ht:P.underlying t=some (.slice e))(hi:P.info? e=some i)(A:Option Addr)(n c:Nat)(hc:n≤c)(A':Option Addr)(c':Nat) :
  (Builtin.append_ #[t,t] ty #[.slice A n c,.slice A' 0 c']).run P w=.ok (.slice A n c) w:=by
 cases A<;>cases A'<;>simp[Builtin.append_,run_underlying ht,sizeOf,typeInfo,hi,Builtin.lenOf,Builtin.firstCells,hc,storeCells,loadCells,loadCellsFrom]
theorem dh{t ty e:TypeId}{k:K}{i:TypeInfo}{z:Value}(ht:P.underlying t=some (.slice e))(he:nr P e k i z){v:Value}{n:Nat}{xs:List Value}(ho:c9 w e k.sz v n xs)
  {u:Value} {m:Nat} {news:List Value} (hu:Jb w k.sz u m news) (hm:n+m≤eL) :
  ∃v' w',(Builtin.append_ #[t,t] ty #[v,u]).run P w=.ok v' w'∧c9 w' e k.sz v' (n+m) (xs++news)∧w.grownBy w' (ob v)∧(ob v'=ob v∨∀b,ob v'=some b→w.heap.size≤b):=by
 obtain⟨h1,h3,hu⟩:=hu
 obtain⟨A0,c0,Rg⟩:=ho.slice
 by_cases Xv:m=0
 ·subst Xv
  have TK:news=[]:=List.eq_nil_of_length_eq_zero (by rw[h1,Nat.zero_mul])
  subst TK
  have Cb:n≤c0:=by
   rcases ho.2 with⟨h0,A,e⟩|⟨g,cap,cur,e,hc,h2,h3,_⟩
   ·omega
   ·rw[Rg]at e;cases e;exact h3
  refine⟨v,w,?_,by simpa using ho,World.grownBy.refl w _,.inl rfl⟩
  subst Rg
  rcases hu with⟨rfl,_⟩|⟨a,c,rfl,_⟩<;>exact dR ht he.info A0 n c0 Cb _ _
 ·rcases hu with⟨_,h0⟩|⟨a,c,rfl,h2⟩
  ·exact absurd h0 Xv
  have hb:=he.bytes
  unfold eL at hm
  have iV:(n+m)*i.bytes≤140737488355328:=Nat.le_trans (Nat.mul_le_mul hm hb) (by decide)
  have new:∀v',w.heap.size≤w.heap.size→∀(w':World),w'.ownsRow w.heap.size e k.sz v' (n+m) (xs++news)→∀b,ob v'=some b→w.heap.size≤b:=fun v' _ w' ma b hb=>by
   rcases ma.2 with⟨rfl,_⟩|⟨g,cap,cur,rfl,h5,_⟩
   ·simp[ob]at hb
   ·simp only[ob]at hb
    split at hb
    ·cases hb
    ·cases hb;exact h5
  rcases ho.2 with⟨rfl,A,rfl⟩|⟨g,cap,cur,rfl,Re,h4,h5,h6,h7,h8⟩
  ·have qh:xs=[]:=List.eq_nil_of_length_eq_zero (by rw[ho.1,Nat.zero_mul])
   subst qh
   have iU:ob (.slice A 0 0)=none:=by cases A<;>simp[ob]
   cases A with
   |none =>
    obtain⟨v',w',hr,h4,h5,_,h6⟩:=run_append_own_at (P:=P) w w.heap.size t ty e i z k.sz i.bytes ht he.info he.zero he.size rfl he.qX k.gu (.slice none 0 0) 0 [] ⟨by simp,.inl ⟨rfl,rfl⟩⟩ a m c news h1 h2 h3 (by simp only[maxLen];omega) iV (Nat.le_refl _)
    exact⟨v',w',hr,c9.of h4,by rw[iU];exact h5,.inr (new v' (Nat.le_refl _) w' h4)⟩
   |some b0 =>
    obtain⟨v',w',hr,h4,h5⟩:=run_append_arg_grows (P:=P) w t ty e i z k.sz i.bytes ht he.info he.zero he.size rfl he.qX k.gu b0 0 0 [] (by simp) (by simp) a m c news h1 h2 (by omega) (by simp only[maxLen];omega) iV
    exact⟨v',w',hr,c9.of h4,by rw[iU];exact h5,.inr (new v' (Nat.le_refl _) w' h4)⟩
  ·have rQ:w.ownsRow 0 e k.sz (.slice (some ⟨g,0,none⟩) n cap) n xs:=⟨ho.1,.inr ⟨g,cap,cur,rfl,Nat.zero_le _,h4,h5,h6,h7,h8⟩⟩
   have iU:ob (.slice (some ⟨g,0,none⟩) n cap)=some g:=by simp only[ob];rw[if_neg (by omega)]
   obtain⟨v',w',hr,h4,h5,_,h6⟩:=run_append_own_at (P:=P) w 0 t ty e i z k.sz i.bytes ht he.info he.zero he.size rfl he.qX k.gu _ n xs rQ a m c news h1 h2 h3 (by simp only[maxLen];omega) iV (Nat.zero_le _)
   refine⟨v',w',hr,c9.of h4,by rw[iU];exact h5,?_⟩
   rw[iU]
   rcases h4.2 with⟨rfl,h0⟩|⟨g',Ye,cI,rfl,_,_,h9,_⟩
   ·omega
   ·have Oz:ob (.slice (some ⟨g',0,none⟩) (n+m) Ye)=some g':=by simp only[ob];rw[if_neg (by omega)]
    rw[Oz]
    simp only[Value.ownBlock,Option.some.injEq]at h6
    rcases h6 with h6|h6
    ·left;rw[h6]
    ·right;intro b hb;cases hb;omega
theorem ao.oI{h h':Hp}(hs:∀id o,h' id=some o→h id=some o){a:AV}{v:Value}(hr:ao Z ψ h w a v):ao Z ψ h' w a v :=
 hr.less (fun _ h=>h) (b4.refl _ _) (fun id bD=>by
  obtain⟨o,ho⟩:=Option.ne_none_iff_exists'.1 bD
  exact⟨by rw[hs id o ho];simp,rfl⟩)
theorem ah.oI{h h':Hp}(hs:∀id o,h' id=some o→h id=some o){a:List AV}{v:List Value}(hr:ah Z ψ h w a v):ah Z ψ h' w a v :=
 hr.less (fun _ h=>h) (b4.refl _ _) (fun id bD=>by
  obtain⟨o,ho⟩:=Option.ne_none_iff_exists'.1 bD
  exact⟨by rw[hs id o ho];simp,rfl⟩)
theorem ox{hh:Heap}(g:Good Z ψ h w B0 O)(aZ:∀id o,hh.get id=some o→h id=some o)(hB:B0≤w.heap.size){id:Nat}(hN:N id){t ty e:TypeId}{k:K}{i:TypeInfo}{z:Value}(ht:P.underlying t=some (.slice e))(he:nr P e k i z)
  {x:AV} {u:Value} {ys:List k.T} (hx:rowOf hh x k=some ys) (hr:ao Z ψ h w x u) (hm:ys.length≤eL)
  (aT:∀i ty cs,h i=some (.box ty cs)→aw (fun i=>i≠id) cs) :
  ∃v' w',(Builtin.append_ #[t,t] ty #[.slice none 0 0,u]).run P w=.ok v' w'∧Next Z ψ h w B0 O N Z (dv ψ id v') (dv h id (some (.own (.row e k) ys))) w'∧v'.cells=#[v']∧v'.oneCell'=true:=by
 obtain⟨news,uk,hv⟩:=Ca (g.sub aZ) hx (hr.oI aZ)
 have Dp:c9 w e k.sz (.slice none 0 0) 0 []:=⟨by simp,.inl ⟨rfl,none,rfl⟩⟩
 obtain⟨v',w',cW,h4,h5,h6⟩:=dh (ty:=ty) ht he Dp uk (by omega)
 have hg:w.grownBy w' none:=h5
 have kk:cF ψ h w w':=cF.grown hg (fun b e=>by cases e)
 have sm:=kk.same g
 refine⟨v',w',cW,pe g hB id e hN (vs:=news) kk (fun b hb=>hg.block b (g.bw hb) (by simp)) (by simpa using h4) (fun i x hx=>(hv i x hx).mono (fun _ h=>h) sm) (fun b hb=>?_) aT,h4.one⟩
 rcases h6 with h6|h6
 ·rw[h6]at hb;simp[ob]at hb
 ·exact h6 b hb
theorem wg{hh:Heap}(g:Good Z ψ h w B0 O)(aZ:∀id o,hh.get id=some o→h id=some o)(hB:B0≤w.heap.size){id c8:Nat}(hN:N id)(aV:c8≠id){t ty e:TypeId}{k:K}{i:TypeInfo}{z:Value}(ht:P.underlying t=some (.slice e))(he:nr P e k i z)
  {xs:List k.T} (ho:h c8=some (.own (.row e k) xs)) {x:AV} {u:Value} {ys:List k.T} (hx:rowOf hh x k=some ys) (hr:ao Z ψ h w x u) (hm:xs.length+ys.length≤eL)
  (aT:∀i ty cs,h i=some (.box ty cs)→aw (fun i=>i≠id) cs) :
  ∃v' w',(Builtin.append_ #[t,t] ty #[ψ c8,u]).run P w=.ok v' w'∧Next Z ψ h w B0 O N Z (dv ψ id v') (dv (dv h c8 none) id (some (.own (.row e k) (xs++ys)))) w'∧v'.cells=#[v']∧v'.oneCell'=true:=by
 obtain⟨news,uk,hv⟩:=Ca (g.sub aZ) hx (hr.oI aZ)
 obtain⟨vs,Xw,Rg⟩:=g.row c8 (.row e k) xs ho
 obtain⟨v',w',cW,h4,h5,h6⟩:=dh (ty:=ty) ht he Xw uk hm
 have hold:h c8≠none:=by rw[ho];simp
 have kk:cF ψ h w w':=cF.grown h5 (fun b e=>⟨c8,hold,e⟩)
 have sm:=kk.same g
 refine⟨v',w',cW,pf g hB id c8 hN ho aV h5 (ok:=.row e k) (y:=xs++ys) ⟨_,by rw[List.length_append];exact h4,(Rg.append hv Xw.1).Dm sm⟩ h6 aT,h4.one⟩
theorem xD{hh:Heap}(g:Good Z ψ h w B0 O)(aZ:∀id o,hh.get id=some o→h id=some o)(hB:B0≤w.heap.size){id:Nat}(hN:N id){t ty e:TypeId}{k:K}{i:TypeInfo}{z:Value}(ht:P.underlying t=some (.slice e))(he:nr P e k i z)
  {xs:List k.T} {v:Value} (hd:ao Z ψ h w (.sl true k xs) v) {x:AV} {u:Value} {ys:List k.T} (hx:rowOf hh x k=some ys) (hr:ao Z ψ h w x u) (F2:0<ys.length∨xs=[]) (hm:xs.length+ys.length≤eL)
  (aT:∀i ty cs,h i=some (.box ty cs)→aw (fun i=>i≠id) cs) :
  ∃v' w',(Builtin.append_ #[t,t] ty #[v,u]).run P w=.ok v' w'∧Next Z ψ h w B0 O N Z (dv ψ id v') (dv h id (some (.own (.row e k) (xs++ys)))) w'∧v'.cells=#[v']∧v'.oneCell'=true:=by
 simp only[ao]at hd
 obtain⟨hd,hex⟩:=hd
 obtain⟨A,c,KN⟩:=hex trivial
 rcases rP hd with⟨rfl,rfl⟩|⟨a,c',TL,h1,_,h2,h3,h4,h5⟩
 ·have:=ox (ty:=ty) (N:=N) g aZ hB hN ht he hx hr (by omega) aT
  simpa using this
 ·rw[h1]at KN;cases KN
  obtain⟨news,⟨h6,h7,hu⟩,hv⟩:=Ca (g.sub aZ) hx (hr.oI aZ)
  by_cases hy0:ys.length=0
  ·have hy:ys=[]:=List.eq_nil_of_length_eq_zero hy0
   have qh:xs=[]:=F2.resolve_left (by omega)
   subst qh
   have Dp:c9 w e k.sz (.slice (some a) 0 0) 0 []:=⟨by simp,.inl ⟨rfl,_,rfl⟩⟩
   refine⟨v,w,?_,pe g hB id e hN (vs:=[]) (cF.refl _ _ _) (fun _ _=>rfl) (by rw[hy,h1];exact Dp) (fun i x hx=>by rw[hy]at hx;simp at hx) (fun b hb=>by rw[h1]at hb;simp[ob]at hb) aT,by rw[h1];exact Dp.one⟩
   rw[h1]
   rw[hy0]at hu
   rcases hu with⟨rfl,_⟩|⟨b,cu,rfl,_⟩<;>exact dR ht he.info _ _ _ (Nat.le_refl _) _ _
  rcases hu with⟨_,h0⟩|⟨b,cu,rfl,h8⟩
  ·omega
  ·have hb:=he.bytes
   unfold eL at hm
   have iV:(xs.length+ys.length)*i.bytes≤140737488355328:=Nat.le_trans (Nat.mul_le_mul hm hb) (by decide)
   obtain⟨v',w',cW,h9,l8⟩:=run_append_arg_grows (P:=P) w t ty e i z k.sz i.bytes ht he.info he.zero he.size rfl he.qX k.gu a xs.length xs.length TL h2 h3 b ys.length cu news h6 h8 (by omega) (by simp only[maxLen];omega) iV
   have kk:cF ψ h w w':=cF.grown l8 (fun b e=>by cases e)
   have sm:=kk.same g
   have Xx:c9 w' e k.sz v' (xs++ys).length (TL++news):=by
    rw[List.length_append]
    exact c9.of h9
   subst h1
   refine⟨v',w',cW,pe g hB id e hN kk (fun b hb=>l8.block b (g.bw hb) (by simp)) Xx ((h5.append hv h2).Dm sm) (fun b hb=>?_) aT,Xx.one⟩
   rcases h9.2 with⟨e1,_⟩|⟨gg,cap,cur,e1,e2,_⟩
   ·rw[e1]at hb;simp[ob]at hb
   ·rw[e1]at hb
    simp only[ob]at hb
    split at hb
    ·cases hb
    ·cases hb;omega
end Go.Vs
namespace Go.Vs
variable {P:Program} {Z Z':Nat→Prop} {ψ ψ':Nat→Value} {h h':Hp} {w w':World} {B0:Nat} {O:Nat→Prop} {N:Nat→Prop}
theorem sW:∀(vs:List Value) (k off:Nat) (cells:Array Value),
  (vs.zipIdx k).foldl (fun cs (p:Value×Nat)=>cs.setIfInBounds (off+p.2) p.1) cells=(du cells.toList (off+k) vs).toArray
 |[],k,off,cells=>by simp[du]
 |v::r,k,off,cells=>by
  simp only[List.zipIdx_cons,List.foldl_cons,du]
  rw[sW r (k+1) off]
  simp[Nat.add_assoc]
theorem vz(V:Array Value)(off:Nat)(cells:Array Value) :
  V.zipIdx.foldl (fun cs (p:Value×Nat)=>cs.setIfInBounds (off+p.2) p.1) cells=(du cells.toList off V.toList).toArray:=by
 rw[←Array.foldl_toList,Array.toList_zipIdx]
 exact sW V.toList 0 off cells
theorem qY{α:Type}:∀(vs cs:List α) (off:Nat),(du cs off vs).length=cs.length
 |[],_,_=>rfl
 |v::r,cs,off=>by simp only[du];rw[qY r];simp
theorem ah.du:∀{vs cs:List AV} {us ds:List Value} (off:Nat),ah Z ψ h w vs us→ah Z ψ h w cs ds→ah Z ψ h w (du cs off vs) (du ds off us)
 |[],cs,us,ds,off,h1,h2=>by simp only[ah]at h1;subst h1;exact h2
 |v::r,cs,us,ds,off,h1,h2=>by
  simp only[ah]at h1
  obtain⟨u,hM,rfl,h3,h4⟩:=h1
  simp only[Vs.du]
  exact ah.du (off+1) h4 (h2.set off h3)
theorem ao.cells{a:AV}{v:Value}(hk:a≠.no)(hr:ao Z ψ h w a v):ah Z ψ h w a.cells v.cells.toList:=by
 cases a with
 |no=>exact absurd rfl hk
 |agg cs=>simp only[ao]at hr;obtain⟨vs,rfl,hr⟩:=hr;simpa[AV.cells,Value.cells] using hr
 |bool b=>simp only[ao]at hr;subst hr;simp[AV.cells,Value.cells,ah,ao]
 |int k n=>simp only[ao]at hr;subst hr;simp[AV.cells,Value.cells,ah,ao]
 |str s=>simp only[ao]at hr;subst hr;simp[AV.cells,Value.cells,ah,ao]
 |kx=>simp only[ao]at hr;subst hr;simp[AV.cells,Value.cells,ah,ao]
 |eY=>simp only[ao]at hr;subst hr;simp[AV.cells,Value.cells,ah,ao]
 |ref id s i off=>obtain⟨a,rfl,h2⟩:=(by simpa only[ao] using hr:∃a,v=.pointer (some a)∧_);simp only[AV.cells,Value.cells,ah];exact⟨_,[],by simp,hr,rfl⟩
 |fp k x off=>obtain⟨a,us,rfl,h2⟩:=(by simpa only[ao] using hr:∃a us,v=.pointer (some a)∧_);simp only[AV.cells,Value.cells,ah];exact⟨_,[],by simp,hr,rfl⟩
 |sl ex k xs =>
  have qf:=hr
  simp only[ao,ax]at qf
  obtain⟨⟨v',hv,A,c,rfl,_⟩,_⟩:=qf
  cases hv
  simp only[AV.cells,Value.cells,ah];exact⟨_,[],by simp,hr,rfl⟩
 |bp id =>
  have qf:=hr
  simp only[ao]at qf
  obtain⟨⟨hc,_⟩,_⟩:=qf
  simp only[AV.cells,ah,hc];exact⟨_,[],by simp,hr,rfl⟩
 |mp kk vk es =>
  have qf:=hr
  simp only[ao,ax]at qf
  obtain⟨A,hv,_⟩:=qf
  cases hv
  simp only[AV.cells,Value.cells,ah];exact⟨_,[],by simp,hr,rfl⟩
 |fn f cap =>
  have qf:=hr
  simp only[ao]at qf
  obtain⟨vs,rfl,_⟩:=qf
  simp only[AV.cells,Value.cells,ah];exact⟨_,[],by simp,hr,rfl⟩
 |ml vs =>
  have qf:=hr
  simp only[ao]at qf
  obtain⟨us,rfl,_⟩:=qf
  simp only[AV.cells,Value.cells,ah];exact⟨_,[],by simp,hr,rfl⟩
def qZ(Z:Nat→Prop)(ψ:Nat→Value)(h:Hp)(w:World):List (Nat×AV)→List (Nat×Value)→Prop
 |[],[]=>True
 |p::r,q::s=>p.1=q.1∧p.2≠.no∧ao Z ψ h w p.2 q.2∧qZ Z ψ h w r s
 |_,_=>False
theorem Dq{place:Nat→Option (Nat×Nat)}:∀{ps:List (Nat×AV)} {qs:List (Nat×Value)} {cs cs':List AV} {cells:Array Value},qZ Z ψ h w ps qs→ah Z ψ h w cs cells.toList→AK place cs ps=some cs' →
  ∃eQ,Instr.fill place cells qs=some eQ∧ah Z ψ h w cs' eQ.toList
 |[],[],cs,cs',cells,_,hr,hf=>by simp only[AK]at hf;cases hf;exact⟨cells,rfl,hr⟩
 |[],_::_,_,_,_,hp,_,_=>hp.elim
 |_::_,[],_,_,_,hp,_,_=>hp.elim
 |(i,a)::ps,(j,v)::qs,cs,cs',cells,hp,hr,hf=>by
  obtain⟨rfl,pj,hv,hp⟩:=hp
  simp only[AK]at hf
  simp only at pj hv
  have KN:=hv.cells pj
  have hl:=KN.length
  have wD:=hr.length
  simp only[Array.length_toList]at hl wD
  simp only[Instr.fill]
  split at hf
  ·cases hf
  ·rename_i off size Yf
   simp only[Yf]
   split at hf
   ·cases hf
   ·rename_i hc
    have Rh:a.cells.length=size:=Decidable.not_not.1 (fun e=>hc (.inl e))
    have ua:¬off+a.cells.length>cs.length:=fun e=>hc (.inr e)
    rw[if_neg (by simp only[Bool.or_eq_true,decide_eq_true_eq];omega)]
    refine Dq hp ?_ hf
    rw[vz,List.toList_toArray]
    exact KN.du off hr
theorem K9(fs:Array Field)(hi:∀f∈fs.toList,∃i,P.info? f.type=some i):(fs.mapM fun f=>do pure (f.offset,←sizeOf f.type):Sem (Array (Nat×Nat))).run P w=.ok (fs.map fun f=>(f.offset,P.cellsOf f.type)) w:=by
 rw[←Array.toArray_toList (xs:=fs)]
 generalize fs.toList=l at hi
 have key:∀(l:List Field) (acc:Array (Nat×Nat)),(∀f∈l,∃i,P.info? f.type=some i) →
   (l.foldlM (fun(bs:Array (Nat×Nat)) f=>do let y ←(do pure (f.offset,←sizeOf f.type):Sem (Nat×Nat));pure (bs.push y)) acc:Sem (Array (Nat×Nat))).run P w=.ok (acc++(l.map fun f=>(f.offset,P.cellsOf f.type)).toArray) w:=by
  intro l
  induction l with
  |nil=>intro acc _;simp
  |cons f r ih =>
   intro acc hl
   obtain⟨i,hi⟩:=hl f (by simp)
   simp only[List.foldlM_cons,Sem.run_bind,c6 hi,Result.andThen_ok,Sem.run_pure]
   rw[ih _ (fun f hf=>hl f (List.mem_cons_of_mem _ hf))]
   simp
 have:=key l #[] hi
 simp only[Array.mapM_eq_foldlM,List.size_toArray,List.foldlM_toArray']
 simpa using this
theorem Cc(v:Value):ao Z ψ h w (uc v) v:=by
 cases v with
 |bool b=>simp only[uc,ao]
 |int k n=>simp only[uc,ao]
 |string s=>simp only[uc,ao]
 |pointer a =>
  simp only[uc];split
  ·rename_i e;subst e;simp only[ao]
  ·simp only[ao]
 |slice a n c =>
  simp only[uc];split
  ·rename_i e;obtain⟨rfl,rfl,rfl⟩:=e;simp only[ao]
  ·simp only[ao]
 |func fn first cap =>
  cases fn with
  |func f =>
   simp only[uc];split
   ·rename_i e
    have h1:first=#[]:=Array.eq_empty_of_size_eq_zero e.1
    have h2:cap=#[]:=Array.eq_empty_of_size_eq_zero e.2
    subst h1;subst h2
    simp only[ao];exact⟨#[],rfl,by simp[ah]⟩
   ·simp only[ao]
  |_=>simp only[uc,ao]
 |_=>simp only[uc,ao]
theorem xF:∀vs:List Value,ah Z ψ h w (vs.map uc) vs
 |[]=>by simp[ah]
 |v::r=>by simp only[List.map_cons,ah];exact⟨v,r,rfl,Cc v,xF r⟩
theorem Dt(v:Value):ao Z ψ h w (rJ v) v:=by
 cases v with
 |agg cs=>simp only[rJ,ao];exact⟨cs,rfl,xF _⟩
 |_=>simp only[rJ];exact Cc _
theorem AS(v:Value):(uc v).cells=[uc v]:=by
 cases v with
 |pointer a=>simp only[uc];split<;>rfl
 |slice a n c=>simp only[uc];split<;>rfl
 |func fn first cap =>
  cases fn with
  |func f=>simp only[uc];split<;>rfl
  |_=>rfl
 |_=>rfl
theorem xG(v:Value):ah Z ψ h w (rJ v).cells v.cells.toList:=by
 cases v with
 |agg cs=>simp only[rJ,AV.cells,Value.cells];exact xF _
 |_ =>
  simp only[rJ]
  rw[AS]
  simp only[ah]
  exact⟨_,[],rfl,Cc _,rfl⟩
theorem ns{t:TypeId}{zs:List AV}(hz:xg P t=some zs):∃i z,P.info? t=some i∧i.zero=some z∧zs=(rJ z).cells∧∀u∈z.cells.toList,u.oneCell'=true:=by
 unfold xg at hz
 obtain⟨i,hi,vA⟩:=Option.bind_eq_some_iff.1 hz
 obtain⟨z,Af,FE⟩:=Option.bind_eq_some_iff.1 vA
 split at FE
 ·rename_i eg
  cases FE
  exact⟨i,z,hi,Af,rfl,fun u hu=>List.all_eq_true.1 eg u hu⟩
 ·cases FE
theorem sX{t:TypeId}{i:TypeInfo}{z:Value}(hi:P.info? t=some i)(hz:i.zero=some z):(zeroValue t).run P w=.ok z w:=by
 simp[zeroValue,typeInfo,hi,hz]
theorem Jc{t:TypeId}{fs:Array Field}{zs cs:List AV}{ps:List (Nat×AV)}{qs:Array (Nat×Value)}(hz:xg P t=some zs)(ht:P.underlying t=some (.struct fs))(eg:fs.toList.all (fun f=>(P.info? f.type).isSome)=true)
  (hp:qZ Z ψ h w ps qs.toList) (hf:AK (fun i=>(fs[i]?).map fun f=>(f.offset,P.cellsOf f.type)) zs ps=some cs) :
  ∃V,(Instr.build t qs).run P w=.ok V w∧ao Z ψ h w (.agg cs) V:=by
 obtain⟨i,z,hi,TM,rfl,_⟩:=ns hz
 obtain⟨eQ,h1,h2⟩:=Dq hp (xG z) hf
 have Yf:=K9 (P:=P) (w:=w) fs (fun f hf=>Option.isSome_iff_exists.1 (List.all_eq_true.1 eg f hf))
 refine⟨.agg eQ,?_,by simp only[ao];exact⟨_,rfl,h2⟩⟩
 have La:Instr.fill (fun x=>(fs.map fun f=>(f.offset,P.cellsOf f.type))[x]?) z.cells qs.toList=some eQ:=by
  rw[←h1];congr 1;funext x;simp
 simp only[Instr.build,Sem.run_bind,sX hi TM,run_underlying ht,Result.andThen_ok,Yf,La]
 rfl
theorem F7:∀(k:K) (cs:List AV) (x:k.T) (r:List AV),dec k cs=some (x,r)→cs.head?≠some .no
 |.int ik,cs,x,r,h,hc=>by
  cases cs with
  |nil=>simp at hc
  |cons a s=>simp at hc;subst hc;simp[dec,BZ]at h
 |.bool,cs,x,r,h,hc=>by
  cases cs with
  |nil=>simp at hc
  |cons a s=>simp at hc;subst hc;simp[dec,wz]at h
 |.str,cs,x,r,h,hc=>by
  cases cs with
  |nil=>simp at hc
  |cons a s=>simp at hc;subst hc;simp[dec,B2]at h
 |.sl k,cs,x,r,h,hc=>by
  cases cs with
  |nil=>simp at hc
  |cons a s=>simp at hc;subst hc;simp[dec,HO]at h
 |.pair a b,cs,x,r,h,hc=>by
  simp only[dec]at h
  split at h
  ·rename_i x1 r1 h1
   exact F7 a cs x1 r1 h1 hc
  ·cases h
 |.one k,cs,x,r,h,hc=>by
  simp only[dec]at h
  exact F7 k cs x r h hc
 |.mp kk vk,cs,x,r,h,hc=>by
  cases cs with
  |nil=>simp at hc
  |cons a s=>simp at hc;subst hc;simp[dec,HP]at h
theorem AT{k:K}{hh:Heap}{a:AV}{x:k.T}(h:de k (a.cells.map (cq hh))=some x):a≠.no:=by
 rintro rfl
 unfold de at h
 split at h
 ·rename_i x' h1
  exact F7 k _ _ _ h1 (by simp[AV.cells,cq])
 ·cases h
theorem Du{k:K}{hh:Heap}(g:Good Z ψ hh.get w B0 O)(hz:∀b,Z b→Z' b):∀{ps:List (Nat×AV)} {qs:List (Nat×Value)} {xs:List k.T} {i:Nat} {cells:Array Value},
  (∀p∈ps,∀id b,AV.bp id∈p.2.cells→hh.get id≠none→ob (ψ id)=some b→Z' b)→qZ Z ψ hh.get w ps qs→oX k hh i ps=some xs→(i+ps.length)*k.sz≤cells.size →
  ∃eQ flat,Instr.fill (fun i=>some (i*k.sz,k.sz)) cells qs=some eQ∧eQ.toList=cells.toList.take (i*k.sz)++flat++cells.toList.drop ((i+ps.length)*k.sz)∧flat.length=ps.length*k.sz∧l6 Z' w k xs flat∧(∀q∈flat,q.oneCell'=true)∧xs.length=ps.length
 |[],[],xs,i,cells,_,_,hl,_=>by
  simp only[oX]at hl;cases hl
  exact⟨cells,[],rfl,by simp,by simp,fun i x hx=>by simp at hx,by simp,rfl⟩
 |[],_::_,_,_,_,_,hp,_,_=>hp.elim
 |_::_,[],_,_,_,_,hp,_,_=>hp.elim
 |(j,a)::ps,(j',v)::qs,xs,i,cells,hb,hp,hl,hs=>by
  obtain⟨hjj,pj,hv,hp⟩:=hp
  simp only at hjj pj hv
  subst hjj
  simp only[oX]at hl
  split at hl
  ·rename_i e
   subst e
   split at hl
   ·rename_i y ys h1 h2
    cases hl
    simp only[List.length_cons]at hs
    have KN:=hv.cells pj
    have hvw:=mB g hz (hb (j,a) (by simp)) KN
    have hk:=dg h1 hvw
    have Ri:=hk.len
    rw[Array.length_toList]at Ri
    have gO:j*k.sz+k.sz≤cells.size:=by
     have:(j+1)*k.sz≤(j+(ps.length+1))*k.sz:=Nat.mul_le_mul_right _ (by omega)
     rw[Nat.succ_mul]at this;omega
    simp only[Instr.fill]
    rw[if_neg (by simp only[Bool.or_eq_true,decide_eq_true_eq];omega),vz]
    obtain⟨eQ,flat,h3,h4,h5,h6,h7,h8⟩:=Du g hz (ps:=ps) (qs:=qs) (xs:=ys) (i:=j+1) (cells:=(du cells.toList (j*k.sz) v.cells.toList).toArray) (fun p hp=>hb p (List.mem_cons_of_mem _ hp)) hp h2 (by
     rw[List.size_toArray,qY]
     have e9:cells.toList.length=cells.size:=Array.length_toList
     rw[e9,show j+1+ps.length=j+(ps.length+1) by omega];exact hs)
    refine⟨eQ,v.cells.toList++flat,h3,?_,?_,?_,?_,by simp[h8]⟩
    ·rw[h4,List.toList_toArray,qg _ _ _ (by rw[Array.length_toList,Array.length_toList];omega)]
     have e1:(j+1)*k.sz=j*k.sz+k.sz:=Nat.succ_mul _ _
     have e2:(j+1+ps.length)*k.sz=(j+(ps.length+1))*k.sz:=by congr 1;omega
     rw[List.length_cons,e1,e2]
     have l1:(cells.toList.take (j*k.sz)++v.cells.toList).length=j*k.sz+k.sz:=by
      rw[List.length_append,List.length_take,Array.length_toList,Array.length_toList];omega
     rw[←l1,List.take_left]
     have l2:(j+(ps.length+1))*k.sz=(cells.toList.take (j*k.sz)++v.cells.toList).length+(ps.length*k.sz):=by
      rw[l1,Nat.add_mul,Nat.add_mul];omega
     have hd:(cells.toList.take (j*k.sz)++v.cells.toList++cells.toList.drop (j*k.sz+v.cells.toList.length)).drop ((j+(ps.length+1))*k.sz)=cells.toList.drop ((j+(ps.length+1))*k.sz):=by
      rw[l2,List.drop_append,List.drop_eq_nil_of_le (by omega),List.nil_append,Nat.add_sub_cancel_left,List.drop_drop]
      congr 1
      rw[l1,Array.length_toList];omega
     rw[hd]
     simp[List.append_assoc]
    ·rw[List.length_append,h5,Array.length_toList,Ri,List.length_cons,Nat.succ_mul];omega
    ·intro n x hx
     cases n with
     |zero =>
      simp only[List.getElem?_cons_zero,Option.some.injEq]at hx;subst hx
      have Rj:v.cells.toList.length=k.sz:=by rw[Array.length_toList];exact Ri
      rw[Nat.zero_mul,List.drop_zero,←Rj,List.take_left]
      exact hk
     |succ n =>
      have:=h6 n x (by simpa using hx)
      have Rj:v.cells.toList.length=k.sz:=by rw[Array.length_toList];exact Ri
      have e:(n+1)*k.sz=v.cells.toList.length+n*k.sz:=by rw[Rj,Nat.succ_mul];omega
      rw[e,List.drop_append,List.drop_eq_nil_of_le (by omega),List.nil_append,Nat.add_sub_cancel_left]
      exact this
    ·intro q hq
     rcases List.mem_append.1 hq with hq|hq
     ·exact hk.one q hq
     ·exact h7 q hq
   ·cases hl
  ·cases hl
theorem Next.drop{Z1:Nat→Prop}{h1:Hp}(n:Next Z1 ψ h1 w B0 O N Z' ψ' h' w')(hz:∀b,Z b→Z1 b)(vA:∀b,Z1 b→Z b∨Own ψ h b)(aZ:∀id o,h1 id=some o→h id=some o):Next Z ψ h w B0 O N Z' ψ' h' w':=by
 have hn:∀id,h1 id≠none→h id≠none:=fun id hn=>by
  obtain⟨o,ho⟩:=Option.ne_none_iff_exists'.1 hn
  rw[aZ id o ho];simp
 have ho:∀b,Own ψ h1 b→Own ψ h b:=fun b ⟨id,h2,h3⟩=>⟨id,hn id h2,h3⟩
 refine⟨fun b hb=>n.eP b (hz b hb),fun b hb=>?_,⟨n.keep.os,n.keep.tape,n.keep.output,n.keep.size,fun b hb pj=>n.keep.block b hb (fun h=>pj (ho b h))⟩,fun id bD=>(n.ids id bD).imp (fun⟨h2,h3⟩=>⟨hn id h2,h3⟩) (fun h=>h),n.dA⟩
 rcases n.dF b hb with h2|h2|h2
 ·exact(vA b h2).imp (fun h=>h) (fun h=>.inl h)
 ·exact .inr (.inl (ho b h2))
 ·exact .inr (.inr h2)
theorem qZ.oI{h h':Hp}(hs:∀id o,h' id=some o→h id=some o):∀{ps:List (Nat×AV)} {qs:List (Nat×Value)},qZ Z ψ h w ps qs→qZ Z ψ h' w ps qs:=by
 intro ps
 induction ps with
 |nil=>intro qs hp;cases qs with
  |nil=>trivial
  |cons q r=>exact hp.elim
 |cons p r ih=>intro qs hp;cases qs with
  |nil=>exact hp.elim
  |cons q s=>exact⟨hp.1,hp.2.1,hp.2.2.1.oI hs,ih hp.2.2.2⟩
theorem Dv{hh:Heap}{Z1:Nat→Prop}(g:Good Z1 ψ h w B0 O)(g0:Good Z ψ hh.get w B0 O)(hz:∀b,Z b→Z1 b)(hB:B0≤w.heap.size){id:Nat}(hN:N id){t e:TypeId}{k:K}{i:TypeInfo}{z:Value}(ht:P.underlying t=some (.slice e))(he:nr P e k i z)
  {ps:List (Nat×AV)} {qs:Array (Nat×Value)} {xs:List k.T} (KO:∀p∈ps,∀id b,AV.bp id∈p.2.cells→hh.get id≠none→ob (ψ id)=some b→Z1 b) (hp:qZ Z ψ hh.get w ps qs.toList) (hl:oX k hh 0 ps=some xs) (hn:ps.length*k.sz≤1048576)
  (aT:∀i ty cs,h i=some (.box ty cs)→aw (fun i=>i≠id) cs) :
  ∃v' w',(Instr.buildSlice t ps.length qs).run P w=.ok v' w'∧Next Z1 ψ h w B0 O N Z1 (dv ψ id v') (dv h id (some (.own (.row e k) xs))) w'∧(v'.cells=#[v']∧v'.oneCell'=true)∧(∀b,Own ψ h b→w'.heap[b]? = w.heap[b]?)∧(∀b,ob v'=some b→w.heap.size≤b)∧∃A c,v'=.slice A c c:=by
 let Dx:Array Value:=(Array.range (ps.length*k.sz)).map (z.cells[· % z.cells.size]!)
 have um:Dx.size=ps.length*k.sz:=by simp[Dx]
 obtain⟨eQ,flat,h1,h2,h3,h4,h5,h6⟩:=Du (Z':=Z1) g0 hz (ps:=ps) (qs:=qs.toList) (xs:=xs) (i:=0) (cells:=Dx) KO hp hl (by rw[Nat.zero_add,um];exact Nat.le_refl _)
 have Qg:eQ.toList=flat:=by
  rw[h2,Nat.zero_mul,List.take_zero,List.nil_append,Nat.zero_add,List.drop_eq_nil_of_le (by rw[Array.length_toList,um];exact Nat.le_refl _),List.append_nil]
 have Jd:eQ.size=ps.length*k.sz:=by rw[←Array.length_toList,Qg];exact h3
 have F2:=k.gu
 have hlen:ps.length≤1048576:=Nat.le_trans (Nat.le_mul_of_pos_right _ F2) hn
 have rQ:(w.alloc (.cells eQ e)).ownsRow 0 e k.sz (.slice (some ⟨w.heap.size,0,none⟩) ps.length ps.length) xs.length flat:=by
  have:=World.ownsRow_lit (base:=0) (e:=e) (size:=k.sz) w eQ ps.length (Nat.zero_le _) (by simp only[maxLen];omega) Jd
  rw[h6,←Qg];exact this
 refine⟨.slice (some ⟨w.heap.size,0,none⟩) ps.length ps.length,w.alloc (.cells eQ e),?_,pe g hB id e hN (vs:=flat) (cF.alloc _ _ _ _) (fun b hb=>heap_alloc_old w _ (g.bw hb)) (c9.of rQ) (h4.Dm ((cF.alloc ψ h w _).same g)) (fun b hb=>by simp only[ob]at hb;split at hb<;>cases hb;exact Nat.le_refl _) aT,(c9.of rQ).one,fun b hb=>heap_alloc_old w _ (g.bw hb),fun b hb=>by simp only[ob]at hb;split at hb<;>cases hb;exact Nat.le_refl _,_,_,rfl⟩
 ·show _=Result.ok (Value.slice (some ⟨w.heap.size,0,none⟩) ps.length ps.length) _
  have xH:¬ps.length*k.sz>2 ^ 24:=by omega
  have hc:P.cellsOf e=k.sz:=by simp[Program.cellsOf,he.info,he.size]
  simp only[Instr.buildSlice,Sem.run_bind,run_underlying ht,Result.andThen_ok,c6 he.info,hc]
  rw[if_neg xH]
  have Am:(newRow e eQ).run P w=.ok ⟨w.heap.size,0,none⟩ (w.alloc (.cells eQ e)):=rfl
  by_cases h0:ps.length*k.sz=0
  ·have OC:Dx=#[]:=Array.eq_empty_of_size_eq_zero (by rw[um,h0])
   have vA:(Array.range (ps.length*k.sz)).map (fun x=>(#[]:Array Value)[x%(#[]:Array Value).size]!)=#[]:=Array.eq_empty_of_size_eq_zero (by simp[h0])
   rw[if_pos h0]
   rw[OC]at h1
   simp only[Sem.run_pure,Result.andThen_ok,vA,h1,Sem.run_bind,Am]
  ·rw[if_neg h0]
   simp only[Sem.run_bind,sX he.info he.zero,Result.andThen_ok,Sem.run_pure]
   rw[show(Array.range (ps.length*k.sz)).map (fun x=>z.cells[x%z.cells.size]!)=Dx from rfl,h1]
   simp only[Sem.run_bind,Am,Result.andThen_ok,Sem.run_pure]
theorem Lb(g:Good Z ψ h w B0 O)(hB:B0≤w.heap.size){id:Nat}{e:TypeId}{k:K}{xs:List k.T}{v':Value}(n:Next Z ψ h w B0 O N Z (dv ψ id v') (dv h id (some (.own (.row e k) xs))) w')
  (qV:∀b,Own ψ h b→w'.heap[b]? = w.heap[b]?) (Am:∀b,ob v'=some b→w.heap.size≤b) (hex:∃A c,v'=.slice A c c) :
  Next Z ψ h w B0 O N (fun b=>Z b∨ob v'=some b) ψ h w'∧ao (fun b=>Z b∨ob v'=some b) ψ h w' (.sl true k xs) v':=by
 have lx:iL Z w' (.row e k) v' xs:=by
  have:=n.dA.row id (.row e k) xs (aS _ _ _)
  rwa [aS]at this
 obtain⟨vs,ho,hv⟩:=lx
 have m:Next Z ψ h w B0 O (fun _=>False) Z ψ h w':=g.more n.keep qV (fun _ _=>⟨rfl,rfl⟩) (fun i ty cs hb=>by
  have e:(fun _:Nat=>¬False)=fun _=>True:=by funext i;simp
  rw[e];exact aw.top cs) (fun _ _ _ h=>h.elim) (fun _ _ _ h=>h.elim) (fun _ _ h=>h.elim) (fun _ _ _ h=>h.elim) hB
 have hz:∀b,Z b→Z b∨ob v'=some b:=fun b h=>.inl h
 refine⟨⟨hz,fun b hb=>hb.imp (fun h=>h) fun h=>.inr (Am b h),m.keep,fun i hi=>.inl ((m.ids i hi).resolve_right (fun h=>h)),⟨fun i ty cs hb=>?_,fun i ok x hb=>?_,fun i b h1 h2=>?_,m.dA.apart,fun b hb=>?_⟩⟩,?_⟩
 ·obtain⟨gg,vs,f1,f2,f3,f4⟩:=m.dA.box i ty cs hb
  exact⟨gg,vs,f1,f2,ah.less hz (b4.refl _ _) (fun _ h=>⟨h,rfl⟩) f3,f4⟩
 ·exact(m.dA.row i ok x hb).kept hz (b4.refl _ _) (fun _ _=>rfl)
 ·obtain⟨k1,k2⟩:=m.dA.live i b h1 h2
  refine⟨fun hb=>hb.elim k1 fun hb=>?_,k2⟩
  have:=g.bw ⟨i,h1,h2⟩
  have:=Am b hb
  omega
 ·rcases hb with hb|hb
  ·exact m.dA.iR b hb
  ·exact iL.lt (ok:=.row e k) ⟨vs,ho,hv⟩ hb
 ·simp only[ao]
  exact⟨sR ho hv (fun b h=>.inl h) (fun b h=>.inr h),fun _=>hex⟩
end Go.Vs
