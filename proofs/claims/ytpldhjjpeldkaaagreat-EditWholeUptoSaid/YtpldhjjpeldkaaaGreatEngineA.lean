/- The value semantics of the loaded code: its definitions, what abstract values say of memory, and what single steps leave. -/
import Derived.Control
import Derived.Calls
import Derived.Orders
import GoSem.Machine.Frame
import Derived.Laws.AppendOwn
import GoSem.Core.Utf8
import Derived.Below
import Derived.Laws.OwnMore
import Derived.Laws.Rows
import Derived.Deep.Draws
import Derived.Laws.CopyRow
import Derived.Laws.Cells
import Derived.Laws.Sem
import Derived.Maps.AppendAt
import Derived.ArgAppend
import Derived.WalkKit
namespace Go.Vs
inductive K where
 | int (k:IntKind) | bool | str | sl (k:K) | pair (a b:K) | one (k:K) | mp (kk vk:K)
 deriving DecidableEq
def K.T:K→Type
 | .int _=>Int
 | .bool=>Bool
 | .str=>ByteArray
 | .sl k=>List k.T
 | .pair a b=>a.T×b.T
 | .one k=>k.T
 | .mp kk vk=>List (kk.T×vk.T)
def K.sz:K→Nat
 | .pair a b=>a.sz+b.sz
 | .one k=>k.sz
 | _=>1
def o9(P:Program):Nat→TypeId→Option K
 | 0,_=>none
 | d+1,t =>
  match P.underlying t with
  | some (.int k)=>some (.int k)
  | some .bool=>some .bool
  | some .string=>some .str
  | some (.slice e)=>(o9 P d e).map .sl
  | some (.map a b)=>match o9 P d a,o9 P d b with
   | some x,some y=>some (.mp x y)
   | _,_=>none
  | some (.struct fs) =>
   match (fs.toList.map fun f=>o9 P d f.type).reverse with
   | []=>none
   | [k]=>k.map .one
   | last::rest=>rest.foldl (fun acc k=>match k,acc with | some k,some a=>some (.pair k a) | _,_=>none) last
  | _=>none
def K.flat:K→Bool
 | .sl _=>false
 | .mp _ _=>false
 | .pair a b=>a.flat&&b.flat
 | .one k=>k.flat
 | _=>true
def K.isAgg:K→Bool
 | .pair _ _=>true
 | .one _=>true
 | _=>false
inductive AV where
 | no
 | bool (b:Bool)
 | int (k:IntKind) (n:Int)
 | str (s:ByteArray)
 | kU
 | fB
 | ref (id s i off:Nat)
 | fp (k:K) (x:k.T) (off:Nat)
 | sl (ex:Bool) (k:K) (xs:List k.T)
 | mp (kk vk:K) (es:List (kk.T×vk.T))
 | bF (id:Nat)
 | fn (f:FuncId) (cap:List AV)
 | agg (cs:List AV)
 | mJ (vs:List AV)
def AV.isAgg:AV→Bool
 | .agg _=>true
 | _=>false
def AV.cells:AV→List AV
 | .agg cs=>cs
 | v=>[v]
def enc:(k:K)→k.T→List AV
 | .int ik,n=>[.int ik n]
 | .bool,b=>[.bool b]
 | .str,s=>[.str s]
 | .sl k,xs=>[.sl false k xs]
 | .mp kk vk,es=>[.mp kk vk es]
 | .pair a b,x=>enc a x.1++enc b x.2
 | .one k,x=>enc k x
def Dk(ik:IntKind):List AV→Option (Int×List AV)
 | .int VJ n::r=>if VJ=ik then some (n,r) else none
 | _=>none
def xq:List AV→Option (Bool×List AV)
 | .bool b::r=>some (b,r)
 | _=>none
def Dl:List AV→Option (ByteArray×List AV)
 | .str s::r=>some (s,r)
 | _=>none
def Jy(k:K):List AV→Option (List k.T×List AV)
 | .sl _ k' xs::r=>if h:k'=k then some (h▸xs,r) else none
 | .fB::r=>some ([],r)
 | _=>none
def Jz(kk vk:K):List AV→Option (List (kk.T×vk.T)×List AV)
 | .mp JA QH es::r=>if h:JA=kk∧QH=vk then some (h.1▸h.2▸es,r) else none
 | _=>none
def dec:(k:K)→List AV→Option (k.T×List AV)
 | .int ik,cs=>Dk ik cs
 | .bool,cs=>xq cs
 | .str,cs=>Dl cs
 | .sl k,cs=>Jy k cs
 | .mp kk vk,cs=>Jz kk vk cs
 | .pair a b,cs =>
  match dec a cs with
  | some (x,r)=>match dec b r with
   | some (y,r')=>some ((x,y),r')
   | none=>none
  | none=>none
 | .one k,cs=>dec k cs
def dI(k:K)(cs:List AV):Option k.T :=
 match dec k cs with
 | some (x,[])=>some x
 | _=>none
def b8:(k:K)→k.T→AV
 | .pair a b,x=>.agg (enc (.pair a b) x)
 | .one k,x=>.agg (enc (.one k) x)
 | .int ik,n=>.int ik n
 | .bool,b=>.bool b
 | .str,s=>.str s
 | .sl k,xs=>.sl false k xs
 | .mp kk vk,es=>.mp kk vk es
inductive OK where
 | row (ty:TypeId) (k:K) | map (kk vk:K) | iter (kk vk:K) | mM
 deriving DecidableEq
abbrev OK.T:OK→Type
 | .row _ k=>List k.T
 | .map kk vk=>List (kk.T×vk.T)
 | .iter kk vk=>Option (kk.T×vk.T)×List (kk.T×vk.T)
 | .mM=>ByteArray×Nat
inductive Ob where
 | box (ty:TypeId) (cs:List AV)
 | own (ok:OK) (x:ok.T)
abbrev Heap:=List (Nat×Ob)
def Heap.get:Heap→Nat→Option Ob
 | [],_=>none
 | (i,o)::r,n=>if i=n then some o else Heap.get r n
def Heap.del:Heap→Nat→Heap
 | [],_=>[]
 | (i,o)::r,n=>if i=n then Heap.del r n else (i,o)::Heap.del r n
def Heap.set(h:Heap)(n:Nat)(o:Ob):Heap:=(n,o)::h.del n
def cC(h:Heap):AV→AV
 | .bF id=>match h.get id with
  | some (.own (.row _ k) xs)=>.sl false k xs
  | some (.own (.map kk vk) es)=>.mp kk vk es
  | _=>.no
 | v=>v
def drop1(h:Heap):AV→Heap
 | .bF id=>h.del id
 | _=>h
def cy(h:Heap):List AV→Heap
 | []=>h
 | c::r=>cy (drop1 h c) r
structure St where
 tmps:List (Nat×AV)
 heap:Heap
def look:List (Nat×AV)→Nat→AV
 | [],_=>.no
 | (i,v)::r,n=>if i=n then v else look r n
def St.put(s:St)(d:Option Tmp)(v:AV):St :=
 match d with
 | some d=>{ s with tmps:=(d,v)::s.tmps }
 | none=>s
def uP:Value→AV
 | .bool b=>.bool b
 | .int k n=>.int k n
 | .string s=>.str s
 | .pointer a=>if a=none then .kU else .no
 | .slice a n c=>if a=none∧n=0∧c=0 then .fB else .no
 | .func fn first cap=>match fn with
  | .func f=>if first.size=0∧cap.size=0 then .fn f [] else .no
  | _=>.no
 | _=>.no
def sj(v:Value):AV :=
 match v with
 | .agg cs=>.agg (cs.toList.map uP)
 | v=>uP v
def ρ(s:List (Nat×AV)):Operand→AV
 | .tmp t=>look s t
 | .const v=>sj v
 | .global _=>.no
 | .func f=>.fn f []
inductive bE where
 | val (v:AV)
 | new (v:AV) (os:Heap)
 | wr (v:AV) (h:Heap)
def bE.v:bE→AV
 | .val v=>v
 | .new v _=>v
 | .wr v _=>v
def bE.h(h:Heap):bE→Heap
 | .val _=>h
 | .new _ os=>os++h
 | .wr _ h'=>h'
inductive CK where
 | val (k:K)
 | own (ok:OK)
inductive PK where
 | val (k:K)
 | ref
 | own
 | EO (f:FuncId) (n:Nat)
 | agg (n:Nat)
inductive RK where
 | val (k:K)
 | own (ok:OK)
 | dZ (b:Nat) (alts:List (Nat×Nat×Nat))
 | agg (c:List CK)
inductive BK where
 | box (ty:TypeId) (c8:List CK)
 | own (ok:OK)
def BK.c8:BK→List CK
 | .box _ c=>c
 | .own _=>[]
def CK.T:CK→Type
 | .val k=>k.T
 | .own ok=>ok.T
def pe:List CK→Type
 | []=>Unit
 | c::r=>c.T×pe r
abbrev BK.T:BK→Type
 | .box _ c=>pe c
 | .own ok=>ok.T
def uQ:List BK→Type
 | []=>Unit
 | b::r=>b.T×uQ r
def EP:List K→Type
 | []=>Unit
 | k::r=>k.T×EP r
def RK.T:RK→Type
 | .val k=>k.T
 | .own ok=>ok.T
 | .dZ _ alts=>Option (Fin alts.length×Nat)
 | .agg c=>pe c
def kV:List RK→Type
 | []=>Unit
 | r::l=>r.T×kV l
def kf:List PK→List K
 | []=>[]
 | .val k::r=>k::kf r
 | _::r=>kf r
structure aJ where
 ps:List PK
 bs:List BK
 rs:List RK
 x:Option (Heap→Nat→List AV→Option (Bool×bE)):=none
abbrev aJ.A(g:aJ):Type:=EP (kf g.ps)×uQ g.bs
abbrev aJ.B(g:aJ):Type:=kV g.rs×uQ g.bs
def RK.plain:RK→Bool
 | .val _=>true
 | .own ..=>true
 | .dZ ..=>false
 | .agg c=>decide (c.length≤16)
def RK.flat:RK→Bool
 | .val k=>k.flat
 | .own ..=>false
 | .dZ ..=>true
 | .agg _=>false
end Go.Vs
namespace Go.Vs
section
variable (P:Program)
def HN:TypeDesc→Bool
 | .struct _=>true
 | .array _ _=>true
 | _=>false
def B5(t:TypeId):Option Bool:=(P.underlying t).map HN
def gj(t:TypeId)(f:Nat):Option (Nat×TypeId) :=
 match P.underlying t with
 | some (.struct fs)=>(fs[f]?).map fun x=>(x.offset,x.type)
 | _=>none
def wc(t:TypeId):Option TypeId :=
 match P.underlying t with
 | some (.slice e)=>some e
 | _=>none
def yl(t:TypeId):Option (List AV):=(P.info? t).bind fun i=>i.zero.bind fun z=>if z.cells.toList.all (·.oneCell') then some (sj z).cells else none
def dN(t:TypeId)(cs:List AV):Option AV :=
 match B5 P t with
 | some true=>if P.cellsOf t≤cs.length then some (.agg (cs.take (P.cellsOf t))) else none
 | some false=>match cs with
  | c::_=>some c
  | []=>none
 | none=>none
def dJ{α:Type}(cs:List α):Nat→List α→List α
 | _,[]=>cs
 | off,v::r=>dJ (cs.set off v) (off+1) r
def B6(place:Nat→Option (Nat×Nat))(cs:List AV):List (Nat×AV)→Option (List AV)
 | []=>some cs
 | (i,v)::r =>
  match place i with
  | none=>none
  | some (off,size)=>if v.cells.length≠size∨off+v.cells.length > cs.length then none else B6 place (dJ cs off v.cells) r
def eC(op:BinOp)(k:IntKind)(a b:Int):Int :=
 k.wrap ((match op with
  | .and=>BitVec.ofInt k.bits a &&& BitVec.ofInt k.bits b
  | .or=>BitVec.ofInt k.bits a ||| BitVec.ofInt k.bits b
  | .xor=>BitVec.ofInt k.bits a ^^^ BitVec.ofInt k.bits b
  | _=>BitVec.ofInt k.bits a &&& ~~~(BitVec.ofInt k.bits b)).toNat:Int)
def Wh(k:IntKind)(a b:Int):Int:=k.wrap (a * 2 ^ (min b.toNat k.bits))
def kz(k:IntKind)(a b:Int):Int:=a.fdiv (2 ^ (min b.toNat k.bits))
def TE(op:BinOp)(k:IntKind)(a b:Int):Option AV :=
 match op with
 | .add=>some (.int k (k.wrap (a+b)))
 | .sub=>some (.int k (k.wrap (a - b)))
 | .mul=>some (.int k (k.wrap (a * b)))
 | .eql=>some (.bool (a==b))
 | .neq=>some (.bool (a != b))
 | .lss=>some (.bool (decide (a<b)))
 | .leq=>some (.bool (decide (a≤b)))
 | .gtr=>some (.bool (decide (a > b)))
 | .geq=>some (.bool (decide (a≥b)))
 | .and=>some (.int k (eC .and k a b))
 | .or=>some (.int k (eC .or k a b))
 | .xor=>some (.int k (eC .xor k a b))
 | .andNot=>some (.int k (eC .andNot k a b))
 | _=>none
def Wi(op:BinOp)(a b:ByteArray):Option AV :=
 match op with
 | .eql=>some (.bool (a==b))
 | .neq=>some (.bool (!(a==b)))
 | _=>none
def qv:(k:K)→k.T→k.T→Bool
 | .int _,x,y=>(show Int from x)==y
 | .bool,x,y=>(show Bool from x)==y
 | .str,x,y=>(show ByteArray from x)==y
 | .sl _,_,_=>false
 | .mp _ _,_,_=>false
 | .pair a b,x,y=>qv a x.1 y.1&&qv b x.2 y.2
 | .one k,x,y=>qv k x y
def so(kk:K){α:Type}(x:kk.T)(es:List (kk.T×α)):Option Nat:=es.findIdx? fun e=>qv kk x e.1
def iD(kk:K){α:Type}(x:kk.T)(es:List (kk.T×α)):Option α:=(so kk x es).bind fun i=>(es[i]?).map (·.2)
def lM(kk:K){α:Type}(x:kk.T)(v:α)(es:List (kk.T×α)):List (kk.T×α):=match so kk x es with
 | some i=>es.set i (x,v)
 | none=>es++[(x,v)]
def MC(kk:K){α:Type}(x:kk.T)(es:List (kk.T×α)):List (kk.T×α):=match so kk x es with
 | some i=>es.eraseIdx i
 | none=>es
def oJ:(k:K)→k.T
 | .int _=>(0:Int)
 | .bool=>false
 | .str=>ByteArray.empty
 | .sl k=>([]:List k.T)
 | .pair a b=>(oJ a,oJ b)
 | .one k=>oJ k
 | .mp kk vk=>([]:List (kk.T×vk.T))
def MD:K→Value→Bool
 | .int ik,.int VJ n=>decide (VJ=ik∧n=0)
 | .bool,.bool b => !b
 | .str,.string s=>decide (s=ByteArray.empty)
 | .sl _,.slice a n c=>decide (a=none∧n=0∧c=0)
 | _,_=>false
def JB(t:TypeId)(k:K):Bool:=match P.info? t with
 | some i=>match i.zero with
  | some z=>MD k z
  | none=>false
 | none=>false
def JC(Eqs:TypeId→Option K)(t:TypeId)(k:K):Bool:=k.flat&&(match k,P.underlying t with
 | .int ik,some (.int VJ)=>decide (VJ=ik)
 | .bool,some .bool=>true
 | .str,some .string=>true
 | k,_=>k.isAgg&&decide (Eqs t=some k))
def mapOf(Eqs:TypeId→Option K)(t:TypeId):Option (K×K):=match P.underlying t with
 | some (.map a b)=>match o9 P 8 a,o9 P 8 b with
  | some kk,some vk=>if JC P Eqs a kk&&JB P b vk then some (kk,vk) else none
  | _,_=>none
 | _=>none
def aZ{α:Type}(xs:List α)(i:Int):Option α:=if 0≤i then xs[i.toNat]? else none
def fh:Nat:=1073741824
def aM(n m:Nat):Bool:=decide (n+m≤fh)
def kW(n:Nat)(lo hi:Option AV):Option (Int×Int) :=
 match lo,hi with
 | none,none=>some (0,(n:Int))
 | some (.int .i64 l),none=>some (l,(n:Int))
 | none,some (.int .i64 h)=>some (0,h)
 | some (.int .i64 l),some (.int .i64 h)=>some (l,h)
 | _,_=>none
def aW(n:Nat)(l h:Int):Bool:=decide (0≤l)&&(decide (l≤h)&&decide (h≤(n:Int)))
def cut{α:Type}(xs:List α)(l h:Int):List α:=(xs.take h.toNat).drop l.toNat
def TF(s:ByteArray)(l h:Int):ByteArray:=s.extract l.toNat h.toNat
variable {R:Type}
def fm(k:K)(h:Heap)(v:AV):Option k.T:=if k.isAgg=v.isAgg then dI k (v.cells.map (cC h)) else none
def rowOf(h:Heap)(v:AV)(k:K):Option (List k.T) :=
 match cC h v with
 | .sl _ k' xs=>if e:k'=k then some (e▸xs) else none
 | .fB=>some []
 | _=>none
def Dm(e:TypeId)(k:K):Bool :=
 match P.info? e with
 | some i=>(match i.zero with
  | some z=>decide (i.size=k.sz)&&(decide (z.cells.size=k.sz)&&decide (i.bytes≤65536))
  | none=>false)
 | none=>false
def mN(h:Heap)(id:Nat)(t:TypeId)(s x:AV)(K:bE→Option R):Option R :=
 match wc P t with
 | none=>none
 | some e =>
  match o9 P 8 e with
  | none=>none
  | some kk =>
   match rowOf h x kk,Dm P e kk with
   | some ys,true =>
    match s with
    | .fB=>cond (aM 0 ys.length) (K (.new (.bF id) [(id,.own (.row e kk) ys)])) none
    | .bF cF =>
     match h.get cF with
     | some (.own (.row e' k') xs) =>
      if c:e'=e∧k'=kk then cond (aM xs.length ys.length) (K (.wr (.bF id) ((h.del cF).set id (.own (.row e kk) (c.2▸xs++ys))))) none else none
     | _=>none
    | .sl ex k' xs =>
     if c:k'=kk then cond (ex&&((!ys.isEmpty || xs.isEmpty)&&aM xs.length ys.length)) (K (.new (.bF id) [(id,.own (.row e kk) (c▸xs++ys))])) none else none
    | _=>none
   | _,_=>none
def uR:AV→Bool
 | .no=>false
 | .agg _=>false
 | .mJ _=>false
 | _=>true
def HO(id:Nat):List AV→Bool
 | []=>true
 | .bF i::r => !(i==id)&&HO id r
 | _::r=>HO id r
def stored(h:Heap)(vs:List AV):List AV×Heap:=(vs.map (cC h),cy h vs)
def qw(h:Heap)(t:TypeId)(a v:AV)(K:bE→Option R):Option R :=
 if v.cells.length=P.cellsOf t∧(P.info? t).isSome∧v.cells.all uR then
  match a with
  | .ref id s i off =>
   match h.get id with
   | some (.box ty cs)=>if i=0∧off+v.cells.length≤cs.length then K (.wr .no (h.set id (.box ty (dJ cs off v.cells)))) else none
   | some (.own (.row ty kk) xs) =>
    (xs[i]?).bind fun x =>
     if s=kk.sz∧off+v.cells.length≤kk.sz∧HO id v.cells then
      match dI kk (dJ (enc kk x) off (stored h v.cells).1) with
      | some y=>K (.wr .no ((stored h v.cells).2.set id (.own (.row ty kk) (xs.set i y))))
      | none=>none
     else none
   | _=>none
  | _=>none
 else none
def kX(h:Heap)(t:TypeId)(a:AV)(K:bE→Option R):Option R :=
 match a with
 | .ref id s i off =>
  match h.get id with
  | some (.box _ cs)=>if i=0 then (match dN P t (cs.drop off) with | some v=>K (.val v) | none=>none) else none
  | some (.own (.row _ kk) xs)=>if s=kk.sz then (xs[i]?).bind fun x=>match dN P t ((enc kk x).drop off) with | some v=>K (.val v) | none=>none else none
  | _=>none
 | .fp kk x off=>match dN P t ((enc kk x).drop off) with | some v=>K (.val v) | none=>none
 | _=>none
def dh(h:Heap)(t:TypeId)(x i:AV)(K:bE→Option R):Option R :=
 match wc P t with
 | none=>none
 | some e =>
  match x,i with
  | .sl _ kk xs,.int _ n=>if P.cellsOf e=kk.sz then (aZ xs n).bind fun y=>K (.val (.fp kk y 0)) else none
  | .bF id,.int _ n =>
   match h.get id with
   | some (.own (.row _ kk) xs)=>if P.cellsOf e=kk.sz then cond (decide (0≤n)&&decide (n<(xs.length:Int))) (K (.val (.ref id kk.sz n.toNat 0))) none else none
   | _=>none
  | _,_=>none
def ym(x:AV)(lo hi mx:Option AV)(K:bE→Option R):Option R :=
 match x,mx with
 | .str s,none =>
  match kW s.size lo hi with
  | some (l,u)=>cond (aW s.size l u) (K (.val (.str (TF s l u)))) none
  | none=>none
 | _,_=>none
def qx(h:Heap)(sz:Nat)(x:AV)(lo hi mx:Option AV)(K:bE→Option R):Option R :=
 match x with
 | .fB =>
  match kW 0 lo hi,mx with
  | some (l,u),none=>cond (aW 0 l u) (K (.val .fB)) none
  | _,_=>none
 | .sl _ kk xs =>
  if sz=kk.sz then
   match kW xs.length lo hi with
   | some (l,u) =>
    match mx with
    | none=>cond (aW xs.length l u) (K (.val (.sl false kk (cut xs l u)))) none
    | some (.int .i64 m)=>cond (aW xs.length l u&&(hi.isSome&&decide (m=u))) (K (.val (.sl true kk (cut xs l u)))) none
    | _=>none
   | none=>none
  else none
 | .bF id =>
  match h.get id with
  | some (.own (.row _ kk) xs) =>
   if sz=kk.sz then
    match kW xs.length lo hi with
    | some (l,u) =>
     match mx with
     | none=>cond (aW xs.length l u) (K (.wr (.sl false kk (cut xs l u)) (h.del id))) none
     | some (.int .i64 m)=>cond (aW xs.length l u&&(hi.isSome&&decide (m=u))) (K (.wr (.sl true kk (cut xs l u)) (h.del id))) none
     | _=>none
    | none=>none
   else none
  | _=>none
 | _=>none
def TG(t:TypeId)(x:AV):Bool :=
 match P.underlying t,x with
 | some .string,.str _=>true
 | some (.slice _),.str _=>false
 | some (.slice _),_=>true
 | _,_=>false
def HP(t:TypeId):Bool :=
 match P.underlying t with
 | some (.map _ _)=>true
 | _=>false
def B7(h:Heap)(x:AV)(K:bE→Option R):Option R :=
 match cC h x with
 | .str s=>K (.val (.int .i64 (s.size:Int)))
 | .sl _ _ xs=>K (.val (.int .i64 (xs.length:Int)))
 | .fB=>K (.val (.int .i64 0))
 | _=>none
def uS(h:Heap)(x:AV)(K:bE→Option R):Option R :=
 match cC h x with
 | .mp _ _ es=>K (.val (.int .i64 (es.length:Int)))
 | _=>none
def kJ(Eqs:TypeId→Option K)(id:Nat)(t:TypeId)(K:bE→Option R):Option R :=
 match mapOf P Eqs t with
 | some (kk,vk)=>K (.new (.bF id) [(id,.own (.map kk vk) [])])
 | none=>none
def mO(Eqs:TypeId→Option K)(h:Heap)(t:TypeId)(m i:AV)(ok:Bool)(K:bE→Option R):Option R :=
 match mapOf P Eqs t,cC h m with
 | some (kk,vk),.mp JA QH es =>
  if c:JA=kk∧QH=vk then
   match fm kk h i with
   | some x=>K (.val (cond ok (.mJ [b8 vk ((iD kk x (c.1▸c.2▸es:List (kk.T×vk.T))).getD (oJ vk)),.bool (iD kk x (c.1▸c.2▸es:List (kk.T×vk.T))).isSome]) (b8 vk ((iD kk x (c.1▸c.2▸es:List (kk.T×vk.T))).getD (oJ vk)))))
   | none=>none
  else none
 | _,_=>none
def hZ(Eqs:TypeId→Option K)(h:Heap)(t:TypeId)(m i v:AV)(K:bE→Option R):Option R :=
 match mapOf P Eqs t,m with
 | some (kk,vk),.bF id =>
  match h.get id with
  | some (.own (.map JA QH) es) =>
   if c:JA=kk∧QH=vk then
    match fm kk h i,fm vk h v,(v.cells.all fun c=>match c with | .bF j => !(j==id) | _=>true) with
    | some x,some y,true=>K (.wr (.mJ []) ((cy h v.cells).set id (.own (.map kk vk) (lM kk x y (c.1▸c.2▸es:List (kk.T×vk.T))))))
    | _,_,_=>none
   else none
  | _=>none
 | _,_=>none
def mP(Eqs:TypeId→Option K)(h:Heap)(t:TypeId)(m i:AV)(K:bE→Option R):Option R :=
 match mapOf P Eqs t,m with
 | some (kk,vk),.bF id =>
  match h.get id with
  | some (.own (.map JA QH) es) =>
   if c:JA=kk∧QH=vk then
    match fm kk h i with
    | some x=>K (.wr (.mJ []) (h.set id (.own (.map kk vk) (MC kk x (c.1▸c.2▸es:List (kk.T×vk.T))))))
    | none=>none
   else none
  | _=>none
 | _,_=>none
def mQ(id:Nat)(t:TypeId)(x:AV)(K:bE→Option R):Option R :=
 match P.underlying t,x with
 | some .string,.str s=>K (.new (.bF id) [(id,.own .mM (s,0))])
 | _,_=>none
def nK(s:ByteArray)(p:Nat):Int:=(Utf8.decode s p).1
def yn(s:ByteArray)(p:Nat):Nat:=(Utf8.decode s p).2
def qy(h:Heap)(x:AV)(K:bE→Option R):Option R :=
 match x with
 | .bF id=>match h.get id with
  | some (.own .mM x)=>cond (decide (x.2<x.1.size)) (K (.wr (.mJ [.bool true,.int .i64 (x.2:Int),.int .i32 (nK x.1 x.2)]) (h.set id (.own .mM (x.1,x.2+yn x.1 x.2))))) (K (.val (.mJ [.bool false])))
  | _=>none
 | _=>none
def qz(h:Heap)(x:AV)(K:bE→Option R):Option R :=
 match x with
 | .bF id=>match h.get id with
  | some (.own (.iter kk vk) (some c,_))=>K (.val (.mJ [b8 kk c.1,b8 vk c.2]))
  | _=>none
 | _=>none
def Dn:TypeDesc→Bool
 | .bool=>true
 | _=>false
def uT:TypeDesc→Bool
 | .pointer _=>true
 | _=>false
def we(Eqs:TypeId→Option K)(op:BinOp)(t:TypeId)(x y:AV)(K:bE→Option R):Option R :=
 match x,y with
 | .int k a,.int k' b =>
  match op with
  | .shl=>cond (decide (b<0)) none (K (.val (.int k (Wh k a b))))
  | .shr=>cond (decide (b<0)) none (K (.val (.int k (kz k a b))))
  | op =>
  if k=k' then
   match op with
   | .quo=>cond (b==0) none (K (.val (.int k (k.wrap (a.tdiv b)))))
   | .rem=>cond (b==0) none (K (.val (.int k (a.tmod b))))
   | op=>match TE op k a b with
    | some v=>K (.val v)
    | none=>none
  else none
 | .str a,.str b=>match Wi op a b with
  | some v=>K (.val v)
  | none=>none
 | .bool a,.bool b =>
  match op,(P.underlying t).map Dn with
  | .eql,some true=>K (.val (.bool (a==b)))
  | .neq,some true=>K (.val (.bool (!(a==b))))
  | _,_=>none
 | .agg a,.agg b =>
  match Eqs t with
  | none=>none
  | some k =>
   match op,dI k a,dI k b with
   | .eql,some x,some y=>K (.val (.bool (qv k x y)))
   | .neq,some x,some y=>K (.val (.bool (!(qv k x y))))
   | _,_,_=>none
 | .kU,.kU =>
  match op,(P.underlying t).map uT with
  | .eql,some true=>K (.val (.bool true))
  | .neq,some true=>K (.val (.bool false))
  | _,_=>none
 | .ref ..,.kU =>
  match op,(P.underlying t).map uT with
  | .eql,some true=>K (.val (.bool false))
  | .neq,some true=>K (.val (.bool true))
  | _,_=>none
 | _,_=>none
def Sr(b:Bool)(x y:AV):AV :=
 match x,y with
 | .bool p,.bool q=>.bool (cond b p q)
 | x,y=>cond b x y
end
def dE(h:Heap)(ok:OK)(c:AV):Option ok.T :=
 match c with
 | .fB=>match ok with
  | .row _ _=>some []
  | _=>none
 | .bF id=>match h.get id with
  | some (.own VL x)=>if e:VL=ok then some (e▸x) else none
  | _=>none
 | _=>none
def nL:AV→List Nat
 | .bF id=>[id]
 | _=>[]
def cE:(c8:List CK)→Heap→List AV→Option (pe c8)
 | [],_,[]=>some ()
 | .val k::r,h,cs =>
  match dI k ((cs.take k.sz).map (cC h)),cE r h (cs.drop k.sz) with
  | some x,some y=>some (x,y)
  | _,_=>none
 | .own ok::r,h,c::cs =>
  match dE h ok c,cE r h cs with
  | some x,some y=>some (x,y)
  | _,_=>none
 | _,_,_=>none
def oK:List CK→List AV→List AV
 | .val k::r,cs=>cs.take k.sz++oK r (cs.drop k.sz)
 | .own _::r,_::cs=>oK r cs
 | _,_=>[]
def fi:List CK→List AV→List Nat
 | .val k::r,cs=>fi r (cs.drop k.sz)
 | .own _::r,c::cs=>nL c++fi r cs
 | _,_=>[]
def az:(c8:List CK)→Nat→pe c8→List AV
 | [],_,_=>[]
 | .val k::r,n,x=>enc k x.1++az r (n+1) x.2
 | .own _::r,n,x=>.bF n::az r (n+1) x.2
def aQ:(c8:List CK)→Nat→pe c8→Heap
 | [],_,_=>[]
 | .val _::r,n,x=>aQ r (n+1) x.2
 | .own ok::r,n,x=>(n,.own ok x.1)::aQ r (n+1) x.2
def ER(h:Heap)(id:Nat)(ty:TypeId):Option (List AV) :=
 match h.get id with
 | some (.box w8 cs)=>if w8=ty then some cs else none
 | _=>none
def oL:(b:BK)→Heap→Nat→Option b.T
 | .box ty c,h,i=>match ER h i ty with
  | some cs=>cE c h cs
  | none=>none
 | .own ok,h,i=>dE h ok (.bF i)
def cP:(bs:List BK)→Heap→List Nat→Option (uQ bs)
 | [],_,[]=>some ()
 | b::r,h,i::is =>
  match oL b h i,cP r h is with
  | some x,some y=>some (x,y)
  | _,_=>none
 | _,_,_=>none
def iE:(b:BK)→Nat→Nat→b.T→Heap
 | .box ty c,i,n,x=>(i,.box ty (az c n x))::aQ c n x
 | .own ok,i,_,x=>[(i,.own ok x)]
def bp:(bs:List BK)→List Nat→Nat→uQ bs→Heap
 | b::r,i::is,n,x=>iE b i n x.1++bp r is (n+16) x.2
 | _,_,_,_=>[]
def yp:BK→Heap→Nat→List AV
 | .box _ c,h,i=>match h.get i with
  | some (.box _ cs)=>oK c cs
  | _=>[]
 | .own _,_,_=>[]
def fC:List BK→Heap→List Nat→List AV
 | b::r,h,i::is=>yp b h i++fC r h is
 | _,_,_=>[]
def jI:BK→Heap→Nat→List Nat
 | .box _ c,h,i=>i::(match h.get i with
  | some (.box _ cs)=>fi c cs
  | _=>[])
 | .own _,_,i=>[i]
def cQ:List BK→Heap→List Nat→List Nat
 | b::r,h,i::is=>jI b h i++cQ r h is
 | _,_,_=>[]
def gk(h:Heap):List Nat→Heap
 | []=>h
 | i::r=>gk (h.del i) r
def B8:AV→Option Nat
 | .ref id _ 0 0=>some id
 | _=>none
def ji:List AV→Option (List Nat)
 | []=>some []
 | v::r=>match B8 v,ji r with
  | some i,some is=>some (i::is)
  | _,_=>none
def nM:List AV→Option (List Nat)
 | []=>some []
 | .bF i::r=>match nM r with
  | some is=>some (i::is)
  | none=>none
 | _=>none
def cw:List PK→List AV→Option (List Nat)
 | [],[]=>some []
 | .val _::ps,_::vs=>cw ps vs
 | .ref::ps,v::vs=>match B8 v,cw ps vs with
  | some i,some is=>some (i::is)
  | _,_=>none
 | .own::ps,.bF i::vs=>match cw ps vs with
  | some is=>some (i::is)
  | none=>none
 | .EO f n::ps,.fn f' cap::vs =>
  if f'=f∧cap.length=n then match ji cap,cw ps vs with
   | some a,some b=>some (a++b)
   | _,_=>none
  else none
 | .agg n::ps,.agg cs::vs =>
  if cs.length=n then match nM cs,cw ps vs with
   | some a,some b=>some (a++b)
   | _,_=>none
  else none
 | _,_=>none
def dW:(ps:List PK)→Heap→List AV→Option (EP (kf ps))
 | [],_,[]=>some ()
 | .val k::ps,h,v::vs =>
  match fm k h v,dW ps h vs with
  | some x,some y=>some (x,y)
  | _,_=>none
 | .ref::ps,h,_::vs=>dW ps h vs
 | .own::ps,h,_::vs=>dW ps h vs
 | .EO _ _::ps,h,_::vs=>dW ps h vs
 | .agg _::ps,h,_::vs=>dW ps h vs
 | _,_,_=>none
def c6:List PK→List AV→List AV
 | .val _::ps,v::vs=>v.cells++c6 ps vs
 | _::ps,_::vs=>c6 ps vs
 | _,_=>[]
def aN:(ps:List PK)→(ids:List Nat)→Nat→EP (kf ps)→List (Nat×AV)
 | [],_,_,_=>[]
 | .val k::ps,ids,s,x=>(s,b8 k x.1)::aN ps ids (s+1) x.2
 | .ref::ps,i::ids,s,x=>(s,.ref i 0 0 0)::aN ps ids (s+1) x
 | .ref::ps,[],s,x=>(s,.no)::aN ps [] (s+1) x
 | .own::ps,i::ids,s,x=>(s,.bF i)::aN ps ids (s+1) x
 | .own::ps,[],s,x=>(s,.no)::aN ps [] (s+1) x
 | .EO f n::ps,ids,s,x=>(s,.fn f ((ids.take n).map fun i=>.ref i 0 0 0))::aN ps (ids.drop n) (s+1) x
 | .agg n::ps,ids,s,x=>(s,.agg ((ids.take n).map .bF))::aN ps (ids.drop n) (s+1) x
def lQ:List CK→Nat→Nat
 | .val k::r,c+1=>k.sz+lQ r c
 | .own _::r,c+1=>1+lQ r c
 | _,_=>0
def fq:List CK→Nat→Bool
 | .own (.row _ _)::_,0=>true
 | _::r,c+1=>fq r c
 | _,_=>false
def ME(id:Nat):Option AV→Bool
 | some (.bF lN)=>lN==id
 | _=>false
def wg(c:List CK)(cs:List AV)(id s off:Nat)(a:Nat×Nat×Nat):Bool :=
 ME id (cs[lQ c a.1]?)&&(decide (s=a.2.1)&&(decide (off=a.2.2)&&fq c a.1))
def mn(bs:List BK)(h:Heap)(ids:List Nat)(b:Nat)(alts:List (Nat×Nat×Nat))(v:AV):Option (Option (Fin alts.length×Nat)) :=
 match v with
 | .kU=>some none
 | .ref id s i off =>
  (match ids[b]?,bs[b]? with
  | some bi,some bk=>(match h.get bi with
   | some (.box _ cs)=>(match (List.finRange alts.length).find? (fun a=>wg bk.c8 cs id s off (alts.get a)) with
    | some a=>some (some (a,i))
    | none=>none)
   | _=>none)
  | _,_=>none)
 | _=>none
def yq(c:List CK)(h:Heap)(v:AV):Option (pe c) :=
 match v with
 | .agg cs=>cE c h cs
 | _=>none
def bG(bs:List BK):(rs:List RK)→Heap→List Nat→List AV→Option (kV rs)
 | [],_,_,[]=>some ()
 | .val k::r,h,ids,v::vs =>
  match fm k h v,bG bs r h ids vs with
  | some x,some y=>some (x,y)
  | _,_=>none
 | .own ok::r,h,ids,v::vs =>
  match dE h ok v,bG bs r h ids vs with
  | some x,some y=>some (x,y)
  | _,_=>none
 | .dZ b alts::r,h,ids,v::vs =>
  match mn bs h ids b alts v,bG bs r h ids vs with
  | some x,some y=>some (x,y)
  | _,_=>none
 | .agg c::r,h,ids,v::vs =>
  match yq c h v,bG bs r h ids vs with
  | some x,some y=>some (x,y)
  | _,_=>none
 | _,_,_,_=>none
def fD:List RK→List AV→List AV
 | .val _::r,v::vs=>v.cells++fD r vs
 | .agg c::r,v::vs=>oK c v.cells++fD r vs
 | _::r,_::vs=>fD r vs
 | _,_=>[]
def dz:List RK→List AV→List Nat
 | .own _::r,v::vs=>nL v++dz r vs
 | .agg c::r,v::vs=>fi c v.cells++dz r vs
 | _::r,_::vs=>dz r vs
 | _,_=>[]
def th(b n:Nat)(alts:List (Nat×Nat×Nat)):Option (Fin alts.length×Nat)→AV
 | none=>.kU
 | some (a,i)=>.ref (n+16 * b+(alts.get a).1) (alts.get a).2.1 i (alts.get a).2.2
def aO:(rs:List RK)→(ids:List Nat)→(n m:Nat)→kV rs→List AV
 | [],_,_,_,_=>[]
 | .val k::r,ids,n,m,x=>b8 k x.1::aO r ids n (m+1) x.2
 | .agg c::r,ids,n,m,x=>.agg (az c m x.1)::aO r ids n (m+1) x.2
 | .own _::r,ids,n,m,x=>.bF m::aO r ids n (m+1) x.2
 | .dZ b alts::r,ids,n,m,x=>th b n alts x.1::aO r ids n (m+1) x.2
def aj:(rs:List RK)→(m:Nat)→kV rs→Heap
 | [],_,_=>[]
 | .own ok::r,m,x=>(m,.own ok x.1)::aj r (m+1) x.2
 | .agg c::r,m,x=>aQ c m x.1++aj r (m+1) x.2
 | .val _::r,m,x=>aj r (m+1) x.2
 | .dZ _ _::r,m,x=>aj r (m+1) x.2
def eE:List AV→AV
 | [v]=>v
 | vs=>.mJ vs
def cc:List CK→Nat→List Nat
 | [],_=>[]
 | .val _::r,n=>cc r (n+1)
 | .own _::r,n=>n::cc r (n+1)
def bV:List BK→List Nat→Nat→List Nat
 | b::r,i::is,n=>i::(cc b.c8 n++bV r is (n+16))
 | _,_,_=>[]
def bq:List RK→Nat→List Nat
 | [],_=>[]
 | .own _::r,m=>m::bq r (m+1)
 | .agg c::r,m=>cc c m++bq r (m+1)
 | .val _::r,m=>bq r (m+1)
 | .dZ _ _::r,m=>bq r (m+1)
def aL(n:Nat):List Nat:=(List.range n).map fun i=>1000+20 * i
def pf(g:aJ):List Nat:=bV g.bs (aL g.bs.length) 2000++bq g.rs 3000
def ES:List AV→Bool
 | []=>true
 | .bF _::_=>false
 | _::r=>ES r
def pj:List AV→Bool
 | []=>true
 | v::r=>ES v.cells&&pj r
def b4:List Nat→Bool
 | []=>true
 | i::r => !(r.contains i)&&b4 r
def uU(kept:List Nat)(kd:List AV):Bool:=b4 kept&&kept.all fun i=>HO i kd
section
variable (P:Program) (Eqs:TypeId→Option K) (Sg:FuncId→Option aJ) (F:(f:FuncId)→(g:aJ)→g.A→Option g.B)
variable {R:Type}
def sq(f:FuncId):List AV→FuncId
 | []=>f
 | .fn g _::_=>f+1000 * (g+1)
 | _::r=>sq f r
def yr:List AV→Bool
 | []=>false
 | .bF _::_=>true
 | .agg cs::r=>(cs.any fun c=>match c with | .bF _=>true | _=>false) || yr r
 | _::r=>yr r
def keyOf(f:FuncId)(vs:List AV):FuncId:=if yr vs&&(Sg (sq f vs+500000)).isSome then sq f vs+500000 else sq f vs
def By(bs:List BK)(r:RK):Bool:=match r with
 | .dZ b alts=>match bs[b]? with
  | some bk=>(alts.all fun a=>fq bk.c8 a.1)&&decide ((alts.map fun a=>(a.1,a.2.2)).Nodup)
  | none=>false
 | .agg c=>decide (c.length≤16)
 | _=>true
def pn(bs:List BK)(rs:List RK):Bool:=rs.all (By bs)
def MF(f:FuncId)(g:aJ):Bool:=pn g.bs g.rs&&( (decide (g.bs.length≤8)&&(g.bs.all fun b=>decide (b.c8.length≤16)))&&((decide (g.rs.length≤100)&&decide (f<1000))&&b4 (pf g)))
def po{α R:Type}(o:Option α)(a:Option R)(f:α→Option R):Option R:=match o with
 | none=>a
 | some x=>f x
def Wj{R:Type}(n:Nat)(a:Fin n)(f:Fin n→Option R):Option R:=(List.finRange n).foldr (fun j r=>cond (a.val==j.val) (f j) r) none
def jk{R:Type}:(rs:List RK)→kV rs→(kV rs→Option R)→Option R
 | [],_,K=>K ()
 | .dZ _ alts::r,x,K=>po x.1 (jk r x.2 fun z=>K (none,z)) (fun p=>Wj alts.length p.1 fun a=>jk r x.2 fun z=>K (some (a,p.2),z))
 | .val _::r,x,K=>jk r x.2 fun z=>K (x.1,z)
 | .own _::r,x,K=>jk r x.2 fun z=>K (x.1,z)
 | .agg _::r,x,K=>jk r x.2 fun z=>K (x.1,z)
def iF(h:Heap)(id:Nat)(f:FuncId)(vs:List AV)(K:bE→Option R):Option R :=
 match Sg (keyOf Sg f vs) with
 | none=>none
 | some g=>match g.x with
 | some u=>if f<1000 then (u h id vs).bind fun p=>cond p.1 (K p.2) none else none
 | none =>
  match cw g.ps vs,MF f g with
  | some is,true =>
   if is.isEmpty&&g.rs.all RK.plain then
   match dW g.ps h vs,cP g.bs h [],g.rs.all RK.plain with
   | some x,some b,true =>
    (F (keyOf Sg f vs) g (x,b)).bind fun y =>
     cond (g.rs.all RK.flat || pj vs)
      (K (.new (eE (aO g.rs [] id (id+128) y.1)) (aj g.rs (id+128) y.1)))
      (K (.wr (eE (aO g.rs [] id (id+128) y.1)) (aj g.rs (id+128) y.1++cy h (c6 g.ps vs))))
   | _,_,_=>none
   else
   match dW g.ps h vs,cP g.bs h is,uU (cQ g.bs h is) (c6 g.ps vs++fC g.bs h is)&&b4 (bV g.bs is id++bq g.rs (id+128)) with
   | some x,some b,true =>
    (F (keyOf Sg f vs) g (x,b)).bind fun y=>jk g.rs y.1 fun z =>
     K (.wr (eE (aO g.rs is id (id+128) z))
      (bp g.bs is id y.2++(aj g.rs (id+128) z++gk (cy h (c6 g.ps vs++fC g.bs h is)) (cQ g.bs h is))))
   | _,_,_=>none
  | _,_=>none
def pq{α:Type}(xs:List α)(i:Int)(ys:List α):Bool:=decide (0≤i)&&(decide (i≤xs.length)&&(decide (ys.length=1)&&aM xs.length ys.length))
def fE{α:Type}(xs:List α)(i:Int)(ys:List α):List α:=xs.take i.toNat++(ys++xs.drop i.toNat)
def je{α:Type}(xs:List α)(i j:Int):Bool:=decide (0≤i)&&(decide (i<j)&&(decide (j≤xs.length)&&aM xs.length 0))
def c9{α:Type}(xs:List α)(i j:Int):List α:=xs.take i.toNat++xs.drop j.toNat
def yu(n:Int):Bool:=decide (0≤n)&&decide (n≤fh)
def MG(ty:TypeId)(k:K)(h:Heap)(id:Nat):List AV→Option (Bool×bE)
 | [.bF o,.int .i64 i,.bF j]=>match dE h (.row ty k) (.bF o),dE h (.row ty k) (.bF j) with
  | some xs,some ys=>if o=j then none else some (pq xs i ys,.wr (.bF id) ((id,.own (.row ty k) (fE xs i ys))::h.del o))
  | _,_=>none
 | _=>none
def QI(ty:TypeId)(k:K)(h:Heap)(id:Nat):List AV→Option (Bool×bE)
 | [.bF o,.int .i64 i,.int .i64 j]=>match dE h (.row ty k) (.bF o) with
  | some xs=>some (je xs i j,.wr (.bF id) ((id,.own (.row ty k) (c9 xs i j))::h.del o))
  | none=>none
 | _=>none
def MH(ty:TypeId)(k:K)(_:Heap)(id:Nat):List AV→Option (Bool×bE)
 | [.fB,.int .i64 n]=>some (yu n,.new (.bF id) [(id,.own (.row ty k) [])])
 | _=>none
def uV(id:Nat)(t:TypeId)(vs:List AV)(K:bE→Option R):Option R :=
 K (.new (.ref id vs.length 0 0) [(id,.box t vs)])
def Ss:AV→Bool
 | .no=>false
 | _=>true
def qA(t:TypeId)(parts:List (Nat×AV))(K:bE→Option R):Option R :=
 match yl P t,P.underlying t with
 | some z,some (.struct fs) =>
  match B6 (fun i=>(fs[i]?).map fun f=>(f.offset,P.cellsOf f.type)) z parts,fs.toList.all (fun f=>(P.info? f.type).isSome)&&parts.all (fun p=>Ss p.2) with
  | some cs,true=>K (.val (.agg cs))
  | _,_=>none
 | _,_=>none
def pw(k:K)(h:Heap):Nat→List (Nat×AV)→Option (List k.T)
 | _,[]=>some []
 | i,(j,v)::r =>
  if j=i then match dI k (v.cells.map (cC h)),pw k h (i+1) r with
   | some x,some xs=>some (x::xs)
   | _,_=>none
  else none
def ti(h:Heap)(id:Nat)(t:TypeId)(n:Nat)(parts:List (Nat×AV))(K:bE→Option R):Option R :=
 match wc P t with
 | none=>none
 | some e =>
  match o9 P 8 e with
  | none=>none
  | some k =>
   match pw k h 0 parts,Dm P e k with
   | none,_=>none
   | some _,false=>none
   | some xs,true =>
    if parts.length=n∧n * k.sz≤1048576 then
     cond (pj (parts.map (·.2))) (K (.new (.bF id) [(id,.own (.row e k) xs)])) (K (.wr (.bF id) ((id,.own (.row e k) xs)::cy h (parts.flatMap (·.2.cells)))))
    else none
def QJ:bE→bE
 | .new (.bF _) [(_,.own (.row _ k) xs)]=>.new (.sl true k xs) []
 | e=>e
def uW(kd:Bool)(h:Heap)(id:Nat)(t:TypeId)(n:Nat)(parts:List (Nat×AV))(K:bE→Option R):Option R :=
 ti P h id t n parts fun e=>K (if kd then QJ e else e)
def yv(src dst:TypeId)(x:AV)(K:bE→Option R):Option R :=
 match P.underlying src,P.underlying dst,x with
 | some (.int _),some (.int k),.int _ n=>K (.val (.int k (k.wrap n)))
 | some .string,some .string,.str s=>K (.val (.str s))
 | _,_,_=>none
def KE(mx:Bool)(vs:List AV)(K:bE→Option R):Option R :=
 match vs with
 | [.int k a,.int k' b]=>if k=k' then K (.val (.int k (cond mx (max a b) (min a b)))) else none
 | _=>none
def cI(id:Nat)(h:Heap)(s:List (Nat×AV))(o:Oper)(K:bE→Option R):Option R :=
 match o.op with
 | .move x | .assign x=>K (.val (ρ s x))
 | .pick c a b=>match ρ s c with
  | .bool t=>K (.val (Sr t (ρ s a) (ρ s b)))
  | _=>none
 | .box t x=>if (ρ s x).cells.all uR then uV id t (ρ s x).cells K else none
 | .alloc t=>match yl P t with
  | some z=>uV id t z K
  | none=>none
 | .build t ps=>qA P t (ps.toList.map fun p=>(p.1,ρ s p.2)) K
 | .buildSlice t n ps=>uW P (Sg (900000+t)).isSome h id t n (ps.toList.map fun p=>(p.1,ρ s p.2)) K
 | .load t a=>kX P h t (ρ s a) K
 | .store t a v=>qw P h t (ρ s a) (ρ s v) K
 | .nilCheck x=>match ρ s x with
  | .ref id s i off=>K (.val (.ref id s i off))
  | .fp k x off=>K (.val (.fp k x off))
  | .fn f cap=>K (.val (.fn f cap))
  | _=>none
 | .binOp op t x y _=>we P Eqs op t (ρ s x) (ρ s y) K
 | .unOp .not _ x=>match ρ s x with
  | .bool b=>K (.val (.bool (!b)))
  | _=>none
 | .convert src dst x=>yv P src dst (ρ s x) K
 | .makeFunc (.func f) first cap=>if first.size=0 then K (.val (.fn f (cap.toList.map (ρ s)))) else none
 | .slice t x lo hi mx=>match P.underlying t with
  | some .string=>ym (ρ s x) (lo.map (ρ s)) (hi.map (ρ s)) (mx.map (ρ s)) K
  | some (.slice e)=>if (P.info? e).isSome then qx h (P.cellsOf e) (ρ s x) (lo.map (ρ s)) (hi.map (ρ s)) (mx.map (ρ s)) K else none
  | _=>none
 | .fieldAddr t x f=>match gj P t f,ρ s x with
  | some (n,ft),.ref id s i off=>if P.cellsOf ft=0 then none else K (.val (.ref id s i (off+n)))
  | some (n,ft),.fp k x off=>if P.cellsOf ft=0 then none else K (.val (.fp k x (off+n)))
  | _,_=>none
 | .field t x f=>match gj P t f,ρ s x with
  | some (n,ft),.agg cs=>match dN P ft (cs.drop n) with
   | some v=>K (.val v)
   | none=>none
  | _,_=>none
 | .indexAddr t x i=>dh P h t (ρ s x) (ρ s i) K
 | .index t x i=>match P.underlying t,ρ s x,ρ s i with
  | some .string,.str b,.int _ n=>(if 0≤n then b[n.toNat]? else none).bind fun c=>K (.val (.int .u8 (c.toNat:Int)))
  | _,_,_=>none
 | .makeMap t none=>kJ P Eqs id t K
 | .lookup t m i ok=>mO P Eqs h t (ρ s m) (ρ s i) ok K
 | .mapUpdate t m i v=>hZ P Eqs h t (ρ s m) (ρ s i) (ρ s v) K
 | .range t x=>mQ P id t (ρ s x) K
 | .next x true=>qy h (ρ s x) K
 | .entry x=>qz h (ρ s x) K
 | .extract t i=>match ρ s t with
  | .mJ vs=>match vs[i]? with
   | some v=>K (.val v)
   | none=>none
  | _=>none
 | .call c =>
  match c.callee with
  | .value f=>match ρ s f with
   | .fn f cap=>iF Sg F h id f (c.args.toList.map (ρ s)++cap) K
   | _=>none
  | .builtin .len=>match c.args.toList,c.argTypes.toList with
   | [x],[t]=>if HP P t then uS h (ρ s x) K else if TG P t (ρ s x) then B7 h (ρ s x) K else none
   | _,_=>none
  | .builtin .append=>match c.args.toList,c.argTypes.toList with
   | [x,y],[t,t']=>if t'=t then mN P h id t (ρ s x) (ρ s y) K else none
   | _,_=>none
  | .builtin .delete=>match c.args.toList,c.argTypes.toList with
   | [m,x],t::_=>mP P Eqs h t (ρ s m) (ρ s x) K
   | _,_=>none
  | .builtin .max=>KE true (c.args.toList.map (ρ s)) K
  | .builtin .min=>KE false (c.args.toList.map (ρ s)) K
  | _=>none
 | _=>none
def mo:Op→Bool
 | .move _ | .assign _ | .extract .. | .unOp .. | .pick .. | .fieldAddr .. | .nilCheck _ | .makeFunc .. | .build ..=>true
 | .binOp op ..=>match op with
  | .eql | .neq=>false
  | _=>true
 | _=>false
def makes:Op→Bool
 | .box .. | .alloc _ | .buildSlice .. | .makeMap .. | .range ..=>true
 | .call c=>match c.callee with
  | .builtin .append | .value _=>true
  | _=>false
 | _=>false
def opId(rid i:Nat):Nat:=((rid+1) * 128+i) * 256
def tj(ops:Array Oper)(b:Array Nat):Bool :=
 (List.range ops.size).all fun i=>match ops[i]? with
  | some o=>(o.after.toList.all fun e => !Region.binds .any e || decide (e.on<i)) &&
   b.getD i 0==o.after.toList.foldl (fun s e=>if Region.binds .any e then s ||| 2 ^ e.on ||| b.getD e.on 0 else s) 0
  | none=>false
def yw(ops:Array Oper)(b:Array Nat):Bool :=
 (List.range ops.size).all fun j=>(List.range j).all fun i =>
  (b.getD j 0).testBit i || (match ops[i]?,ops[j]? with
   | some x,some y=>x.apart ops y
   | _,_=>false)
def iG:Op→Option Operand
 | .load _ x=>some x
 | .indexAddr _ x _=>some x
 | _=>none
def Dp:Op→Bool
 | .store ..=>true
 | .call c=>match c.callee with
  | .value _=>true
  | _=>false
 | _=>false
def tk(ops:Array Oper)(i j:Nat):Bool :=
 match (ops[j]?).bind (iG ·.op) with
 | some (.tmp d)=>(List.range ops.size).all fun m => !(decide (min i j≤m)&&decide (m<max i j)) || (match (ops[m]?).bind (·.dst) with | some d'=>d' != d | none=>true)
 | some _=>true
 | none=>false
def tl:AV→List Nat
 | .ref id _ _ _=>[id]
 | .bF id=>[id]
 | _=>[]
def TH(ops:Array Oper)(b:Array Nat)(i:Nat)(tmps:List (Nat×AV)):List Nat :=
 (List.range ops.size).flatMap fun j=>if j==i || (b.getD j 0).testBit i || (b.getD i 0).testBit j then [] else match (ops[j]?).bind (iG ·.op) with
  | some x=>tl (ρ tmps x)
  | none=>[]
def gm(ops:Array Oper)(b:Array Nat)(i:Nat)(tmps:List (Nat×AV))(o:Oper):List Nat:=if Dp o.op then TH ops b i tmps else []
def HQ(ops:Array Oper)(b:Array Nat)(i:Nat):Bool :=
 (List.range ops.size).all fun j =>
  j==i || (b.getD j 0).testBit i || (b.getD i 0).testBit j || (match ops[j]? with | some o=>mo o.op | none=>true) || ((match ops[i]? with | some o=>Dp o.op | none=>false)&&tk ops i j)
def ahead(rid:Nat)(HR:Nat)(h:Heap):Heap:=h.filter fun p=>(p.1 / 32768 != rid+1) || HR.testBit (p.1 / 256 % 128)
def gS(n:Nat)(o:Oper):Bool :=
 match o.dst with
 | some d=>decide (d<n)
 | none=>true
end
def py(rid bits id:Nat):Bool:=(id / 32768 != rid+1) || bits.testBit (id / 256 % 128)
mutual
def rz(rid bits:Nat):AV→Bool
 | .ref id _ _ _=>py rid bits id
 | .bF id=>py rid bits id
 | .fn _ cap=>yx rid bits cap
 | .agg cs=>yx rid bits cs
 | .mJ vs=>yx rid bits vs
 | .no=>true
 | .bool _=>true
 | .int _ _=>true
 | .str _=>true
 | .kU=>true
 | .fB=>true
 | .fp _ _ _=>true
 | .sl _ _ _=>true
 | .mp _ _ _=>true
def yx(rid bits:Nat):List AV→Bool
 | []=>true
 | v::r=>rz rid bits v&&yx rid bits r
end
def wh(rid bits:Nat):Heap→Bool
 | []=>true
 | (id,.box _ cs)::r=>py rid bits id&&yx rid bits cs&&wh rid bits r
 | (id,.own _ _)::r=>py rid bits id&&wh rid bits r
def fZ(draw:Bool)(rid:Nat)(ops:Array Oper)(b:Array Nat)(i HR:Nat):bE→Bool
 | .wr v h=>(!draw || HQ ops b i)&&rz rid (HR ||| 2 ^ i) v&&wh rid (HR ||| 2 ^ i) h
 | .new v os=>rz rid (HR ||| 2 ^ i) v&&(os.all fun p=>p.1 / 256==(rid+1) * 128+i)&&wh rid (HR ||| 2 ^ i) os
 | .val v=>rz rid HR v
def eJ(ft:List Nat)(hp h:Heap):Heap:=(ft.filterMap fun i=>(hp.get i).map fun o=>(i,o))++h
def gh(ft:List Nat)(hp:Heap):bE→bE
 | .wr v h=>.wr v (eJ ft hp h)
 | .val v=>.val v
 | .new v os=>.new v os
mutual
def pz(ft:List Nat):AV→Bool
 | .ref id _ _ _ => !(ft.contains id)
 | .bF id => !(ft.contains id)
 | .fn _ cap=>sr ft cap
 | .agg cs=>sr ft cs
 | .mJ vs=>sr ft vs
 | .no=>true
 | .bool _=>true
 | .int _ _=>true
 | .str _=>true
 | .kU=>true
 | .fB=>true
 | .fp _ _ _=>true
 | .sl _ _ _=>true
 | .mp _ _ _=>true
def sr(ft:List Nat):List AV→Bool
 | []=>true
 | v::r=>pz ft v&&sr ft r
end
def ss(ft:List Nat):Heap→Bool
 | []=>true
 | (id,.box _ cs)::r => !(ft.contains id)&&(sr ft cs&&ss ft r)
 | (id,.own _ _)::r => !(ft.contains id)&&ss ft r
def mq(ft:List Nat):bE→Bool
 | .wr v h=>pz ft v&&ss ft h
 | _=>true
section
variable (P:Program) (Eqs:TypeId→Option K) (Sg:FuncId→Option aJ) (F:(f:FuncId)→(g:aJ)→g.A→Option g.B)
variable {R:Type}
noncomputable def rl(n:Nat)(f:Nat→Option R):Option R:=open Classical in if h:∃r,∀j,j<n→f j=some r then some (Classical.choose h) else none
def ET(m:Nat)(d:AV):AV→AV
 | .bF i=>if i=m then d else .bF i
 | v=>v
def nN(id:Nat)(st:St)(o:Oper):Option St :=
 match o.op with
 | .range t x=>match P.underlying t,ρ st.tmps x with
  | some (.map _ _),.bF m=>match st.heap.get m with
   | some (.own (.map kk vk) es)=>some (({ tmps:=st.tmps.map fun p=>(p.1,ET m (.mp kk vk es) p.2),heap:=(id,.own (.iter kk vk) (none,es))::st.heap.del m }:St).put o.dst (.bF id))
   | _=>none
  | _,_=>none
 | _=>none
def tn(o:Oper):Option Operand :=
 match o.op with
 | .next x false=>some x
 | _=>none
noncomputable def kA(h:Heap)(x:AV)(K:AV→Heap→Option R):Option R :=
 match x with
 | .bF id=>match h.get id with
  | some (.own (.iter kk vk) p)=>cond p.2.isEmpty (K (.mJ [.bool false]) h) (rl p.2.length fun j=>(p.2[j]?).bind fun c=>K (.mJ [.bool true,b8 kk c.1,b8 vk c.2]) (h.set id (.own (.iter kk vk) (some c,p.2.eraseIdx j))))
  | _=>none
 | _=>none
def isNil(o:Oper):Option (Operand×Bool) :=
 match o.op with
 | .binOp op t x (.const v) _=>match op,P.underlying t,uP v with
  | .eql,some (.slice _),.fB=>some (x,true)
  | .neq,some (.slice _),.fB=>some (x,false)
  | _,_,_=>none
 | _=>none
noncomputable def tp(h:Heap)(x:AV)(want:Bool)(K:AV→Option R):Option R :=
 match cC h x with
 | .fB=>K (.bool want)
 | .sl _ _ xs=>cond xs.isEmpty (rl 2 fun j=>K (.bool ((j==0)==want))) (K (.bool (!want)))
 | _=>none
noncomputable def bz(rid:Nat)(draw:Bool)(ops:Array Oper)(b:Array Nat):List (Nat×Oper)→St→(St→Option R)→Option R
 | [],st,K=>K st
 | (i,o)::r,st,K =>
  let run (st:St):Option R :=
   match (if draw then none else nN P (opId rid i) st o) with
   | some dS=>bz rid draw ops b r dS K
   | none =>
   match (if draw then none else tn o) with
   | some x=>kA st.heap (ρ st.tmps x) fun v h=>bz rid draw ops b r (({ st with heap:=h }:St).put o.dst v) K
   | none =>
   match (if draw then none else isNil P o) with
   | some (x,want)=>tp st.heap (ρ st.tmps x) want fun v=>bz rid draw ops b r (st.put o.dst v) K
   | none =>
   if draw then
    cI P Eqs Sg F (opId rid i) (gk (ahead rid (b.getD i 0) st.heap) (gm ops b i st.tmps o)) st.tmps o fun e =>
     if fZ true rid ops b i (b.getD i 0) (gh (gm ops b i st.tmps o) (ahead rid (b.getD i 0) st.heap) e)&&mq (gm ops b i st.tmps o) e then
      bz rid draw ops b r ({ st with heap:=match gh (gm ops b i st.tmps o) (ahead rid (b.getD i 0) st.heap) e with | .wr _ h=>h | e=>e.h st.heap }.put o.dst e.v) K else none
   else
    cI P Eqs Sg F (opId rid i) st.heap st.tmps o fun e =>
     if fZ false rid ops b i (2 ^ i - 1) e then bz rid draw ops b r ({ st with heap:=match e with | .wr _ h=>h | e=>e.h st.heap }.put o.dst e.v) K else none
  let skip (st:St):Option R:=bz rid draw ops b r (st.put o.dst (.mJ [])) K
  match o.guard with
  | none=>run st
  | some (j,want) =>
   match (ops[j]?).bind (·.dst) with
   | none=>none
   | some d =>
    match look st.tmps d with
    | .bool t=>cond t (if want then run (st.put (some d) (.bool true)) else skip (st.put (some d) (.bool true))) (if want then skip (st.put (some d) (.bool false)) else run (st.put (some d) (.bool false)))
    | .mJ _=>skip st
    | _=>none
end
mutual
def bA(rid:Nat):AV→AV
 | .ref id s i off=>if id / 32768=rid+1 then .no else .ref id s i off
 | .bF id=>if id / 32768=rid+1 then .no else .bF id
 | .fn f cap=>.fn f (kY rid cap)
 | .agg cs=>.agg (kY rid cs)
 | .mJ vs=>.mJ (kY rid vs)
 | .no=>.no
 | .bool b=>.bool b
 | .int k n=>.int k n
 | .str s=>.str s
 | .kU=>.kU
 | .fB=>.fB
 | .fp k x off=>.fp k x off
 | .sl ex k xs=>.sl ex k xs
 | .mp kk vk es=>.mp kk vk es
def kY(rid:Nat):List AV→List AV
 | []=>[]
 | v::r=>bA rid v::kY rid r
end
def yy(rid:Nat):Ob→Ob
 | .box ty cs=>.box ty (kY rid cs)
 | .own ok x=>.own ok x
def kr(draw:Bool)(rid:Nat)(ops:Array Oper)(st:St):St :=
 if draw || ops.any (makes ·.op) then
  { tmps:=st.tmps.map fun p=>(p.1,bA rid p.2),heap:=(st.heap.filter fun p=>p.1 / 32768 != rid+1).map fun p=>(p.1,yy rid p.2) }
 else st
section
variable (P:Program) (Eqs:TypeId→Option K) (Sg:FuncId→Option aJ) (F:(f:FuncId)→(g:aJ)→g.A→Option g.B)
variable {R:Type}
noncomputable def gT(n rid:Nat)(ops:Array Oper)(draw:Bool)(st:St)(K:St→Option R):Option R :=
 let b:=if draw then Region.before ops else #[]
 if (ops.all fun o=>gS n o)&&(!draw || (tj ops b&&(yw ops b&&b4 (ops.toList.filterMap (·.dst)))))&&decide (ops.size≤128) then
  bz P Eqs Sg F rid draw ops b (ops.toList.zipIdx.map fun p=>(p.2,p.1)) (kr draw rid ops st) K
 else none
inductive Src where
 | slot (s:Nat)
 | cap (s j:Nat)
structure Shape where
 w9:List (Nat×K)
 boxes:List (Src×Nat×BK)
 rows:List (Nat×Nat×OK)
 fns:List (Nat×FuncId×List Nat)
def Shape.ks(sh:Shape):List K:=sh.w9.map (·.2)
def Shape.bs(sh:Shape):List BK:=sh.boxes.map (·.2.2)
def HS:List OK→Type
 | []=>Unit
 | k::r=>k.T×HS r
abbrev Shape.T(sh:Shape):Type:=EP sh.ks×uQ sh.bs×HS (sh.rows.map (·.2.2))
def pC(st:St):(l:List (Nat×K))→Option (EP (l.map (·.2)))
 | []=>some ()
 | (s,k)::r =>
  match fm k st.heap (look st.tmps s),pC st r with
  | some x,some y=>some (x,y)
  | _,_=>none
def Su(st:St):Src→Option Nat
 | .slot s=>B8 (look st.tmps s)
 | .cap s j=>match look st.tmps s with
  | .fn _ cap=>match cap[j]? with
   | some v=>B8 v
   | none=>none
  | _=>none
def Dq(st:St):List (Src×Nat×BK)→Option (List Nat)
 | []=>some []
 | p::r=>match Su st p.1,Dq st r with
  | some i,some is=>some (i::is)
  | _,_=>none
def mr(st:St):(l:List (Nat×Nat×OK))→Option (HS (l.map (·.2.2)))
 | []=>some ()
 | (s,_,ok)::r =>
  match dE st.heap ok (look st.tmps s),mr st r with
  | some x,some y=>some (x,y)
  | _,_=>none
def xt(st:St)(sh:Shape)(ids:List Nat):List AV:=(sh.w9.flatMap fun p=>(look st.tmps p.1).cells)++fC sh.bs st.heap ids
def EU(st:St)(sh:Shape)(ids:List Nat):List Nat:=cQ sh.bs st.heap ids++sh.rows.flatMap fun p=>nL (look st.tmps p.1)
def mR(st:St)(m:Nat):List (Nat×Nat×OK)→Bool
 | []=>false
 | (s,id,_)::r=>(id==m&&(match look st.tmps s with | .bF i=>i==m | _=>false)) || mR st m r
def qB(sh:Shape):List Nat:=bV sh.bs (sh.boxes.map (·.2.1)) 9000++sh.rows.map (·.2.1)
def JD(st:St)(ids:List (Nat×Nat)):List (Nat×FuncId×List Nat)→Bool
 | []=>true
 | (s,f,Bz)::r =>
  (match look st.tmps s with
  | .fn f' cap=>decide (f'=f)&&(match ji cap with | some is=>decide (is.map (fun i=>(ids.find? (·.1==i)).map (·.2))=Bz.map some) | none=>false)
  | _=>false)&&JD st ids r
def cx(sh:Shape)(st:St):Option sh.T :=
 match Dq st sh.boxes with
 | none=>none
 | some ids =>
  match pC st sh.w9,cP sh.bs st.heap ids,mr st sh.rows,uU (EU st sh ids) (xt st sh ids)&&(b4 (qB sh)&&((qB sh).all (fun m=>decide (2000≤m) || ((ids.zip (sh.boxes.map (·.2.1))).any fun p=>p.1==m&&p.2==m) || mR st m sh.rows)&&JD st (ids.zip (sh.boxes.map (·.2.1))) sh.fns)) with
  | some x,some y,some z,true=>some (x,y,z)
  | _,_,_,_=>none
def pG:(l:List (Nat×K))→EP (l.map (·.2))→List (Nat×AV)
 | [],_=>[]
 | (s,k)::r,x=>(s,b8 k x.1)::pG r x.2
def jl:List (Src×Nat×BK)→List (Nat×AV)
 | []=>[]
 | (.slot s,id,_)::r=>(s,.ref id 0 0 0)::jl r
 | (.cap _ _,_,_)::r=>jl r
def xu(l:List (Nat×FuncId×List Nat)):List (Nat×AV):=l.map fun p=>(p.1,.fn p.2.1 (p.2.2.map fun i=>.ref i 0 0 0))
def pH:(l:List (Nat×Nat×OK))→HS (l.map (·.2.2))→Heap
 | [],_=>[]
 | (_,id,ok)::r,x=>(id,.own ok x.1)::pH r x.2
def ao(sh:Shape)(x:sh.T):St :=
  { tmps:=pG sh.w9 x.1++(jl sh.boxes++(xu sh.fns++sh.rows.map fun p=>(p.1,.bF p.2.1))),
    heap:=bp sh.bs (sh.boxes.map (·.2.1)) 9000 x.2.1++pH sh.rows x.2.2 }
def qC:Code→Nat
 | .region id _ _=>id
 | .seq a _=>qC a
 | .block _ a=>qC a
 | .loop a=>qC a
 | .scope a=>qC a
 | _=>0
noncomputable def ax(n:Nat)(ann:Nat→Option Shape)(J:(sh:Shape)→List Item→sh.T→Option R)(ret:St→Option R):Nat→List Item→St→Option R
 | 0,_,_=>none
 | _+1,[],st=>ret st
 | m+1,.inBlock _::k,st=>ax n ann J ret m k st
 | m+1,.inScope _::k,st=>ax n ann J ret m k st
 | _+1,.inLoop c::k,st =>
  match ann (qC c) with
  | none=>none
  | some sh=>match cx sh st with
   | some x=>J sh (.inLoop c::k) x
   | none=>none
 | m+1,.code c::k,st =>
  match c with
  | .skip | .label _=>ax n ann J ret m k st
  | .seq a b=>ax n ann J ret m (.code a::.code b::k) st
  | .cond c a b=>match ρ st.tmps c with
   | .bool t=>cond t (ax n ann J ret m (.code a::k) st) (ax n ann J ret m (.code b::k) st)
   | _=>none
  | .block id c=>ax n ann J ret m (.code c::.inBlock id::k) st
  | .scope c=>ax n ann J ret m (.code c::.inScope c::k) st
  | .loop c=>ax n ann J ret m (.inLoop c::k) st
  | .exit id=>match exitTo id k with
   | some k'=>ax n ann J ret m k' st
   | none=>none
  | .ret=>ret st
  | .region id ops draw=>gT P Eqs Sg F n id ops draw st fun dS=>ax n ann J ret m k dS
  | _=>none
 | _,_,_=>none
def wi(h:Heap)(tmps:List (Nat×AV))(rvs:List ResultVar):Option (List AV) :=
 match rvs with
 | []=>some []
 | .tmp t::r=>match wi h tmps r with
  | some vs=>some (look tmps t::vs)
  | none=>none
 | .cell a t::r=>match look tmps a with
  | .ref id _ 0 off=>(match h.get id with
   | some (.box _ cs)=>(match dN P t (cs.drop off),wi h tmps r with
    | some v,some vs=>some (v::vs)
    | _,_=>none)
   | _=>none)
  | _=>none
def pI(g:aJ)(fn:Func)(st:St):Option g.B :=
 match wi P st.heap st.tmps fn.results.toList with
 | none=>none
 | some vs =>
  match bG g.bs g.rs st.heap (aL g.bs.length) vs,cP g.bs st.heap (aL g.bs.length),
   uU (cQ g.bs st.heap (aL g.bs.length)++dz g.rs vs) (fD g.rs vs++fC g.bs st.heap (aL g.bs.length))&&b4 (pf g) with
  | some x,some y,true=>some (x,y)
  | _,_,_=>none
def entry(g:aJ)(x:g.A):St :=
 { tmps:=aN g.ps (aL g.bs.length) 0 x.1,heap:=bp g.bs (aL g.bs.length) 2000 x.2 }
def fuel:Nat:=100000
end
section
variable (P:Program) (Eqs:TypeId→Option K) (Sg:FuncId→Option aJ) (An:FuncId→Nat→Option Shape) (G:(f:FuncId)→(g:aJ)→Option (g.A→Option g.B))
variable (F:(f:FuncId)→(g:aJ)→g.A→Option g.B)
def body(f:FuncId):Option (Func×Code):=(P.funcs[f]?).bind fun fn=>fn.body.map fun c=>(fn,c)
noncomputable def lO(f:FuncId)(g:aJ)(fn:Func):Nat→(sh:Shape)→List Item→sh.T→Option g.B
 | 0,_,_,_=>none
 | n+1,sh,.inLoop c::k,x=>ax P Eqs Sg F fn.ntmps (An f) (lO f g fn n) (pI P g fn) fuel (.code c::.inLoop c::k) (ao sh x)
 | _+1,_,_,_=>none
noncomputable def HT(f:FuncId)(g:aJ)(n:Nat)(x:g.A):Option g.B :=
 match body P (f % 1000) with
 | none=>none
 | some (fn,c)=>if decide (g.ps.length≤fn.ntmps)&&decide (g.bs.length≤8) then ax P Eqs Sg F fn.ntmps (An f) (lO P Eqs Sg An F f g fn n) (pI P g fn) fuel [.code c] (entry g x) else none
end
section
variable (P:Program) (Eqs:TypeId→Option K) (Sg:FuncId→Option aJ) (An:FuncId→Nat→Option Shape) (G:(f:FuncId)→(g:aJ)→Option (g.A→Option g.B))
noncomputable def Fn:Nat→(f:FuncId)→(g:aJ)→g.A→Option g.B
 | 0,f,g,x=>match G f g with
  | some u=>u x
  | none=>none
 | m+1,f,g,x=>match G f g with
  | some u=>u x
  | none=>HT P Eqs Sg An (Fn m) f g m x
end
end Go.Vs
namespace Go.Vs
def pJ:Code→List Item→List (List Item)
 | .seq a b,k=>pJ a (.code b::k)++pJ b k
 | .cond _ a b,k=>pJ a k++pJ b k
 | .block id c,k=>pJ c (.inBlock id::k)
 | .scope c,k=>pJ c (.inScope c::k)
 | .loop c,k=>(.inLoop c::k)::pJ c (.inLoop c::k)
 | _,_=>[]
def aP(P:Program)(f:FuncId)(j:Nat):List Item :=
 match body P f with
 | some (_,c)=>(pJ c []).getD j []
 | none=>[]
def round:List Item→List Item
 | .inLoop c::k=>.code c::.inLoop c::k
 | k=>k
end Go.Vs
namespace Go.Vs
theorem tq(a:Addr)(n m:Nat):(a.add n).add m=a.add (n+m):=by
 unfold Addr.add
 by_cases h1:n=0<;>by_cases h2:m=0<;>simp [h1,h2,Nat.add_assoc]
theorem B9(a:Addr):a.add 0=a:=by simp [Addr.add]
theorem cq(a:Addr)(n:Nat):(a.add n).block=a.block:=by unfold Addr.add;split<;>rfl
theorem cf(g i n:Nat):(⟨g,i,none⟩:Addr).add n=⟨g,i+n,none⟩:=by unfold Addr.add;split<;>simp_all
def cj(Z:Nat→Prop)(w w':World):Prop:=∀b,Z b→w'.heap[b]? = w.heap[b]?
theorem cj.refl(Z:Nat→Prop)(w:World):cj Z w w:=fun _ _=>rfl
theorem cj.trans{Z:Nat→Prop}{w w1 w2:World}(h:cj Z w w1)(k:cj Z w1 w2):cj Z w w2:=fun b hb=>(k b hb).trans (h b hb)
theorem cj.cell{Z:Nat→Prop}{w w':World}(h:cj Z w w'){a:Addr}(ha:Z a.block):w'.cell? a=w.cell? a:=World.cell?_of_block (h _ ha)
def aa8{α:Type}(r:α→List Value→Prop)(Z:Nat→Prop)(sz:Nat)(w:World)(xs:List α)(v:Value):Prop :=
 ∃A c,v=.slice A xs.length c∧xs.length≤c∧(A=none→c=0) ∧
  ∀(i:Nat) (x:α),xs[i]? = some x→∃a us,A=some a∧Z a.block∧r x us∧∀(j:Nat) u,us[j]? = some u→w.cell? (a.add (i * sz+j))=some u
def Dt{α β:Type}(ra:α→List Value→Prop)(rb:β→List Value→Prop)(pa pb:Bool)(es:List (α×β))(bQ:List MapEntry):Prop :=
 es.length=bQ.length∧∀(i:Nat) (x:α×β) (e:MapEntry),es[i]? = some x→bQ[i]? = some e →
  (ra x.1 e.key.cells.toList∧(pa=true→∃vs,e.key=.agg vs)∧(pa=false→e.key.cells=#[e.key]))∧rb x.2 e.val.cells.toList∧(pb=true→∃vs,e.val=.agg vs)∧(pb=false→e.val.cells=#[e.val])
def aE(Z:Nat→Prop)(w:World):(k:K)→k.T→List Value→Prop
 | .int ik,n,vs=>vs=[.int ik n]
 | .bool,b,vs=>vs=[.bool b]
 | .str,s,vs=>vs=[.string s]
 | .sl k,xs,vs=>∃v,vs=[v]∧aa8 (aE Z w k) Z k.sz w xs v
 | .pair a b,x,vs=>∃us ws,vs=us++ws∧aE Z w a x.1 us∧aE Z w b x.2 ws
 | .one k,x,vs=>aE Z w k x vs
 | .mp kk vk,es,vs=>∃A,vs=[.map A]∧((A=none∧es=[])∨∃m bQ clock,A=some m∧Z m∧w.heap[m]? = some (.map bQ clock)∧Dt (aE Z w kk) (aE Z w vk) kk.isAgg vk.isAgg es bQ.toList)
variable {Z Z':Nat→Prop} {w w':World}
theorem aE.len:∀{k:K} {x:k.T} {vs:List Value},aE Z w k x vs→vs.length=k.sz
 | .int _,_,_,h=>by simp only [aE] at h;subst h;rfl
 | .bool,_,_,h=>by simp only [aE] at h;subst h;rfl
 | .str,_,_,h=>by simp only [aE] at h;subst h;rfl
 | .sl _,_,_,h=>by simp only [aE] at h;obtain ⟨v,rfl,_⟩:=h;rfl
 | .pair a b,x,_,h=>by
  simp only [aE] at h
  obtain ⟨us,ws,rfl,h1,h2⟩:=h
  rw [List.length_append,aE.len h1,aE.len h2];rfl
 | .one k,x,_,h=>by
  simp only [aE] at h
  exact aE.len (k:=k) h
 | .mp _ _,_,_,h=>by simp only [aE] at h;obtain ⟨A,rfl,_⟩:=h;rfl
theorem K.gV:∀k:K,0<k.sz
 | .int _=>Nat.one_pos
 | .bool=>Nat.one_pos
 | .str=>Nat.one_pos
 | .sl _=>Nat.one_pos
 | .pair a _=>Nat.lt_of_lt_of_le (K.gV a) (Nat.le_add_right _ _)
 | .one k=>K.gV k
 | .mp _ _=>Nat.one_pos
theorem aE.one:∀{k:K} {x:k.T} {vs:List Value},aE Z w k x vs→∀u∈vs,u.oneCell'=true
 | .int _,_,_,h=>by simp only [aE] at h;subst h;simp [Value.oneCell']
 | .bool,_,_,h=>by simp only [aE] at h;subst h;simp [Value.oneCell']
 | .str,_,_,h=>by simp only [aE] at h;subst h;simp [Value.oneCell']
 | .sl _,_,_,h=>by simp only [aE] at h;obtain ⟨v,rfl,A,c,rfl,_⟩:=h;simp [Value.oneCell']
 | .pair a b,x,_,h=>by
  simp only [aE] at h
  obtain ⟨us,ws,rfl,h1,h2⟩:=h
  intro u hu
  rcases List.mem_append.1 hu with hu | hu
  ·exact aE.one h1 u hu
  ·exact aE.one h2 u hu
 | .one k,x,_,h=>by
  simp only [aE] at h
  exact aE.one (k:=k) h
 | .mp _ _,_,_,h=>by simp only [aE] at h;obtain ⟨A,rfl,_⟩:=h;simp [Value.oneCell']
theorem Dt.imp{α β:Type}{ra ra':α→List Value→Prop}{rb rb':β→List Value→Prop}{pa pb:Bool}(ha:∀x vs,ra x vs→ra' x vs)(hb:∀x vs,rb x vs→rb' x vs){es:List (α×β)}{bQ:List MapEntry}(h:Dt ra rb pa pb es bQ):Dt ra' rb' pa pb es bQ :=
 ⟨h.1,fun i x e h1 h2=>by obtain ⟨⟨a,b⟩,c,d⟩:=h.2 i x e h1 h2;exact ⟨⟨ha _ _ a,b⟩,hb _ _ c,d⟩⟩
theorem aE.mono(hz:∀b,Z b→Z' b)(hs:cj Z w w'):∀{k:K} {x:k.T} {vs:List Value},aE Z w k x vs→aE Z' w' k x vs
 | .int _,_,_,h=>h
 | .bool,_,_,h=>h
 | .str,_,_,h=>h
 | .sl k,xs,_,h=>by
  simp only [aE] at h ⊢
  obtain ⟨v,rfl,A,c,rfl,hl,hn,he⟩:=h
  refine ⟨_,rfl,A,c,rfl,hl,hn,fun i x hx => ?_⟩
  obtain ⟨a,us,ha,Wl,hr,hc⟩:=he i x hx
  refine ⟨a,us,ha,hz _ Wl,aE.mono hz hs hr,fun j u hu => ?_⟩
  rw [hs.cell (by rw [cq];exact Wl)]
  exact hc j u hu
 | .pair a b,x,_,h=>by
  simp only [aE] at h ⊢
  obtain ⟨us,ws,rfl,h1,h2⟩:=h
  exact ⟨us,ws,rfl,aE.mono hz hs h1,aE.mono hz hs h2⟩
 | .one k,x,_,h=>by
  simp only [aE] at h ⊢
  exact aE.mono hz hs (k:=k) h
 | .mp kk vk,es,_,h=>by
  simp only [aE] at h ⊢
  obtain ⟨A,rfl,h⟩:=h
  refine ⟨A,rfl,h.imp (fun h=>h) fun ⟨m,bQ,clock,h1,h2,h3,h4⟩=>⟨m,bQ,clock,h1,hz _ h2,(hs m h2).trans h3,h4.imp (fun _ _ h=>aE.mono hz hs h) (fun _ _ h=>aE.mono hz hs h)⟩⟩
def QK:Value→Nat
 | .pointer (some a)=>a.block
 | .slice (some a) _ _=>a.block
 | _=>0
def ob:Value→Option Nat
 | .pointer (some a)=>some a.block
 | .slice (some a) _ c=>if c=0 then none else some a.block
 | .map (some m)=>some m
 | _=>none
mutual
def av(Z:Nat→Prop)(ψ:Nat→Value)(h:Nat→Option Ob)(w:World):AV→Value→Prop
 | .no,_=>True
 | .bool b,v=>v=.bool b
 | .int k n,v=>v=.int k n
 | .str s,v=>v=.string s
 | .kU,v=>v=.pointer none
 | .fB,v=>v=.slice none 0 0
 | .ref id s i off,v=>∃a,v=.pointer (some a)∧(h id≠none→a=⟨QK (ψ id),i * s+off,none⟩)
 | .fp k x off,v=>∃a us,v=.pointer (some a)∧Z a.block∧aE Z w k x us∧∀(j:Nat) u,us[off+j]? = some u→w.cell? (a.add j)=some u
 | .sl ex k xs,v=>aE Z w (.sl k) xs [v]∧(ex=true→∃A c,v=.slice A c c)
 | .mp kk vk es,v=>aE Z w (.mp kk vk) es [v]
 | .bF id,v=>(v.cells=#[v]∧v.oneCell'=true)∧(h id≠none→v=ψ id)
 | .fn f cap,v=>∃vs,v=.func (.func f) #[] vs∧an Z ψ h w cap vs.toList
 | .agg cs,v=>∃vs,v=.agg vs∧an Z ψ h w cs vs.toList
 | .mJ cs,v=>∃vs,v=.tuple vs∧an Z ψ h w cs vs.toList
def an(Z:Nat→Prop)(ψ:Nat→Value)(h:Nat→Option Ob)(w:World):List AV→List Value→Prop
 | [],vs=>vs=[]
 | a::r,vs=>∃v us,vs=v::us∧av Z ψ h w a v∧an Z ψ h w r us
end
mutual
def aH(p:Nat→Prop):AV→Prop
 | .ref id _ _ _=>p id
 | .bF id=>p id
 | .fn _ cap=>aA p cap
 | .agg cs=>aA p cs
 | .mJ vs=>aA p vs
 | .no=>True
 | .bool _=>True
 | .int _ _=>True
 | .str _=>True
 | .kU=>True
 | .fB=>True
 | .fp _ _ _=>True
 | .sl _ _ _=>True
 | .mp _ _ _=>True
def aA(p:Nat→Prop):List AV→Prop
 | []=>True
 | v::r=>aH p v∧aA p r
end
section
variable {Z Z':Nat→Prop} {w w':World} {ψ ψ':Nat→Value} {h h':Nat→Option Ob} {p:Nat→Prop}
mutual
theorem av.move(hz:∀b,Z b→Z' b)(hs:cj Z w w')(hh:∀id,p id→h' id≠none→h id≠none∧ψ' id=ψ id):∀{a:AV} {v:Value},aH p a→av Z ψ h w a v→av Z' ψ' h' w' a v
 | .no,_,_,_=>by simp only [av]
 | .bool b,_,_,hr=>by simpa only [av] using hr
 | .int k n,_,_,hr=>by simpa only [av] using hr
 | .str s,_,_,hr=>by simpa only [av] using hr
 | .kU,_,_,hr=>by simpa only [av] using hr
 | .fB,_,_,hr=>by simpa only [av] using hr
 | .ref id s i off,_,hm,hr=>by
  simp only [av,aH] at hr hm ⊢
  obtain ⟨a,rfl,ha⟩:=hr
  refine ⟨a,rfl,fun hn => ?_⟩
  obtain ⟨h1,h2⟩:=hh id hm hn
  rw [h2];exact ha h1
 | .fp k x off,_,_,hr=>by
  simp only [av] at hr ⊢
  obtain ⟨a,us,rfl,Wl,hk,hc⟩:=hr
  refine ⟨a,us,rfl,hz _ Wl,hk.mono hz hs,fun j u hu => ?_⟩
  rw [hs.cell (by rw [cq];exact Wl)]
  exact hc j u hu
 | .sl ex k xs,_,_,hr=>by
  simp only [av] at hr ⊢
  exact ⟨aE.mono hz hs hr.1,hr.2⟩
 | .mp kk vk es,_,_,hr=>by
  simp only [av] at hr ⊢
  exact aE.mono hz hs hr
 | .bF id,_,hm,hr=>by
  simp only [av,aH] at hr hm ⊢
  refine ⟨hr.1,fun hn => ?_⟩
  obtain ⟨h1,h2⟩:=hh id hm hn
  rw [h2];exact hr.2 h1
 | .fn f cap,_,hm,hr=>by
  simp only [av,aH] at hr hm ⊢
  obtain ⟨vs,rfl,hl⟩:=hr
  exact ⟨vs,rfl,an.move hz hs hh hm hl⟩
 | .agg cs,_,hm,hr=>by
  simp only [av,aH] at hr hm ⊢
  obtain ⟨vs,rfl,hl⟩:=hr
  exact ⟨vs,rfl,an.move hz hs hh hm hl⟩
 | .mJ cs,_,hm,hr=>by
  simp only [av,aH] at hr hm ⊢
  obtain ⟨vs,rfl,hl⟩:=hr
  exact ⟨vs,rfl,an.move hz hs hh hm hl⟩
theorem an.move(hz:∀b,Z b→Z' b)(hs:cj Z w w')(hh:∀id,p id→h' id≠none→h id≠none∧ψ' id=ψ id):∀{a:List AV} {v:List Value},aA p a→an Z ψ h w a v→an Z' ψ' h' w' a v
 | [],_,_,hr=>by simpa only [an] using hr
 | a::r,_,hm,hr=>by
  simp only [an,aA] at hr hm ⊢
  obtain ⟨v,us,rfl,h1,h2⟩:=hr
  exact ⟨v,us,rfl,av.move hz hs hh hm.1 h1,an.move hz hs hh hm.2 h2⟩
end
mutual
theorem aH.top:∀a:AV,aH (fun _=>True) a
 | .no=>by simp only [aH]
 | .bool b=>by simp only [aH]
 | .int k n=>by simp only [aH]
 | .str s=>by simp only [aH]
 | .kU=>by simp only [aH]
 | .fB=>by simp only [aH]
 | .ref id s i off=>by simp only [aH]
 | .fp k x off=>by simp only [aH]
 | .sl ex k xs=>by simp only [aH]
 | .mp kk vk es=>by simp only [aH]
 | .bF id=>by simp only [aH]
 | .fn f cap=>by simp only [aH];exact aA.top cap
 | .agg cs=>by simp only [aH];exact aA.top cs
 | .mJ cs=>by simp only [aH];exact aA.top cs
theorem aA.top:∀a:List AV,aA (fun _=>True) a
 | []=>by simp only [aA]
 | a::r=>by simp only [aA];exact ⟨aH.top a,aA.top r⟩
end
theorem av.less(hz:∀b,Z b→Z' b)(hs:cj Z w w')(hh:∀id,h' id≠none→h id≠none∧ψ' id=ψ id){a:AV}{v:Value}(hr:av Z ψ h w a v):av Z' ψ' h' w' a v :=
 av.move (p:=fun _=>True) hz hs (fun id _ hn=>hh id hn) (aH.top a) hr
theorem an.less(hz:∀b,Z b→Z' b)(hs:cj Z w w')(hh:∀id,h' id≠none→h id≠none∧ψ' id=ψ id){a:List AV}{v:List Value}(hr:an Z ψ h w a v):an Z' ψ' h' w' a v :=
 an.move (p:=fun _=>True) hz hs (fun id _ hn=>hh id hn) (aA.top a) hr
theorem an.length:∀{a:List AV} {v:List Value},an Z ψ h w a v→a.length=v.length
 | [],_,hr=>by simp only [an] at hr;subst hr;rfl
 | a::r,_,hr=>by
  simp only [an] at hr
  obtain ⟨v,us,rfl,_,h2⟩:=hr
  simp [an.length h2]
theorem an.get:∀{a:List AV} {v:List Value} (i:Nat) {x:AV},an Z ψ h w a v→a[i]? = some x→∃u,v[i]? = some u∧av Z ψ h w x u
 | [],_,i,x,_,hx=>by simp at hx
 | a::r,_,0,x,hr,hx=>by
  simp only [an] at hr
  obtain ⟨v,us,rfl,h1,h2⟩:=hr
  simp only [List.getElem?_cons_zero,Option.some.injEq] at hx;subst hx
  exact ⟨v,rfl,h1⟩
 | a::r,_,i+1,x,hr,hx=>by
  simp only [an] at hr
  obtain ⟨v,us,rfl,h1,h2⟩:=hr
  obtain ⟨u,hu,hr⟩:=an.get i h2 (by simpa using hx)
  exact ⟨u,by simpa using hu,hr⟩
theorem an.append:∀{a b:List AV} {v u:List Value},an Z ψ h w a v→an Z ψ h w b u→an Z ψ h w (a++b) (v++u)
 | [],b,_,u,hr,hb=>by simp only [an] at hr;subst hr;exact hb
 | a::r,b,_,u,hr,hb=>by
  simp only [an] at hr
  obtain ⟨v,us,rfl,h1,h2⟩:=hr
  simp only [List.cons_append,an]
  exact ⟨v,us++u,rfl,h1,an.append h2 hb⟩
theorem an.split:∀{a b:List AV} {v:List Value},an Z ψ h w (a++b) v→∃us ws,v=us++ws∧an Z ψ h w a us∧an Z ψ h w b ws
 | [],b,v,hr=>⟨[],v,rfl,by simp only [an],hr⟩
 | a::r,b,v,hr=>by
  simp only [List.cons_append,an] at hr
  obtain ⟨x,us,rfl,h1,h2⟩:=hr
  obtain ⟨iz,ws,rfl,h3,h4⟩:=an.split h2
  exact ⟨x::iz,ws,rfl,by simp only [an];exact ⟨x,iz,rfl,h1,h3⟩,h4⟩
theorem an.drop(n:Nat){a:List AV}{v:List Value}(hr:an Z ψ h w a v):an Z ψ h w (a.drop n) (v.drop n):=by
 by_cases hn:n≤a.length
 ·have qD:an Z ψ h w (a.take n++a.drop n) v:=by rw [List.take_append_drop];exact hr
  obtain ⟨us,ws,rfl,h1,h2⟩:=an.split qD
  have hl:=h1.length
  rw [List.length_take,Nat.min_eq_left hn] at hl
  rw [hl,List.drop_left];rw [←hl];exact h2
 ·have:=hr.length
  rw [List.drop_eq_nil_of_le (by omega),List.drop_eq_nil_of_le (by omega)];simp only [an]
theorem an.take(n:Nat){a:List AV}{v:List Value}(hr:an Z ψ h w a v):an Z ψ h w (a.take n) (v.take n):=by
 by_cases hn:n≤a.length
 ·have qD:an Z ψ h w (a.take n++a.drop n) v:=by rw [List.take_append_drop];exact hr
  obtain ⟨us,ws,rfl,h1,h2⟩:=an.split qD
  have hl:=h1.length
  rw [List.length_take,Nat.min_eq_left hn] at hl
  conv=>rhs;rw [hl,List.take_left]
  exact h1
 ·have:=hr.length
  rw [List.take_of_length_le (by omega),List.take_of_length_le (by omega)];exact hr
theorem an.set:∀{a:List AV} {v:List Value} (i:Nat) {x:AV} {u:Value},an Z ψ h w a v→av Z ψ h w x u→an Z ψ h w (a.set i x) (v.set i u)
 | [],_,i,x,u,hr,_=>by simp only [an] at hr;subst hr;simp only [List.set_nil,an]
 | a::r,_,0,x,u,hr,hx=>by
  simp only [an] at hr
  obtain ⟨v,us,rfl,h1,h2⟩:=hr
  simp only [List.set_cons_zero,an];exact ⟨u,us,rfl,hx,h2⟩
 | a::r,_,i+1,x,u,hr,hx=>by
  simp only [an] at hr
  obtain ⟨v,us,rfl,h1,h2⟩:=hr
  simp only [List.set_cons_succ,an];exact ⟨v,_,rfl,h1,an.set i h2 hx⟩
theorem gM:∀{k:K} {x:k.T} {vs:List Value},aE Z w k x vs→an Z ψ h w (enc k x) vs
 | .int _,_,_,hr=>by simp only [aE] at hr;subst hr;simp [enc,an,av]
 | .bool,_,_,hr=>by simp only [aE] at hr;subst hr;simp [enc,an,av]
 | .str,_,_,hr=>by simp only [aE] at hr;subst hr;simp [enc,an,av]
 | .sl k,xs,_,hr=>by
  have qD:=hr
  simp only [aE] at qD
  obtain ⟨v,rfl,_⟩:=qD
  simp only [enc,an,av]
  exact ⟨v,[],rfl,⟨hr,by simp⟩,rfl⟩
 | .pair a b,x,_,hr=>by
  simp only [aE] at hr
  obtain ⟨us,ws,rfl,h1,h2⟩:=hr
  simp only [enc]
  exact an.append (gM h1) (gM h2)
 | .one k,x,_,hr=>by
  simp only [aE] at hr
  simp only [enc]
  exact gM (k:=k) hr
 | .mp kk vk,es,_,hr=>by
  have qD:=hr
  simp only [aE] at qD
  obtain ⟨A,rfl,_⟩:=qD
  simp only [enc,an,av]
  exact ⟨_,[],rfl,hr,rfl⟩
theorem MI{k:K}{v:Value}(hr:av Z ψ h w .fB v):aE Z w (.sl k) [] [v]:=by
 simp only [av] at hr
 subst hr
 simp only [aE]
 exact ⟨_,rfl,none,0,rfl,Nat.le_refl _,fun _=>rfl,fun i x hx=>by simp at hx⟩
theorem xw:∀{k:K} {cs:List AV} {x:k.T} {r:List AV} {vs:List Value},dec k cs=some (x,r)→an Z ψ h w cs vs→∃us ws,vs=us++ws∧aE Z w k x us∧an Z ψ h w r ws
 | .int ik,cs,x,r,vs,hd,hr=>by
  simp only [dec] at hd
  unfold Dk at hd
  split at hd
  ·split at hd
   ·rename_i he
    subst he
    cases hd
    simp only [an,av] at hr
    obtain ⟨v,us,rfl,rfl,h2⟩:=hr
    exact ⟨[_],us,rfl,by simp only [aE],h2⟩
   ·cases hd
  ·cases hd
 | .bool,cs,x,r,vs,hd,hr=>by
  simp only [dec] at hd
  unfold xq at hd
  split at hd
  ·cases hd
   simp only [an,av] at hr
   obtain ⟨v,us,rfl,rfl,h2⟩:=hr
   exact ⟨[_],us,rfl,by simp only [aE],h2⟩
  ·cases hd
 | .str,cs,x,r,vs,hd,hr=>by
  simp only [dec] at hd
  unfold Dl at hd
  split at hd
  ·cases hd
   simp only [an,av] at hr
   obtain ⟨v,us,rfl,rfl,h2⟩:=hr
   exact ⟨[_],us,rfl,by simp only [aE],h2⟩
  ·cases hd
 | .sl k,cs,x,r,vs,hd,hr=>by
  simp only [dec] at hd
  unfold Jy at hd
  split at hd
  ·split at hd
   ·rename_i he
    subst he
    cases hd
    simp only [an] at hr
    obtain ⟨v,us,rfl,h1,h2⟩:=hr
    simp only [av] at h1
    exact ⟨[_],us,rfl,h1.1,h2⟩
   ·cases hd
  ·cases hd
   simp only [an] at hr
   obtain ⟨v,us,rfl,h1,h2⟩:=hr
   exact ⟨[_],us,rfl,MI h1,h2⟩
  ·cases hd
 | .pair a b,cs,x,r,vs,hd,hr=>by
  simp only [dec] at hd
  split at hd
  ·rename_i x1 r1 h1
   split at hd
   ·rename_i y1 r2 h2
    cases hd
    obtain ⟨us,ws,rfl,k1,k2⟩:=xw h1 hr
    obtain ⟨iz,ws',rfl,k3,k4⟩:=xw h2 k2
    exact ⟨us++iz,ws',by rw [List.append_assoc],by simp only [aE];exact ⟨us,iz,rfl,k1,k3⟩,k4⟩
   ·cases hd
  ·cases hd
 | .one k,cs,x,r,vs,hd,hr=>by
  simp only [dec] at hd
  obtain ⟨us,ws,e,k1,k2⟩:=xw (k:=k) hd hr
  exact ⟨us,ws,e,by simp only [aE];exact k1,k2⟩
 | .mp kk vk,cs,x,r,vs,hd,hr=>by
  simp only [dec] at hd
  unfold Jz at hd
  split at hd
  ·split at hd
   ·rename_i he
    obtain ⟨rfl,rfl⟩:=he
    cases hd
    simp only [an] at hr
    obtain ⟨v,us,rfl,h1,h2⟩:=hr
    simp only [av] at h1
    exact ⟨[_],us,rfl,h1,h2⟩
   ·cases hd
  ·cases hd
theorem dt{k:K}{cs:List AV}{x:k.T}{vs:List Value}(hd:dI k cs=some x)(hr:an Z ψ h w cs vs):aE Z w k x vs:=by
 unfold dI at hd
 split at hd
 ·rename_i x' h1
  cases hd
  obtain ⟨us,ws,rfl,k1,k2⟩:=xw h1 hr
  simp only [an] at k2
  subst k2
  rw [List.append_nil];exact k1
 ·cases hd
theorem kZ{k:K}{x:k.T}{v:Value}(hr:aE Z w k x v.cells.toList)(hp:k.isAgg=true→∃vs,v=.agg vs)(hn:k.isAgg=false→v.cells=#[v]):av Z ψ h w (b8 k x) v:=by
 cases k with
 | int ik=>rw [hn rfl] at hr;simp only [aE] at hr;simp only [b8,av];simpa using hr
 | bool=>rw [hn rfl] at hr;simp only [aE] at hr;simp only [b8,av];simpa using hr
 | str=>rw [hn rfl] at hr;simp only [aE] at hr;simp only [b8,av];simpa using hr
 | sl k=>rw [hn rfl] at hr;simp only [b8,av];exact ⟨hr,by simp⟩
 | mp kk vk=>rw [hn rfl] at hr;simp only [b8,av];exact hr
 | pair a b =>
  obtain ⟨vs,rfl⟩:=hp rfl
  simp only [b8,av]
  exact ⟨vs,rfl,gM hr⟩
 | one k =>
  obtain ⟨vs,rfl⟩:=hp rfl
  simp only [b8,av]
  exact ⟨vs,rfl,gM hr⟩
end
end Go.Vs
namespace Go.Vs
theorem Heap.gW{n m:Nat}(bh:m≠n):∀h:Heap,(h.del n).get m=h.get m
 | []=>rfl
 | (i,o)::r=>by
  simp only [Heap.del]
  split
  ·rename_i hi
   rw [Heap.gW bh r]
   simp only [Heap.get]
   rw [if_neg (by omega)]
  ·simp only [Heap.get]
   split
   ·rfl
   ·exact Heap.gW bh r
theorem Heap.fS(n:Nat):∀h:Heap,(h.del n).get n=none
 | []=>rfl
 | (i,o)::r=>by
  simp only [Heap.del]
  split
  ·exact Heap.fS n r
  ·rename_i hi
   simp only [Heap.get]
   rw [if_neg hi];exact Heap.fS n r
theorem Heap.Du(h:Heap)(n:Nat)(o:Ob):(h.set n o).get n=some o:=by simp [Heap.set,Heap.get]
theorem Heap.HU{n m:Nat}(bh:m≠n)(h:Heap)(o:Ob):(h.set n o).get m=h.get m:=by
 simp only [Heap.set,Heap.get]
 rw [if_neg (by omega)]
 exact Heap.gW bh h
theorem Heap.tu{n m:Nat}{h:Heap}{o:Ob}(hg:(h.del n).get m=some o):h.get m=some o∧m≠n:=by
 by_cases bh:m=n
 ·subst bh;rw [Heap.fS] at hg;cases hg
 ·rw [Heap.gW bh] at hg;exact ⟨hg,bh⟩
theorem Heap.get_append(a b:Heap)(n:Nat):(a++b).get n=(match a.get n with | some o=>some o | none=>b.get n):=by
 induction a with
 | nil=>rfl
 | cons p r ih =>
  obtain ⟨i,o⟩:=p
  simp only [List.cons_append,Heap.get]
  split
  ·rfl
  ·exact ih
def mu(Z:Nat→Prop)(w:World)(k:K)(xs:List k.T)(vs:List Value):Prop :=
 ∀(i:Nat) (x:k.T),xs[i]? = some x→aE Z w k x ((vs.drop (i * k.sz)).take k.sz)
abbrev Hp:=Nat→Option Ob
def dm(w:World)(e:TypeId)(size:Nat)(v:Value)(n:Nat)(vs:List Value):Prop :=
  vs.length=n * size ∧
  ((n=0∧∃A,v=.slice A 0 0) ∨
   ∃g cap cur,v=.slice (some ⟨g,0,none⟩) n cap∧0<cap∧w.heap[g]? = some (.cells cur e (0,0))∧n≤cap∧cap≤maxLen∧cur.size=cap * size∧cur.toList.take (n * size)=vs)
theorem dm.of{w:World}{base e size n:Nat}{v:Value}{vs:List Value}(h:w.ownsRow base e size v n vs):dm w e size v n vs:=by
 obtain ⟨h1,h2⟩:=h
 refine ⟨h1,?_⟩
 rcases h2 with ⟨rfl,h2⟩ | ⟨g,cap,cur,rfl,_,h3,h4,h5,h6,h7⟩
 ·exact .inl ⟨h2,none,rfl⟩
 ·by_cases hc:cap=0
  ·subst hc
   have:n=0:=by omega
   subst this
   exact .inl ⟨rfl,_,rfl⟩
  ·exact .inr ⟨g,cap,cur,rfl,by omega,h3,h4,h5,h6,h7⟩
theorem dm.slice{w:World}{e size n:Nat}{v:Value}{vs:List Value}(h:dm w e size v n vs):∃A c,v=.slice A n c:=by
 rcases h.2 with ⟨h0,A,rfl⟩ | ⟨g,cap,cur,rfl,_⟩
 ·subst h0;exact ⟨A,0,rfl⟩
 ·exact ⟨_,_,rfl⟩
theorem dm.one{w:World}{e size n:Nat}{v:Value}{vs:List Value}(h:dm w e size v n vs):v.cells=#[v]∧v.oneCell'=true:=by
 obtain ⟨A,c,rfl⟩:=h.slice
 exact ⟨rfl,by simp [Value.oneCell']⟩
theorem dm.kept{w w':World}{e size n:Nat}{v:Value}{vs:List Value}(ho:dm w e size v n vs)(hk:∀g,ob v=some g→w'.heap[g]? = w.heap[g]?):dm w' e size v n vs:=by
 obtain ⟨h1,h2⟩:=ho
 refine ⟨h1,?_⟩
 rcases h2 with h2 | ⟨g,cap,cur,rfl,hc,hh,r⟩
 ·exact .inl h2
 ·exact .inr ⟨g,cap,cur,rfl,hc,(hk g (by simp only [ob];rw [if_neg (by omega)])).trans hh,r⟩
def jf(Z:Nat→Prop)(w:World):(ok:OK)→Value→ok.T→Prop
 | .row ty k,v,xs=>∃vs,dm w ty k.sz v xs.length vs∧mu Z w k xs vs
 | .map kk vk,v,es=>∃m bQ clock,v=.map (some m)∧w.heap[m]? = some (.map bQ clock)∧Dt (aE Z w kk) (aE Z w vk) kk.isAgg vk.isAgg es bQ.toList∧bQ.toList.Pairwise (fun a b=>a.born≠b.born)∧∀e∈bQ.toList,e.born<clock
 | .iter kk vk,v,x=>∃r m since seen bQ clock,v=.pointer (some ⟨r,0,none⟩)∧w.heap[r]? = some (.mapIter (some m) since seen clock)∧Z m∧w.heap[m]? = some (.map bQ clock) ∧
   bQ.toList.Pairwise (fun a b=>a.born≠b.born)∧since=clock∧(∀e∈bQ.toList,e.born<clock)∧Dt (aE Z w kk) (aE Z w vk) kk.isAgg vk.isAgg x.2 (bQ.toList.filter fun e => !seen.contains e.born) ∧
   (match x.1 with | none=>True | some c=>∃e∈bQ.toList,seen.back? = some e.born∧Dt (aE Z w kk) (aE Z w vk) kk.isAgg vk.isAgg [c] [e])
 | .mM,v,x=>∃r,v=.pointer (some ⟨r,0,none⟩)∧w.heap[r]? = some (.stringIter x.1 x.2)
theorem jf.lt{Z:Nat→Prop}{w:World}:∀{ok:OK} {v:Value} {x:ok.T} {b:Nat},jf Z w ok v x→ob v=some b→b<w.heap.size
 | .row ty k,v,xs,b,h,hb=>by
  obtain ⟨vs,⟨_,h⟩,_⟩:=h
  rcases h with ⟨_,A,rfl⟩ | ⟨g,cap,cur,rfl,hc,h2,_⟩
  ·cases A<;>simp [ob] at hb
  ·simp only [ob] at hb
   rw [if_neg (by omega)] at hb
   cases hb
   exact (Array.getElem?_eq_some_iff.1 h2).1
 | .map _ _,v,_,b,h,hb=>by
  obtain ⟨m,bQ,clock,rfl,h2,_⟩:=h
  simp only [ob,Option.some.injEq] at hb;subst hb
  exact (Array.getElem?_eq_some_iff.1 h2).1
 | .iter _ _,v,_,b,h,hb=>by
  obtain ⟨r,m,since,seen,bQ,clock,rfl,h2,_⟩:=h
  simp only [ob,Option.some.injEq] at hb;subst hb
  exact (Array.getElem?_eq_some_iff.1 h2).1
 | .mM,v,_,b,h,hb=>by
  obtain ⟨r,rfl,h2⟩:=h
  simp only [ob,Option.some.injEq] at hb;subst hb
  exact (Array.getElem?_eq_some_iff.1 h2).1
theorem jf.one{Z:Nat→Prop}{w:World}:∀{ok:OK} {v:Value} {x:ok.T},jf Z w ok v x→v.cells=#[v]∧v.oneCell'=true
 | .row ty k,v,xs,h=>by
  obtain ⟨vs,h,_⟩:=h
  obtain ⟨A,c,rfl⟩:=h.slice
  exact ⟨rfl,by simp [Value.oneCell']⟩
 | .map _ _,v,_,h=>by obtain ⟨m,bQ,clock,rfl,_⟩:=h;exact ⟨rfl,by simp [Value.oneCell']⟩
 | .iter _ _,v,_,h=>by obtain ⟨r,m,since,seen,bQ,clock,rfl,_⟩:=h;exact ⟨rfl,by simp [Value.oneCell']⟩
 | .mM,v,_,h=>by obtain ⟨r,rfl,_⟩:=h;exact ⟨rfl,by simp [Value.oneCell']⟩
theorem jf.kept{Z Z':Nat→Prop}{w w':World}(hz:∀b,Z b→Z' b)(sm:cj Z w w'):∀{ok:OK} {v:Value} {x:ok.T},(∀g,ob v=some g→w'.heap[g]? = w.heap[g]?)→jf Z w ok v x→jf Z' w' ok v x
 | .row ty k,v,xs,hk,h=>by
  obtain ⟨vs,h1,h2⟩:=h
  exact ⟨vs,h1.kept hk,fun i x hx=>(h2 i x hx).mono hz sm⟩
 | .map _ _,v,_,hk,h=>by
  obtain ⟨m,bQ,clock,rfl,h2,h3,h4⟩:=h
  exact ⟨m,bQ,clock,rfl,(hk m rfl).trans h2,h3.imp (fun _ _ h=>h.mono hz sm) (fun _ _ h=>h.mono hz sm),h4⟩
 | .iter _ _,v,x,hk,h=>by
  obtain ⟨r,m,since,seen,bQ,clock,rfl,h2,h3,h4,h5,h6,h7,h8,h9⟩:=h
  refine ⟨r,m,since,seen,bQ,clock,rfl,(hk r rfl).trans h2,hz _ h3,(sm m h3).trans h4,h5,h6,h7,h8.imp (fun _ _ h=>h.mono hz sm) (fun _ _ h=>h.mono hz sm),?_⟩
  split
  ·trivial
  ·rename_i c hc
   rw [hc] at h9
   obtain ⟨e,he,mv,xc⟩:=h9
   exact ⟨e,he,mv,xc.imp (fun _ _ h=>h.mono hz sm) (fun _ _ h=>h.mono hz sm)⟩
 | .mM,v,_,hk,h=>by
  obtain ⟨r,rfl,h2⟩:=h
  exact ⟨r,rfl,(hk r rfl).trans h2⟩
structure Good(Z:Nat→Prop)(ψ:Nat→Value)(h:Hp)(w:World)(B0:Nat)(O:Nat→Prop):Prop where
 box:∀id ty cs,h id=some (.box ty cs)→∃g vs,ψ id=.pointer (some ⟨g,0,none⟩)∧w.heap[g]? = some (.cells vs ty (0,0))∧an Z ψ h w cs vs.toList∧∀u∈vs.toList,u.oneCell'=true
 row:∀id ok x,h id=some (.own ok x)→jf Z w ok (ψ id) x
 live:∀id g,h id≠none→ob (ψ id)=some g→¬Z g∧(B0≤g∨O g)
 apart:∀id lN g,h id≠none→h lN≠none→ob (ψ id)=some g→ob (ψ lN)=some g→id=lN
 jm:∀b,Z b→b<w.heap.size
variable {Z Z':Nat→Prop} {ψ ψ':Nat→Value} {h h':Hp} {w w':World} {B0:Nat} {O:Nat→Prop}
theorem Good.sub(g:Good Z ψ h w B0 O)(hs:∀id o,h' id=some o→h id=some o):Good Z ψ h' w B0 O:=by
 have hn:∀id,h' id≠none→h id≠none:=fun id hn=>by
  obtain ⟨o,ho⟩:=Option.ne_none_iff_exists'.1 hn
  rw [hs id o ho];simp
 refine ⟨fun id ty cs hb => ?_,fun id ok x hb=>g.row id ok x (hs _ _ hb),fun id b h1 h2=>g.live id b (hn id h1) h2,fun id lN b h1 h2 h3 h4=>g.apart id lN b (hn _ h1) (hn _ h2) h3 h4,g.jm⟩
 obtain ⟨b,vs,h1,h2,h3,h4⟩:=g.box id ty cs (hs _ _ hb)
 exact ⟨b,vs,h1,h2,an.less (fun _ h=>h) (cj.refl _ _) (fun id bO=>⟨hn id bO,rfl⟩) h3,h4⟩
theorem Good.freeze(g:Good Z ψ h w B0 O)(hs:∀id o,h' id=some o→h id=some o)(hz:∀b,Z b→Z' b)
  (Mp:∀b,Z' b→Z b∨∃id,h id≠none∧h' id=none∧ob (ψ id)=some b):Good Z' ψ h' w B0 O:=by
 have hn:∀id,h' id≠none→h id≠none:=fun id hn=>by
  obtain ⟨o,ho⟩:=Option.ne_none_iff_exists'.1 hn
  rw [hs id o ho];simp
 have lt:∀id b,h id≠none→ob (ψ id)=some b→b<w.heap.size:=by
  intro id b h1 h2
  obtain ⟨o,ho⟩:=Option.ne_none_iff_exists'.1 h1
  cases o with
  | box ty cs =>
   obtain ⟨gg,vs,e1,e2,_⟩:=g.box id ty cs ho
   rw [e1] at h2;simp only [ob,Option.some.injEq] at h2;subst h2
   exact (Array.getElem?_eq_some_iff.1 e2).1
  | own ok x=>exact (g.row id ok x ho).lt h2
 refine ⟨fun id ty cs hb => ?_,fun id ok x hb => ?_,fun id b h1 h2=>⟨fun Wm => ?_,(g.live id b (hn id h1) h2).2⟩,fun id lN b h1 h2 h3 h4=>g.apart id lN b (hn _ h1) (hn _ h2) h3 h4,fun b hb => ?_⟩
 ·obtain ⟨b,vs,h1,h2,h3,h4⟩:=g.box id ty cs (hs _ _ hb)
  exact ⟨b,vs,h1,h2,an.less hz (cj.refl _ _) (fun id bO=>⟨hn id bO,rfl⟩) h3,h4⟩
 ·exact (g.row id ok x (hs _ _ hb)).kept hz (cj.refl _ _) (fun _ _=>rfl)
 ·rcases Mp b Wm with h3 | ⟨lN,h3,h4,h5⟩
  ·exact (g.live id b (hn id h1) h2).1 h3
  ·have:=g.apart id lN b (hn id h1) h3 h2 h5
   subst this;exact h1 h4
 ·rcases Mp b hb with h3 | ⟨lN,h3,h4,h5⟩
  ·exact g.jm b h3
  ·exact lt lN b h3 h5
theorem tv{ty:TypeId}{k:K}{xs:List k.T}{v:Value}{vs:List Value}(ho:dm w ty k.sz v xs.length vs)(hv:mu Z w k xs vs)(hz:∀b,Z b→Z' b)(hb:∀b,ob v=some b→Z' b) :
  aE Z' w (.sl k) xs [v]:=by
 simp only [aE]
 refine ⟨v,rfl,?_⟩
 obtain ⟨hl,e⟩:=ho
 rcases e with ⟨h0,A,rfl⟩ | ⟨g,cap,cur,rfl,HV,hh,hc,_,hs,aba⟩
 ·have:xs=[]:=List.eq_nil_of_length_eq_zero h0
  subst this
  exact ⟨A,0,rfl,Nat.le_refl _,fun _=>rfl,fun i x hx=>by simp at hx⟩
 ·refine ⟨some ⟨g,0,none⟩,cap,rfl,hc,fun e=>(by cases e),fun i x hx => ?_⟩
  have hi:i<xs.length:=(List.getElem?_eq_some_iff.1 hx).1
  refine ⟨⟨g,0,none⟩,_,rfl,hb g (by simp only [ob];rw [if_neg (by omega)]),(hv i x hx).mono hz (cj.refl _ _),fun j u hu => ?_⟩
  rw [cf,Nat.zero_add]
  simp only [World.cell?,hh]
  rw [List.getElem?_take] at hu
  split at hu
  ·rename_i hj
   rw [List.getElem?_drop] at hu
   rw [←aba,List.getElem?_take] at hu
   split at hu
   ·simpa using hu
   ·cases hu
  ·cases hu
theorem Ca{hh:Heap}{a:AV}{v:Value}(g:Good Z ψ hh.get w B0 O)(hz:∀b,Z b→Z' b)(hb:∀id b,a=.bF id→hh.get id≠none→ob (ψ id)=some b→Z' b)(hr:av Z ψ hh.get w a v):av Z' ψ hh.get w (cC hh a) v:=by
 unfold cC
 split
 ·rename_i id
  split
  ·rename_i ty k xs hg
   simp only [av] at hr
   have hv:=hr.2 (by rw [hg];simp)
   subst hv
   obtain ⟨vs,h1,h2⟩:=g.row id (.row ty k) xs hg
   simp only [av]
   exact ⟨tv h1 h2 hz (fun b TI=>hb id b rfl (by rw [hg];simp) TI),by simp⟩
  ·rename_i kk vk es hg
   simp only [av] at hr
   have hv:=hr.2 (by rw [hg];simp)
   subst hv
   obtain ⟨m,bQ,clock,h1,h2,h3,_⟩:=g.row id (.map kk vk) es hg
   simp only [av,aE]
   refine ⟨some m,by rw [h1],.inr ⟨m,bQ,clock,rfl,hb id m rfl (by rw [hg];simp) (by rw [h1];rfl),h2,h3.imp (fun _ _ h=>h.mono hz (cj.refl _ _)) (fun _ _ h=>h.mono hz (cj.refl _ _))⟩⟩
  ·simp only [av]
 ·exact hr.less hz (cj.refl _ _) (fun id bO=>⟨bO,rfl⟩)
theorem mS{hh:Heap}(g:Good Z ψ hh.get w B0 O)(hz:∀b,Z b→Z' b):∀{cs:List AV} {vs:List Value},(∀id b,AV.bF id∈cs→hh.get id≠none→ob (ψ id)=some b→Z' b)→an Z ψ hh.get w cs vs→an Z' ψ hh.get w (cs.map (cC hh)) vs
 | [],_,_,hr=>by simpa only [an,List.map_nil] using hr
 | a::r,_,hb,hr=>by
  simp only [an,List.map_cons] at hr ⊢
  obtain ⟨v,us,rfl,h1,h2⟩:=hr
  exact ⟨v,us,rfl,Ca g hz (fun id b e=>hb id b (by rw [e];simp)) h1,mS g hz (fun id b e=>hb id b (List.mem_cons_of_mem _ e)) h2⟩
theorem KF(hh:Heap)(a:AV):∀id o,(drop1 hh a).get id=some o→hh.get id=some o:=by
 intro id o hg
 unfold drop1 at hg
 split at hg
 ·exact (Heap.tu hg).1
 ·exact hg
theorem dO:∀(cs:List AV) (hh:Heap),∀id o,(cy hh cs).get id=some o→hh.get id=some o
 | [],_,_,_,hg=>hg
 | c::r,hh,id,o,hg=>KF hh c id o (dO r (drop1 hh c) id o hg)
theorem yz:∀(cs:List AV) (hh:Heap) (id:Nat),AV.bF id∈cs→(cy hh cs).get id=none
 | [],_,_,hm=>by simp at hm
 | c::r,hh,id,hm=>by
  simp only [cy]
  rcases List.mem_cons.1 hm with rfl | hm
  ·cases hg:(cy (drop1 hh (.bF id)) r).get id with
   | none=>rfl
   | some o =>
    have:=dO r _ id o hg
    simp only [drop1,Heap.fS] at this;cases this
  ·exact yz r _ id hm
theorem nO:∀(cs:List AV) (hh:Heap) (id:Nat),AV.bF id∉cs→(cy hh cs).get id=hh.get id
 | [],_,_,_=>rfl
 | c::r,hh,id,hm=>by
  simp only [cy]
  rw [nO r _ id (fun h=>hm (List.mem_cons_of_mem _ h))]
  unfold drop1
  split
  ·rename_i lN
   exact Heap.gW (fun e=>hm (by rw [e];simp)) hh
  ·rfl
def o8(Z:Nat→Prop)(ψ:Nat→Value)(h:Hp)(cs:List AV):Nat→Prop:=fun b=>Z b∨∃id,AV.bF id∈cs∧h id≠none∧ob (ψ id)=some b
theorem gX{hh:Heap}(g:Good Z ψ hh.get w B0 O)(cs:List AV):Good (o8 Z ψ hh.get cs) ψ (cy hh cs).get w B0 O :=
 g.freeze (dO cs hh) (fun _ hb=>.inl hb) (fun b hb=>by
  rcases hb with hb | ⟨id,h1,h2,h3⟩
  ·exact .inl hb
  ·exact .inr ⟨id,h2,yz cs hh id h1,h3⟩)
end Go.Vs
namespace Go.Vs
def Own(ψ:Nat→Value)(h:Hp)(b:Nat):Prop:=∃id,h id≠none∧ob (ψ id)=some b
structure cS(ψ:Nat→Value)(h:Hp)(w w':World):Prop where
 os:w'.os=w.os
 tape:w'.tape=w.tape
 output:w'.output=w.output
 size:w.heap.size≤w'.heap.size
 block:∀b,b<w.heap.size→¬Own ψ h b→w'.heap[b]? = w.heap[b]?
structure Next(Z:Nat→Prop)(ψ:Nat→Value)(h:Hp)(w:World)(B0:Nat)(O:Nat→Prop)(N:Nat→Prop)(Z':Nat→Prop)(ψ':Nat→Value)(h':Hp)(w':World):Prop where
 fj:∀b,Z b→Z' b
 dU:∀b,Z' b→Z b∨Own ψ h b∨w.heap.size≤b
 keep:cS ψ h w w'
 ids:∀id,h' id≠none→(h id≠none∧ψ' id=ψ id)∨N id
 dD:Good Z' ψ' h' w' B0 O
variable {Z Z':Nat→Prop} {ψ ψ':Nat→Value} {h h':Hp} {w w':World} {B0:Nat} {O:Nat→Prop} {N:Nat→Prop}
theorem cS.refl(ψ:Nat→Value)(h:Hp)(w:World):cS ψ h w w:=⟨rfl,rfl,rfl,Nat.le_refl _,fun _ _ _=>rfl⟩
theorem cS.same(k:cS ψ h w w')(g:Good Z ψ h w B0 O):cj Z w w':=fun b hb=>k.block b (g.jm b hb) (fun ⟨id,h1,h2⟩=>(g.live id b h1 h2).1 hb)
theorem Next.same(n:Next Z ψ h w B0 O N Z' ψ' h' w')(g:Good Z ψ h w B0 O):cj Z w w':=n.keep.same g
theorem Next.refl(g:Good Z ψ h w B0 O):Next Z ψ h w B0 O N Z ψ h w :=
 ⟨fun _ h=>h,fun _ h=>.inl h,cS.refl _ _ _,fun _ bO=>.inl ⟨bO,rfl⟩,g⟩
theorem Next.rep(n:Next Z ψ h w B0 O N Z' ψ' h' w')(g:Good Z ψ h w B0 O){a:AV}{v:Value}(hm:aH (fun id=>¬N id) a)(hr:av Z ψ h w a v):av Z' ψ' h' w' a v :=
 hr.move n.fj (n.same g) (fun id hp bO=>(n.ids id bO).resolve_right hp) hm
theorem Good.bL(g:Good Z ψ h w B0 O){b:Nat}(ho:Own ψ h b):b<w.heap.size:=by
 obtain ⟨id,h1,h2⟩:=ho
 obtain ⟨o,ho⟩:=Option.ne_none_iff_exists'.1 h1
 cases o with
 | box ty cs =>
  obtain ⟨gg,vs,e1,e2,_⟩:=g.box id ty cs ho
  rw [e1] at h2;simp only [ob,Option.some.injEq] at h2;subst h2
  exact (Array.getElem?_eq_some_iff.1 e2).1
 | own ok x=>exact (g.row id ok x ho).lt h2
theorem Good.more(g:Good Z ψ h w B0 O)(k:cS ψ h w w')(rB:∀b,Own ψ h b→w'.heap[b]? = w.heap[b]?)
  (hold:∀id,¬N id→h' id=h id∧ψ' id=ψ id)
  (bg:∀id ty cs,h id=some (.box ty cs)→aA (fun i=>¬N i) cs)
  (MJ:∀id ty cs,N id→h' id=some (.box ty cs)→∃g vs,ψ' id=.pointer (some ⟨g,0,none⟩)∧w'.heap[g]? = some (.cells vs ty (0,0))∧an Z ψ' h' w' cs vs.toList∧∀u∈vs.toList,u.oneCell'=true)
  (mT:∀id ok x,N id→h' id=some (.own ok x)→jf Z w' ok (ψ' id) x)
  (yC:∀id b,N id→h' id≠none→ob (ψ' id)=some b→w.heap.size≤b)
  (HW:∀id lN b,N id→N lN→h' id≠none→h' lN≠none→ob (ψ' id)=some b→ob (ψ' lN)=some b→id=lN) (hB:B0≤w.heap.size) :
  Next Z ψ h w B0 O N Z ψ' h' w':=by
 have rm:∀id,h' id≠none→(h id≠none∧ψ' id=ψ id)∨N id:=fun id bO=>by
  by_cases hn:N id
  ·exact .inr hn
  ·obtain ⟨e1,e2⟩:=hold id hn
   exact .inl ⟨by rwa [e1] at bO,e2⟩
 have sm:cj Z w w':=k.same g
 have wj:∀id b,¬N id→h' id≠none→ob (ψ' id)=some b→Own ψ h b:=fun id b hn h1 h2=>by
  obtain ⟨e1,e2⟩:=hold id hn
  exact ⟨id,by rwa [e1] at h1,by rwa [e2] at h2⟩
 refine ⟨fun _ h=>h,fun _ h=>.inl h,k,rm,⟨fun id ty cs hb => ?_,fun id ok x hb => ?_,fun id b h1 h2 => ?_,fun id lN b h1 h2 h3 h4 => ?_,fun b hb=>Nat.lt_of_lt_of_le (g.jm b hb) k.size⟩⟩
 ·by_cases hn:N id
  ·exact MJ id ty cs hn hb
  ·obtain ⟨e1,e2⟩:=hold id hn
   rw [e1] at hb
   obtain ⟨gg,vs,h1,h2,h3,h4⟩:=g.box id ty cs hb
   have ho:Own ψ h gg:=⟨id,by rw [hb];simp,by rw [h1];rfl⟩
   exact ⟨gg,vs,by rw [e2,h1],(rB gg ho).trans h2,h3.move (fun _ h=>h) sm (fun i hp bO=>(rm i bO).resolve_right hp) (bg id ty cs hb),h4⟩
 ·by_cases hn:N id
  ·exact mT id ok x hn hb
  ·obtain ⟨e1,e2⟩:=hold id hn
   rw [e1] at hb
   rw [e2]
   exact (g.row id ok x hb).kept (fun _ h=>h) sm (fun gg KG=>rB gg ⟨id,by rw [hb];simp,KG⟩)
 ·by_cases hn:N id
  ·have:=yC id b hn h1 h2
   exact ⟨fun hz=>by have:=g.jm b hz;omega,.inl (by omega)⟩
  ·obtain ⟨e1,e2⟩:=hold id hn
   rw [e1] at h1;rw [e2] at h2
   exact g.live id b h1 h2
 ·by_cases hn:N id<;>by_cases HX:N lN
  ·exact HW id lN b hn HX h1 h2 h3 h4
  ·have:=yC id b hn h1 h3
   have:=g.bL (wj lN b HX h2 h4);omega
  ·have:=yC lN b HX h2 h4
   have:=g.bL (wj id b hn h1 h3);omega
  ·obtain ⟨e1,e2⟩:=hold id hn
   obtain ⟨e3,e4⟩:=hold lN HX
   rw [e1] at h1;rw [e2] at h3;rw [e3] at h2;rw [e4] at h4
   exact g.apart id lN b h1 h2 h3 h4
end Go.Vs
namespace Go.Vs
variable {P:Program} {Z Z':Nat→Prop} {ψ ψ':Nat→Value} {h h':Hp} {w w':World} {B0:Nat} {O:Nat→Prop} {N:Nat→Prop}
theorem qE{α:Type}:∀(vs cs:List α) (off:Nat),off+vs.length≤cs.length→dJ cs off vs=cs.take off++vs++cs.drop (off+vs.length)
 | [],cs,off,_=>by simp [dJ]
 | v::r,cs,off,hl=>by
  simp only [List.length_cons] at hl
  simp only [dJ]
  rw [qE r (cs.set off v) (off+1) (by rw [List.length_set];omega)]
  have h1:(cs.set off v).take (off+1)=cs.take off++[v]:=by
   rw [List.take_set,List.take_succ_eq_append_getElem (by omega),List.set_append_right _ _ (by rw [List.length_take];omega)]
   rw [List.length_take,Nat.min_eq_left (by omega)]
   simp
  have h2:(cs.set off v).drop (off+1+r.length)=cs.drop (off+(r.length+1)):=by
   rw [List.drop_set_of_lt (by omega)];congr 1;omega
  rw [h1,h2,List.append_assoc,List.append_assoc,List.append_assoc];rfl
theorem fF{t:TypeId}{b:Bool}(hb:B5 P t=some b):(isAgg t).run P w=.ok b w:=by
 unfold B5 at hb
 obtain ⟨d,hd,rfl⟩:=Option.map_eq_some_iff.1 hb
 simp only [isAgg,Sem.run_bind,run_underlying hd,Result.andThen_ok]
 cases d<;>rfl
theorem rC{t:TypeId}{d:TypeDesc}(hd:P.underlying t=some d):∃i,P.info? t=some i:=by
 unfold Program.underlying at hd
 split at hd
 ·rename_i heq;exact ⟨_,heq⟩
 ·rename_i heq;exact ⟨_,heq⟩
 ·cases hd
theorem di{t:TypeId}{i:TypeInfo}(hi:P.info? t=some i):(sizeOf t).run P w=.ok (P.cellsOf t) w:=by
 simp [sizeOf,typeInfo,hi,Program.cellsOf]
theorem wm{t:TypeId}{b:Bool}(hb:B5 P t=some b):∃i,P.info? t=some i:=by
 unfold B5 at hb
 obtain ⟨d,hd,rfl⟩:=Option.map_eq_some_iff.1 hb
 exact rC hd
theorem jn{t:TypeId}{cs:List AV}{us:List Value}{a:Addr}{x:AV}(hr:an Z ψ h w cs us)(hc:∀(j:Nat) u,us[j]? = some u→w.cell? (a.add j)=some u)(hx:dN P t cs=some x) :
  ∃V,(Instr.loadAt t (.pointer (some a))).run P w=.ok V w∧av Z ψ h w x V:=by
 unfold dN at hx
 have hlen:=hr.length
 split at hx
 ·rename_i hb
  split at hx
  ·rename_i hl
   cases hx
   obtain ⟨i,hi⟩:=wm hb
   refine ⟨.agg (us.take (P.cellsOf t)).toArray,?_,by simp only [av];exact ⟨_,rfl,by simpa using hr.take (P.cellsOf t)⟩⟩
   have aG:(us.take (P.cellsOf t)).length=P.cellsOf t:=by rw [List.length_take];omega
   have hld:=run_loadCells_list (P:=P) w a (us.take (P.cellsOf t)) (fun j v hv=>hc j v (by
    rw [List.getElem?_take] at hv;split at hv
    ·exact hv
    ·cases hv))
   rw [aG] at hld
   simp [Instr.loadAt,Instr.sureAddr,loadVar,fF hb,di hi,hld]
  ·cases hx
 ·rename_i hb
  split at hx
  ·rename_i c r
   cases hx
   simp only [an] at hr
   obtain ⟨v,iz,rfl,h1,h2⟩:=hr
   refine ⟨v,?_,h1⟩
   have:=hc 0 v rfl
   rw [B9] at this
   simp [Instr.loadAt,Instr.sureAddr,loadVar,fF hb,this]
  ·cases hx
 ·cases hx
theorem kg{t:TypeId}{i:TypeInfo}(hi:P.info? t=some i)(g off:Nat)(V:Value)(cur:Array Value)(ty:TypeId)(hg:w.heap[g]? = some (.cells cur ty (0,0)))(hs:V.cells.size=P.cellsOf t)
  (hl:off+V.cells.size≤cur.size) (h1:∀v∈V.cells.toList,v.oneCell'=true) :
  (Instr.storeAt t (.pointer (some ⟨g,off,none⟩)) V).run P w=.ok () (w.setRow g (cur.toList.take off++V.cells.toList++cur.toList.drop (off+V.cells.size)).toArray):=by
 have tw:=run_storeCells_at P g off ty V.cells.toList 0 cur w hg (by simpa using hl) h1
 simp only [Nat.add_zero,Array.length_toList] at tw
 simp [Instr.storeAt,Instr.sureAddr,storeVar,di hi,hs,tw]
end Go.Vs
namespace Go.Vs
variable {P:Program} {Z Z':Nat→Prop} {ψ ψ':Nat→Value} {h h':Hp} {w w':World} {B0:Nat} {O:Nat→Prop} {N:Nat→Prop}
def dK{α:Type}(f:Nat→α)(i:Nat)(v:α):Nat→α:=fun j=>if j=i then v else f j
theorem ba{α:Type}(f:Nat→α)(i:Nat)(v:α):dK f i v i=v:=by simp [dK]
theorem cJ{α:Type}(f:Nat→α){i j:Nat}(v:α)(bh:j≠i):dK f i v j=f j:=by simp [dK,bh]
theorem cS.alloc(ψ:Nat→Value)(h:Hp)(w:World)(o:Obj):cS ψ h w (w.alloc o) :=
 ⟨rfl,rfl,rfl,by rw [World.size_alloc];omega,fun b hb _=>heap_alloc_old w o hb⟩
theorem yD(g:Good Z ψ h w B0 O)(hB:B0≤w.heap.size)(id:Nat)(ty:TypeId){cs:List AV}{vs:Array Value}(hN:N id)(hr:an Z ψ h w cs vs.toList)(h1:∀u∈vs.toList,u.oneCell'=true)
  (bg:∀i ty cs,h i=some (.box ty cs)→aA (fun i=>i≠id) cs) (hm:aA (fun i=>i≠id) cs) :
  Next Z ψ h w B0 O N Z (dK ψ id (.pointer (some ⟨w.heap.size,0,none⟩))) (dK h id (some (.box ty cs))) (w.alloc (.cells vs ty)):=by
 have n:Next Z ψ h w B0 O (·=id) Z (dK ψ id (.pointer (some ⟨w.heap.size,0,none⟩))) (dK h id (some (.box ty cs))) (w.alloc (.cells vs ty)):=by
  refine g.more (cS.alloc _ _ _ _) (fun b hb=>heap_alloc_old w _ (g.bL hb)) (fun i hi=>⟨cJ _ _ hi,cJ _ _ hi⟩) (fun i w8 cs' hb => ?_) (fun i w8 cs' hi hb => ?_) (fun i ok x hi hb => ?_) (fun i b hi bh hb => ?_) (fun i i' b hi su _ _ _ _=>by subst hi;exact su.symm) hB
  ·exact bg i w8 cs' hb
  ·subst hi
   rw [ba] at hb;cases hb
   refine ⟨w.heap.size,vs,ba _ _ _,heap_alloc_new _ _,?_,h1⟩
   refine hr.move (fun _ h=>h) ((cS.alloc ψ h w _).same g) (fun j hj bh => ?_) hm
   rw [cJ _ _ hj] at bh
   exact ⟨bh,cJ _ _ hj⟩
  ·subst hi;rw [ba] at hb;cases hb
  ·subst hi;rw [ba] at hb;simp only [ob,Option.some.injEq] at hb;omega
 exact ⟨n.fj,n.dU,n.keep,fun i hi=>(n.ids i hi).imp (fun h=>h) (fun e=>by subst e;exact hN),n.dD⟩
theorem MK{h:Hp}{id:Nat}{o:Ob}(bO:h id≠none):∀i,dK h id (some o) i≠none→h i≠none:=fun i hi=>by
 by_cases e:i=id
 ·subst e;exact bO
 ·rwa [cJ _ _ e] at hi
theorem Good.write(g:Good Z ψ h w B0 O)(id:Nat)(bO:h id≠none)(k:cS ψ h w w')(ML:∀b,ob (ψ id)≠some b→b<w.heap.size→w'.heap[b]? = w.heap[b]?)(o':Ob)
  (MJ:∀ty cs,o'=.box ty cs→∃gg vs,ψ id=.pointer (some ⟨gg,0,none⟩)∧w'.heap[gg]? = some (.cells vs ty (0,0))∧an Z ψ h w' cs vs.toList∧∀u∈vs.toList,u.oneCell'=true)
  (mT:∀ok x,o'=.own ok x→jf Z w' ok (ψ id) x) :
  Next Z ψ h w B0 O N Z ψ (dK h id (some o')) w':=by
 have hs:=MK (o:=o') bO
 have sm:=k.same g
 refine ⟨fun _ h=>h,fun _ h=>.inl h,k,fun i hi=>.inl ⟨hs i hi,rfl⟩,⟨fun i ty cs hb => ?_,fun i ok x hb => ?_,fun i b h1 h2=>g.live i b (hs i h1) h2,fun i i' b h1 h2 h3 h4=>g.apart i i' b (hs i h1) (hs i' h2) h3 h4,fun b hb=>Nat.lt_of_lt_of_le (g.jm b hb) k.size⟩⟩
 ·by_cases e:i=id
  ·subst e
   rw [ba] at hb;cases hb
   obtain ⟨gg,vs,h1,h2,h3,h4⟩:=MJ _ _ rfl
   exact ⟨gg,vs,h1,h2,h3.less (fun _ h=>h) (cj.refl _ _) (fun j hj=>⟨hs j hj,rfl⟩),h4⟩
  ·rw [cJ _ _ e] at hb
   obtain ⟨gg,vs,h1,h2,h3,h4⟩:=g.box i ty cs hb
   refine ⟨gg,vs,h1,?_,h3.less (fun _ h=>h) sm (fun j hj=>⟨hs j hj,rfl⟩),h4⟩
   rw [ML gg (fun hh=>e (g.apart i id gg (by rw [hb];simp) bO (by rw [h1];rfl) hh)) (Array.getElem?_eq_some_iff.1 h2).1]
   exact h2
 ·by_cases e:i=id
  ·subst e
   rw [ba] at hb;cases hb
   exact mT _ _ rfl
  ·rw [cJ _ _ e] at hb
   exact (g.row i ok x hb).kept (fun _ h=>h) sm (fun gg KG=>ML gg (fun hh=>e (g.apart i id gg (by rw [hb];simp) bO KG hh)) (g.bL ⟨i,by rw [hb];simp,KG⟩))
theorem cS.setRow{gg:Nat}(ho:Own ψ h gg)(arr:Array Value):cS ψ h w (w.setRow gg arr) :=
 ⟨rfl,rfl,rfl,by simp [World.setRow],fun b _ hb=>by
  have:gg≠b:=fun e=>hb (e▸ho)
  simp [World.setRow,Array.getElem?_modify,this]⟩
theorem setRow_other{gg b:Nat}(arr:Array Value)(bh:gg≠b):(w.setRow gg arr).heap[b]? = w.heap[b]? := by
 simp [World.setRow,Array.getElem?_modify,bh]
theorem yE(g:Good Z ψ h w B0 O){id:Nat}{ty:TypeId}{cs vs:List AV}(hb:h id=some (.box ty cs)){t:TypeId}{i:TypeInfo}(hi:P.info? t=some i){off:Nat}{V:Value}
  (hv:an Z ψ h w vs V.cells.toList) (h1:∀u∈V.cells.toList,u.oneCell'=true) (hs:V.cells.size=P.cellsOf t) (hl:off+vs.length≤cs.length) {a:Addr} (ha:a=⟨QK (ψ id),off,none⟩) :
  ∃w',(Instr.storeAt t (.pointer (some a)) V).run P w=.ok () w'∧Next Z ψ h w B0 O N Z ψ (dK h id (some (.box ty (dJ cs off vs)))) w':=by
 obtain ⟨gg,arr,e1,e2,e3,e4⟩:=g.box id ty cs hb
 have hlen:=hv.length
 have MM:=e3.length
 simp only [Array.length_toList] at hlen MM
 have bO:h id≠none:=by rw [hb];simp
 have ho:Own ψ h gg:=⟨id,bO,by rw [e1];rfl⟩
 rw [e1] at ha
 simp only [QK] at ha
 subst ha
 refine ⟨_,kg hi gg off V arr ty e2 hs (by omega) h1,?_⟩
 have kk:=cS.setRow (w:=w) ho ((arr.toList.take off++V.cells.toList++arr.toList.drop (off+V.cells.size)).toArray)
 refine g.write id bO kk (fun b hb _=>setRow_other _ (fun e=>hb (by rw [e1];simp [ob,e]))) _ (fun w8 cs' he => ?_) (fun _ _ he=>by cases he)
 cases he
 refine ⟨gg,_,e1,setRow_heap w gg arr _ ty _ e2,?_,?_⟩
 ·rw [qE _ _ _ hl]
  have h5:an Z ψ h w (cs.take off++vs++cs.drop (off+vs.length)) (arr.toList.take off++V.cells.toList++arr.toList.drop (off+V.cells.size)):=by
   rw [←hlen];exact ((e3.take off).append hv).append (e3.drop (off+vs.length))
  exact h5.less (fun _ h=>h) (kk.same g) (fun j hj=>⟨hj,rfl⟩)
 ·intro u hu
  rw [List.toList_toArray] at hu
  rcases List.mem_append.1 hu with hu | hu
  ·rcases List.mem_append.1 hu with hu | hu
   ·exact e4 u (List.mem_of_mem_take hu)
   ·exact h1 u hu
  ·exact e4 u (List.mem_of_mem_drop hu)
theorem TJ{α:Type}(cur V:List α)(m off sz L:Nat)(h:off+V.length≤sz)(h1:m+sz≤L)(h2:L≤cur.length) :
  ((cur.take (m+off)++V++cur.drop (m+off+V.length)).take L |>.drop m |>.take sz)=((cur.drop m).take sz).take off++V++((cur.drop m).take sz).drop (off+V.length):=by
 apply List.ext_getElem?
 intro q
 simp only [List.getElem?_take,List.getElem?_drop,List.getElem?_append,List.length_append,List.length_take,List.length_drop]
 rw [Nat.min_eq_left (show m+off≤cur.length by omega),Nat.min_eq_left (show off≤min sz (cur.length - m) by omega)]
 repeat' split
 all_goals first | rfl | (exfalso;omega) | (congr 1;omega) | (rw [List.getElem?_eq_none (by omega)])
theorem QL{α:Type}(cur V:List α)(m off sz L p:Nat)(h:off+V.length≤sz)(h1:m+sz≤L)(h2:L≤cur.length)(h3:p+sz≤L)(h4:p+sz≤m∨m+sz≤p) :
  ((cur.take (m+off)++V++cur.drop (m+off+V.length)).take L |>.drop p |>.take sz)=(cur.drop p).take sz:=by
 apply List.ext_getElem?
 intro q
 simp only [List.getElem?_take,List.getElem?_drop,List.getElem?_append,List.length_append,List.length_take]
 rw [Nat.min_eq_left (show m+off≤cur.length by omega)]
 repeat' split
 all_goals first | rfl | (exfalso;omega) | (congr 1;omega) | (rw [List.getElem?_eq_none (by omega)])
theorem aE.yF{k:K}{x:k.T}{vs us:List Value}(e:vs=us)(hr:aE Z w k x vs):aE Z w k x us:=e▸hr
theorem yG(g:Good Z ψ h w B0 O){id:Nat}{ty:TypeId}{kk:K}{xs:List kk.T}(hb:h id=some (.own (.row ty kk) xs)){t:TypeId}{i:TypeInfo}(hi:P.info? t=some i){n off:Nat}{x y:kk.T}{V:Value}
  (hx:xs[n]? = some x) (hs:V.cells.size=P.cellsOf t) (hl:off+V.cells.size≤kk.sz) {a:Addr} (ha:a=⟨QK (ψ id),n * kk.sz+off,none⟩)
  (hy:∀us,aE Z w kk x us→aE Z w kk y (us.take off++V.cells.toList++us.drop (off+V.cells.size))) (h1:∀u∈V.cells.toList,u.oneCell'=true) :
  ∃w',(Instr.storeAt t (.pointer (some a)) V).run P w=.ok () w'∧Next Z ψ h w B0 O N Z ψ (dK h id (some (.own (.row ty kk) (xs.set n y)))) w':=by
 obtain ⟨vs,ho,hv⟩:=g.row id (.row ty kk) xs hb
 have bO:h id≠none:=by rw [hb];simp
 have hn:n<xs.length:=(List.getElem?_eq_some_iff.1 hx).1
 have HV:=kk.gV
 have hmul:n * kk.sz+kk.sz≤xs.length * kk.sz:=by rw [←Nat.succ_mul];exact Nat.mul_le_mul_right _ hn
 obtain ⟨hl1,e⟩:=ho
 rcases e with ⟨h0,_⟩ | ⟨gg,cap,cur,e1,e2,e3,e4,e5,e6,e7⟩
 ·omega
 have TK:xs.length * kk.sz≤cap * kk.sz:=Nat.mul_le_mul_right _ e4
 have jo:ob (ψ id)=some gg:=by rw [e1];simp only [ob];rw [if_neg (by omega)]
 have ho:Own ψ h gg:=⟨id,bO,jo⟩
 have EV:a=⟨gg,n * kk.sz+off,none⟩:=by rw [ha,e1];rfl
 subst EV
 refine ⟨_,kg hi gg (n * kk.sz+off) V cur ty e3 hs (by omega) h1,?_⟩
 have hk:=cS.setRow (w:=w) ho ((cur.toList.take (n * kk.sz+off)++V.cells.toList++cur.toList.drop (n * kk.sz+off+V.cells.size)).toArray)
 have sm:=hk.same g
 refine g.write id bO hk (fun b hb _=>setRow_other _ (fun e=>hb (by rw [jo,e]))) _ (fun _ _ he=>by cases he) (fun VL x' he => ?_)
 cases he
 have te:cur.toList.length=cap * kk.sz:=by rw [Array.length_toList];exact e6
 have hVl:V.cells.toList.length=V.cells.size:=Array.length_toList
 let cX:=cur.toList.take (n * kk.sz+off)++V.cells.toList++cur.toList.drop (n * kk.sz+off+V.cells.size)
 have HY:cX.length=cap * kk.sz:=by
  simp only [cX,List.length_append,List.length_take,List.length_drop,te,hVl];omega
 have QM:(xs.set n y).length=xs.length:=List.length_set
 have sw:vs=cur.toList.take (xs.length * kk.sz):=e7.symm
 refine ⟨cX.take (xs.length * kk.sz),⟨by rw [List.length_take,HY,QM];omega,.inr ⟨gg,cap,cX.toArray,by rw [QM];exact e1,e2,setRow_heap w gg cur _ ty _ e3,by rw [QM];exact e4,e5,by simpa using HY,by rw [QM]⟩⟩,fun j z hz => ?_⟩
 have hj:j<xs.length:=by have:=(List.getElem?_eq_some_iff.1 hz).1;rwa [QM] at this
 have hmj:j * kk.sz+kk.sz≤xs.length * kk.sz:=by rw [←Nat.succ_mul];exact Nat.mul_le_mul_right _ hj
 have Wn:∀p,p+kk.sz≤xs.length * kk.sz→(vs.drop p).take kk.sz=(cur.toList.drop p).take kk.sz:=fun p hp=>by
  rw [sw,List.drop_take,List.take_take,Nat.min_eq_left (by omega)]
 by_cases Mq:j=n
 ·subst Mq
  rw [List.getElem?_set_self hn] at hz;cases hz
  have hu:=hy _ (hv j x hx)
  rw [Wn _ hmj,←hVl] at hu
  refine aE.mono (fun _ h=>h) sm (aE.yF ?_ hu)
  have:=TJ cur.toList V.cells.toList (j * kk.sz) off kk.sz (xs.length * kk.sz) (by omega) hmj (by omega)
  rw [←this,hVl]
 ·rw [List.getElem?_set_ne (fun e=>Mq e.symm)] at hz
  have hu:=hv j z hz
  rw [Wn _ hmj] at hu
  refine aE.mono (fun _ h=>h) sm (aE.yF ?_ hu)
  have h4:j * kk.sz+kk.sz≤n * kk.sz∨n * kk.sz+kk.sz≤j * kk.sz:=by
   rcases Nat.lt_or_ge j n with h | h
   ·left;rw [←Nat.succ_mul];exact Nat.mul_le_mul_right _ h
   ·right;rw [←Nat.succ_mul];exact Nat.mul_le_mul_right _ (by omega)
  have:=QL cur.toList V.cells.toList (n * kk.sz) off kk.sz (xs.length * kk.sz) (j * kk.sz) (by omega) hmul (by omega) hmj h4
  rw [←this,hVl]
theorem sx{k:K}{ys:List k.T}{u:Value}(hr:aE Z w (.sl k) ys [u]) :
  (u=.slice none 0 0∧ys=[])∨∃a c news,u=.slice (some a) ys.length c∧ys.length≤c∧news.length=ys.length * k.sz∧(∀(j:Nat) q,news[j]? = some q→w.cell? (a.add j)=some q)∧(∀q∈news,q.oneCell'=true)∧mu Z w k ys news:=by
 simp only [aE] at hr
 obtain ⟨v,hv,A,c,rfl,hl,hn,he⟩:=hr
 cases hv
 cases A with
 | none =>
  left
  cases ys with
  | nil=>exact ⟨by rw [hn rfl];rfl,rfl⟩
  | cons y r=>obtain ⟨a,us,h1,_⟩:=he 0 y rfl;cases h1
 | some a =>
  right
  have TL:∀i (hi:i<ys.length),∃us,aE Z w k ys[i] us∧∀(j:Nat) u,us[j]? = some u→w.cell? (a.add (i * k.sz+j))=some u:=fun i hi=>by
   obtain ⟨a',us,h1,_,h3,h4⟩:=he i _ (List.getElem?_eq_getElem hi)
   cases h1
   exact ⟨us,h3,h4⟩
  have HV:=k.gV
  let news:=(List.range (ys.length * k.sz)).map fun j=>(w.cell? (a.add j)).getD default
  have Cb:∀j,j<ys.length * k.sz→∃q,w.cell? (a.add j)=some q∧q.oneCell'=true:=fun j hj=>by
   have hi:j / k.sz<ys.length:=Nat.div_lt_of_lt_mul (by rw [Nat.mul_comm];exact hj)
   obtain ⟨us,h3,h4⟩:=TL (j / k.sz) hi
   have hm:j % k.sz<us.length:=by rw [h3.len];exact Nat.mod_lt _ HV
   refine ⟨us[j % k.sz],?_,h3.one _ (List.getElem_mem hm)⟩
   have:=h4 (j % k.sz) _ (List.getElem?_eq_getElem hm)
   rwa [Nat.mul_comm,Nat.div_add_mod] at this
  have mw:∀j,j<ys.length * k.sz→∃q,news[j]? = some q∧w.cell? (a.add j)=some q:=fun j hj=>by
   obtain ⟨q,hq,_⟩:=Cb j hj
   exact ⟨q,by simp [news,List.getElem?_map,List.getElem?_range hj,hq],hq⟩
  have hlen:news.length=ys.length * k.sz:=by simp [news]
  refine ⟨a,c,news,rfl,hl,hlen,fun j q hq => ?_,fun q hq => ?_,fun i x hx => ?_⟩
  ·have hj:j<ys.length * k.sz:=by rw [←hlen];exact (List.getElem?_eq_some_iff.1 hq).1
   obtain ⟨q',h1,h2⟩:=mw j hj
   rw [h1] at hq;cases hq;exact h2
  ·obtain ⟨j,hj,rfl⟩:=List.mem_iff_getElem.1 hq
   obtain ⟨q',h1,h2⟩:=mw j (by omega)
   obtain ⟨q2,h3,h4⟩:=Cb j (by omega)
   rw [List.getElem?_eq_getElem hj] at h1;cases h1
   rw [h2] at h3;cases h3;exact h4
  ·have hi:i<ys.length:=(List.getElem?_eq_some_iff.1 hx).1
   obtain ⟨us,h3,h4⟩:=TL i hi
   rw [List.getElem?_eq_getElem hi] at hx;cases hx
   refine aE.yF ?_ h3
   have hul:=h3.len
   have hmul:i * k.sz+k.sz≤ys.length * k.sz:=by rw [←Nat.succ_mul];exact Nat.mul_le_mul_right _ hi
   apply List.ext_getElem?
   intro q
   rw [List.getElem?_take,List.getElem?_drop]
   by_cases hq:q<k.sz
   ·rw [if_pos hq]
    obtain ⟨q',h5,h6⟩:=mw (i * k.sz+q) (by omega)
    rw [h5]
    have h7:=h4 q _ (List.getElem?_eq_getElem (by omega))
    rw [List.getElem?_eq_getElem (by omega)]
    rw [h6] at h7;cases h7;rfl
   ·rw [if_neg hq,List.getElem?_eq_none (by omega)]
theorem KH{hh:Heap}(g:Good Z ψ hh.get w B0 O){x:AV}{u:Value}{k:K}{ys:List k.T}(hx:rowOf hh x k=some ys)(hr:av Z ψ hh.get w x u) :
  (u=.slice none 0 0∧ys=[])∨∃a c news,u=.slice (some a) ys.length c∧ys.length≤c∧news.length=ys.length * k.sz∧(∀(j:Nat) q,news[j]? = some q→w.cell? (a.add j)=some q)∧(∀q∈news,q.oneCell'=true)∧mu Z w k ys news:=by
 unfold rowOf at hx
 split at hx
 ·rename_i ex k' xs heq
  split at hx
  ·rename_i e
   subst e
   cases hx
   cases x with
   | sl ex' k'' Wo =>
    simp only [cC] at heq
    cases heq
    simp only [av] at hr
    exact sx hr.1
   | bF id =>
    simp only [cC] at heq
    split at heq
    ·rename_i ty kk zs hg
     cases heq
     simp only [av] at hr
     have hv:=hr.2 (by rw [hg];simp)
     subst hv
     obtain ⟨vs,ho,hv⟩:=g.row id (.row ty _) _ hg
     have h1:=sx (tv (Z':=fun b=>Z b∨ob (ψ id)=some b) ho hv (fun b hb=>.inl hb) (fun b hb=>.inr hb))
     rcases h1 with h1 | ⟨a,c,news,h1,h2,h3,h4,h5,_⟩
     ·exact .inl h1
     ·right
      refine ⟨a,c,news,h1,h2,h3,h4,h5,?_⟩
      have QN:news=vs:=by
       obtain ⟨hl,e⟩:=ho
       rcases e with ⟨e,_⟩ | ⟨gg,cap,cur,e,_,e3,_,_,_,e7⟩
       ·rw [e,Nat.zero_mul] at h3 hl
        rw [List.eq_nil_of_length_eq_zero h3,List.eq_nil_of_length_eq_zero hl]
       ·rw [e] at h1;cases h1
        apply List.ext_getElem?
        intro j
        by_cases hj:j<xs.length * k'.sz
        ·have hn:=h4 j _ (List.getElem?_eq_getElem (by omega))
         rw [cf,Nat.zero_add] at hn
         simp only [World.cell?,e3] at hn
         have wo:vs[j]? = cur.toList[j]? := by rw [←e7,List.getElem?_take,if_pos hj]
         rw [wo,List.getElem?_eq_getElem (by omega)]
         simpa using hn.symm
        ·rw [List.getElem?_eq_none (by omega),List.getElem?_eq_none (by omega)]
      rw [QN];exact hv
    ·cases heq
    ·cases heq
   | _=>simp only [cC] at heq<;>cases heq
  ·cases hx
 ·rename_i heq
  cases hx
  cases x with
  | fB=>simp only [av] at hr;exact .inl ⟨hr,rfl⟩
  | bF id=>simp only [cC] at heq;split at heq<;>cases heq
  | _=>simp only [cC] at heq<;>cases heq
 ·cases hx
structure nP(P:Program)(e:TypeId)(k:K)(i:TypeInfo)(z:Value):Prop where
 info:P.info? e=some i
 zero:i.zero=some z
 size:i.size=k.sz
 rD:z.cells.size=k.sz
 bytes:i.bytes≤65536
theorem ct{e:TypeId}{k:K}(he:Dm P e k=true):∃i z,nP P e k i z:=by
 unfold Dm at he
 split at he
 ·rename_i i hi
  split at he
  ·rename_i z hz
   simp only [Bool.and_eq_true,decide_eq_true_eq] at he
   exact ⟨i,z,hi,hz,he.1,he.2.1,he.2.2⟩
  ·cases he
 ·cases he
theorem mu.append{k:K}{xs ys:List k.T}{vs us:List Value}(h1:mu Z w k xs vs)(h2:mu Z w k ys us)(hl:vs.length=xs.length * k.sz):mu Z w k (xs++ys) (vs++us):=fun i x hx=>by
 by_cases hi:i<xs.length
 ·rw [List.getElem?_append_left hi] at hx
  have hm:i * k.sz+k.sz≤xs.length * k.sz:=by rw [←Nat.succ_mul];exact Nat.mul_le_mul_right _ hi
  have h3:=h1 i x hx
  rw [List.drop_append_of_le_length (by omega),List.take_append_of_le_length (by rw [List.length_drop];omega)]
  exact h3
 ·rw [List.getElem?_append_right (by omega)] at hx
  have h3:=h2 (i - xs.length) x hx
  have e:i * k.sz=vs.length+(i - xs.length) * k.sz:=by
   rw [hl,←Nat.add_mul];congr 1;omega
  rw [e,List.drop_append,List.drop_eq_nil_of_le (by omega),List.nil_append,Nat.add_sub_cancel_left]
  exact h3
theorem mu.EW{k:K}{xs:List k.T}{vs:List Value}(h:mu Z w k xs vs)(sm:cj Z w w'):mu Z w' k xs vs:=fun i x hx=>(h i x hx).mono (fun _ h=>h) sm
theorem EX(g:Good Z ψ h w B0 O)(hB:B0≤w.heap.size)(id:Nat)(hN:N id){ok:OK}{x:ok.T}{v:Value}(kk:cS ψ h w w')(rB:∀b,Own ψ h b→w'.heap[b]? = w.heap[b]?)
  (ho:jf Z w' ok v x) (hb:∀b,ob v=some b→w.heap.size≤b)
  (bg:∀i ty cs,h i=some (.box ty cs)→aA (fun i=>i≠id) cs) :
  Next Z ψ h w B0 O N Z (dK ψ id v) (dK h id (some (.own ok x))) w':=by
 have n:Next Z ψ h w B0 O (·=id) Z (dK ψ id v) (dK h id (some (.own ok x))) w':=by
  refine g.more kk rB (fun i hi=>⟨cJ _ _ hi,cJ _ _ hi⟩) (fun i w8 cs' hb=>bg i w8 cs' hb) (fun i w8 cs' hi hb => ?_) (fun i ok x hi hb => ?_) (fun i b hi bh TI => ?_) (fun i i' b hi su _ _ _ _=>by subst hi;exact su.symm) hB
  ·subst hi;rw [ba] at hb;cases hb
  ·subst hi
   rw [ba] at hb;cases hb
   rw [ba];exact ho
  ·subst hi;rw [ba] at TI;exact hb b TI
 exact ⟨n.fj,n.dU,n.keep,fun i hi=>(n.ids i hi).imp (fun h=>h) (fun e=>by subst e;exact hN),n.dD⟩
theorem pK(g:Good Z ψ h w B0 O)(hB:B0≤w.heap.size)(id:Nat)(ty:TypeId)(hN:N id){k:K}{xs:List k.T}{vs:List Value}{v:Value}(kk:cS ψ h w w')(rB:∀b,Own ψ h b→w'.heap[b]? = w.heap[b]?)
  (ho:dm w' ty k.sz v xs.length vs) (hv:mu Z w' k xs vs) (hb:∀b,ob v=some b→w.heap.size≤b)
  (bg:∀i ty cs,h i=some (.box ty cs)→aA (fun i=>i≠id) cs) :
  Next Z ψ h w B0 O N Z (dK ψ id v) (dK h id (some (.own (.row ty k) xs))) w':=EX g hB id hN (ok:=.row ty k) kk rB ⟨vs,ho,hv⟩ hb bg
theorem cS.grown{row:Option Nat}(hg:w.grownBy w' row)(hr:∀b,row=some b→Own ψ h b):cS ψ h w w' :=
 ⟨hg.os,hg.tape,hg.output,hg.size,fun b hb hn=>hg.block b hb (fun e=>hn (hr b e.symm))⟩
theorem pM(g:Good Z ψ h w B0 O)(hB:B0≤w.heap.size)(id cF:Nat)(hN:N id){ok:OK}{x y:ok.T}(ho:h cF=some (.own ok x))(bh:cF≠id)
  (hg:w.grownBy w' (ob (ψ cF))) {v:Value} (hv:jf Z w' ok v y)
  (hb:ob v=ob (ψ cF)∨∀b,ob v=some b→w.heap.size≤b)
  (bg:∀i ty cs,h i=some (.box ty cs)→aA (fun i=>i≠id) cs) :
  Next Z ψ h w B0 O N Z (dK ψ id v) (dK (dK h cF none) id (some (.own ok y))) w':=by
 have hold:h cF≠none:=by rw [ho];simp
 have jo:∀b,ob (ψ cF)=some b→ob (ψ cF)=some b:=fun _ h=>h
 have kk:cS ψ h w w':=cS.grown hg (fun b e=>⟨cF,hold,jo b e⟩)
 have sm:=kk.same g
 have other:∀i b,h i≠none→i≠cF→ob (ψ i)=some b→w'.heap[b]? = w.heap[b]? := fun i b h1 h2 h3 =>
  hg.block b (g.bL ⟨i,h1,h3⟩) (fun e=>h2 (g.apart i cF b h1 hold h3 (jo b e.symm)))
 have at_:∀i,i≠id→dK (dK h cF none) id (some (.own ok y)) i≠none→h i≠none∧i≠cF:=fun i hi h1=>by
  rw [cJ _ _ hi] at h1
  by_cases e:i=cF
  ·subst e;rw [ba] at h1;exact absurd rfl h1
  ·rw [cJ _ _ e] at h1;exact ⟨h1,e⟩
 have ids:∀i,dK (dK h cF none) id (some (.own ok y)) i≠none→(h i≠none∧dK ψ id v i=ψ i)∨i=id:=fun i h1=>by
  by_cases e:i=id
  ·exact .inr e
  ·exact .inl ⟨(at_ i e h1).1,cJ _ _ e⟩
 have vob:∀b,ob v=some b→ob (ψ cF)=some b∨w.heap.size≤b:=fun b TI=>by
  rcases hb with hb | hb
  ·left;rw [←hb];exact TI
  ·right;exact hb b TI
 refine ⟨fun _ h=>h,fun _ h=>.inl h,kk,fun i h1=>(ids i h1).imp (fun h=>h) (fun e=>by subst e;exact hN),⟨fun i w8 cs oV => ?_,fun i VL z oV => ?_,fun i b h1 h2 => ?_,fun i i' b h1 h2 h3 h4 => ?_,fun b hz=>Nat.lt_of_lt_of_le (g.jm b hz) kk.size⟩⟩
 ·by_cases e:i=id
  ·subst e;rw [ba] at oV;cases oV
  ·have yH:=at_ i e (by rw [oV];simp)
   rw [cJ _ _ e,cJ _ _ yH.2] at oV
   obtain ⟨gg,us,h1,h2,h3,h4⟩:=g.box i w8 cs oV
   refine ⟨gg,us,by rw [cJ _ _ e];exact h1,(other i gg yH.1 yH.2 (by rw [h1];rfl)).trans h2,?_,h4⟩
   exact h3.move (fun _ h=>h) sm (fun j hj hn=>(ids j hn).resolve_right hj) (bg i w8 cs oV)
 ·by_cases e:i=id
  ·subst e;rw [ba] at oV;cases oV
   rw [ba];exact hv
  ·have yH:=at_ i e (by rw [oV];simp)
   rw [cJ _ _ e,cJ _ _ yH.2] at oV
   rw [cJ _ _ e]
   exact (g.row i VL z oV).kept (fun _ h=>h) sm (fun gg KG=>other i gg yH.1 yH.2 KG)
 ·by_cases e:i=id
  ·subst e;rw [ba] at h2
   rcases vob b h2 with h3 | h3
   ·exact g.live cF b hold h3
   ·exact ⟨fun hz=>by have:=g.jm b hz;omega,.inl (by omega)⟩
  ·rw [cJ _ _ e] at h2
   exact g.live i b (at_ i e h1).1 h2
 ·have key:∀j,j≠id→dK (dK h cF none) id (some (.own ok y)) j≠none→ob (ψ j)=some b→ob v=some b→False:=fun j hj h5 h6 h7=>by
   obtain ⟨h8,h9⟩:=at_ j hj h5
   rcases vob b h7 with mv | mv
   ·exact h9 (g.apart j cF b h8 hold h6 mv)
   ·have:=g.bL ⟨j,h8,h6⟩;omega
  by_cases e:i=id<;>by_cases e':i'=id
  ·rw [e,e']
  ·subst e;rw [ba] at h3;rw [cJ _ _ e'] at h4
   exact (key i' e' h2 h4 h3).elim
  ·subst e';rw [ba] at h4;rw [cJ _ _ e] at h3
   exact (key i e h1 h3 h4).elim
  ·rw [cJ _ _ e] at h3;rw [cJ _ _ e'] at h4
   exact g.apart i i' b (at_ i e h1).1 (at_ i' e' h2).1 h3 h4
def KI(w:World)(sz:Nat)(u:Value)(m:Nat)(news:List Value):Prop :=
 news.length=m * sz∧(∀q∈news,q.oneCell'=true)∧((u=.slice none 0 0∧m=0)∨∃a c,u=.slice (some a) m c∧∀(j:Nat) q,news[j]? = some q→w.cell? (a.add j)=some q)
theorem Dv{hh:Heap}(g:Good Z ψ hh.get w B0 O){x:AV}{u:Value}{k:K}{ys:List k.T}(hx:rowOf hh x k=some ys)(hr:av Z ψ hh.get w x u):∃news,KI w k.sz u ys.length news∧mu Z w k ys news:=by
 rcases KH g hx hr with ⟨rfl,rfl⟩ | ⟨a,c,news,h1,_,h2,h3,h4,h5⟩
 ·exact ⟨[],⟨by simp,by simp,.inl ⟨rfl,rfl⟩⟩,fun i x hx=>by simp at hx⟩
 ·exact ⟨news,⟨h2,h4,.inr ⟨a,c,h1,h3⟩⟩,h5⟩
theorem eL{t ty e:TypeId}{i:TypeInfo}(ht:P.underlying t=some (.slice e))(hi:P.info? e=some i)(A:Option Addr)(n c:Nat)(hc:n≤c)(A':Option Addr)(c':Nat) :
  (Builtin.append_ #[t,t] ty #[.slice A n c,.slice A' 0 c']).run P w=.ok (.slice A n c) w:=by
 cases A<;>cases A'<;>simp [Builtin.append_,run_underlying ht,sizeOf,typeInfo,hi,Builtin.lenOf,Builtin.firstCells,hc,storeCells,loadCells,loadCellsFrom]
theorem du{t ty e:TypeId}{k:K}{i:TypeInfo}{z:Value}(ht:P.underlying t=some (.slice e))(he:nP P e k i z){v:Value}{n:Nat}{xs:List Value}(ho:dm w e k.sz v n xs)
  {u:Value} {m:Nat} {news:List Value} (hu:KI w k.sz u m news) (hm:n+m≤fh) :
  ∃v' w',(Builtin.append_ #[t,t] ty #[v,u]).run P w=.ok v' w'∧dm w' e k.sz v' (n+m) (xs++news)∧w.grownBy w' (ob v)∧(ob v'=ob v∨∀b,ob v'=some b→w.heap.size≤b):=by
 obtain ⟨h1,h3,hu⟩:=hu
 obtain ⟨A0,c0,TM⟩:=ho.slice
 by_cases hm0:m=0
 ·subst hm0
  have Wp:news=[]:=List.eq_nil_of_length_eq_zero (by rw [h1,Nat.zero_mul])
  subst Wp
  have Dx:n≤c0:=by
   rcases ho.2 with ⟨h0,A,e⟩ | ⟨g,cap,cur,e,hc,h2,h3,_⟩
   ·omega
   ·rw [TM] at e;cases e;exact h3
  refine ⟨v,w,?_,by simpa using ho,World.grownBy.refl w _,.inl rfl⟩
  subst TM
  rcases hu with ⟨rfl,_⟩ | ⟨a,c,rfl,_⟩<;>exact eL ht he.info A0 n c0 Dx _ _
 ·rcases hu with ⟨_,h0⟩ | ⟨a,c,rfl,h2⟩
  ·exact absurd h0 hm0
  have hb:=he.bytes
  unfold fh at hm
  have jq:(n+m) * i.bytes≤140737488355328:=Nat.le_trans (Nat.mul_le_mul hm hb) (by decide)
  have new:∀v',w.heap.size≤w.heap.size→∀(w':World),w'.ownsRow w.heap.size e k.sz v' (n+m) (xs++news)→∀b,ob v'=some b→w.heap.size≤b:=fun v' _ w' my b hb=>by
   rcases my.2 with ⟨rfl,_⟩ | ⟨g,cap,cur,rfl,h5,_⟩
   ·simp [ob] at hb
   ·simp only [ob] at hb
    split at hb
    ·cases hb
    ·cases hb;exact h5
  rcases ho.2 with ⟨rfl,A,rfl⟩ | ⟨g,cap,cur,rfl,TK,h4,h5,h6,h7,h8⟩
  ·have qF:xs=[]:=List.eq_nil_of_length_eq_zero (by rw [ho.1,Nat.zero_mul])
   subst qF
   have jo:ob (.slice A 0 0)=none:=by cases A<;>simp [ob]
   cases A with
   | none =>
    obtain ⟨v',w',hr,h4,h5,_,h6⟩:=run_append_own_at (P:=P) w w.heap.size t ty e i z k.sz i.bytes ht he.info he.zero he.size rfl he.rD k.gV (.slice none 0 0) 0 [] ⟨by simp,.inl ⟨rfl,rfl⟩⟩ a m c news h1 h2 h3 (by simp only [maxLen];omega) jq (Nat.le_refl _)
    exact ⟨v',w',hr,dm.of h4,by rw [jo];exact h5,.inr (new v' (Nat.le_refl _) w' h4)⟩
   | some b0 =>
    obtain ⟨v',w',hr,h4,h5⟩:=run_append_arg_grows (P:=P) w t ty e i z k.sz i.bytes ht he.info he.zero he.size rfl he.rD k.gV b0 0 0 [] (by simp) (by simp) a m c news h1 h2 (by omega) (by simp only [maxLen];omega) jq
    exact ⟨v',w',hr,dm.of h4,by rw [jo];exact h5,.inr (new v' (Nat.le_refl _) w' h4)⟩
  ·have sy:w.ownsRow 0 e k.sz (.slice (some ⟨g,0,none⟩) n cap) n xs:=⟨ho.1,.inr ⟨g,cap,cur,rfl,Nat.zero_le _,h4,h5,h6,h7,h8⟩⟩
   have jo:ob (.slice (some ⟨g,0,none⟩) n cap)=some g:=by simp only [ob];rw [if_neg (by omega)]
   obtain ⟨v',w',hr,h4,h5,_,h6⟩:=run_append_own_at (P:=P) w 0 t ty e i z k.sz i.bytes ht he.info he.zero he.size rfl he.rD k.gV _ n xs sy a m c news h1 h2 h3 (by simp only [maxLen];omega) jq (Nat.zero_le _)
   refine ⟨v',w',hr,dm.of h4,by rw [jo];exact h5,?_⟩
   rw [jo]
   rcases h4.2 with ⟨rfl,h0⟩ | ⟨g',abb,cX,rfl,_,_,h9,_⟩
   ·omega
   ·have QO:ob (.slice (some ⟨g',0,none⟩) (n+m) abb)=some g':=by simp only [ob];rw [if_neg (by omega)]
    rw [QO]
    simp only [Value.ownBlock,Option.some.injEq] at h6
    rcases h6 with h6 | h6
    ·left;rw [h6]
    ·right;intro b hb;cases hb;omega
theorem av.oW{h h':Hp}(hs:∀id o,h' id=some o→h id=some o){a:AV}{v:Value}(hr:av Z ψ h w a v):av Z ψ h' w a v :=
 hr.less (fun _ h=>h) (cj.refl _ _) (fun id bO=>by
  obtain ⟨o,ho⟩:=Option.ne_none_iff_exists'.1 bO
  exact ⟨by rw [hs id o ho];simp,rfl⟩)
theorem an.oW{h h':Hp}(hs:∀id o,h' id=some o→h id=some o){a:List AV}{v:List Value}(hr:an Z ψ h w a v):an Z ψ h' w a v :=
 hr.less (fun _ h=>h) (cj.refl _ _) (fun id bO=>by
  obtain ⟨o,ho⟩:=Option.ne_none_iff_exists'.1 bO
  exact ⟨by rw [hs id o ho];simp,rfl⟩)
theorem oM{hh:Heap}(g:Good Z ψ h w B0 O)(br:∀id o,hh.get id=some o→h id=some o)(hB:B0≤w.heap.size){id:Nat}(hN:N id){t ty e:TypeId}{k:K}{i:TypeInfo}{z:Value}(ht:P.underlying t=some (.slice e))(he:nP P e k i z)
  {x:AV} {u:Value} {ys:List k.T} (hx:rowOf hh x k=some ys) (hr:av Z ψ h w x u) (hm:ys.length≤fh)
  (bg:∀i ty cs,h i=some (.box ty cs)→aA (fun i=>i≠id) cs) :
  ∃v' w',(Builtin.append_ #[t,t] ty #[.slice none 0 0,u]).run P w=.ok v' w'∧Next Z ψ h w B0 O N Z (dK ψ id v') (dK h id (some (.own (.row e k) ys))) w'∧v'.cells=#[v']∧v'.oneCell'=true:=by
 obtain ⟨news,uX,hv⟩:=Dv (g.sub br) hx (hr.oW br)
 have EY:dm w e k.sz (.slice none 0 0) 0 []:=⟨by simp,.inl ⟨rfl,none,rfl⟩⟩
 obtain ⟨v',w',da,h4,h5,h6⟩:=du (ty:=ty) ht he EY uX (by omega)
 have hg:w.grownBy w' none:=h5
 have kk:cS ψ h w w':=cS.grown hg (fun b e=>by cases e)
 have sm:=kk.same g
 refine ⟨v',w',da,pK g hB id e hN (vs:=news) kk (fun b hb=>hg.block b (g.bL hb) (by simp)) (by simpa using h4) (fun i x hx=>(hv i x hx).mono (fun _ h=>h) sm) (fun b hb => ?_) bg,h4.one⟩
 rcases h6 with h6 | h6
 ·rw [h6] at hb;simp [ob] at hb
 ·exact h6 b hb
theorem xd{hh:Heap}(g:Good Z ψ h w B0 O)(br:∀id o,hh.get id=some o→h id=some o)(hB:B0≤w.heap.size){id cF:Nat}(hN:N id)(bh:cF≠id){t ty e:TypeId}{k:K}{i:TypeInfo}{z:Value}(ht:P.underlying t=some (.slice e))(he:nP P e k i z)
  {xs:List k.T} (ho:h cF=some (.own (.row e k) xs)) {x:AV} {u:Value} {ys:List k.T} (hx:rowOf hh x k=some ys) (hr:av Z ψ h w x u) (hm:xs.length+ys.length≤fh)
  (bg:∀i ty cs,h i=some (.box ty cs)→aA (fun i=>i≠id) cs) :
  ∃v' w',(Builtin.append_ #[t,t] ty #[ψ cF,u]).run P w=.ok v' w'∧Next Z ψ h w B0 O N Z (dK ψ id v') (dK (dK h cF none) id (some (.own (.row e k) (xs++ys)))) w'∧v'.cells=#[v']∧v'.oneCell'=true:=by
 obtain ⟨news,uX,hv⟩:=Dv (g.sub br) hx (hr.oW br)
 obtain ⟨vs,ho0,TM⟩:=g.row cF (.row e k) xs ho
 obtain ⟨v',w',da,h4,h5,h6⟩:=du (ty:=ty) ht he ho0 uX hm
 have hold:h cF≠none:=by rw [ho];simp
 have kk:cS ψ h w w':=cS.grown h5 (fun b e=>⟨cF,hold,e⟩)
 have sm:=kk.same g
 refine ⟨v',w',da,pM g hB id cF hN ho bh h5 (ok:=.row e k) (y:=xs++ys) ⟨_,by rw [List.length_append];exact h4,(TM.append hv ho0.1).EW sm⟩ h6 bg,h4.one⟩
theorem yI{hh:Heap}(g:Good Z ψ h w B0 O)(br:∀id o,hh.get id=some o→h id=some o)(hB:B0≤w.heap.size){id:Nat}(hN:N id){t ty e:TypeId}{k:K}{i:TypeInfo}{z:Value}(ht:P.underlying t=some (.slice e))(he:nP P e k i z)
  {xs:List k.T} {v:Value} (hd:av Z ψ h w (.sl true k xs) v) {x:AV} {u:Value} {ys:List k.T} (hx:rowOf hh x k=some ys) (hr:av Z ψ h w x u) (HV:0<ys.length∨xs=[]) (hm:xs.length+ys.length≤fh)
  (bg:∀i ty cs,h i=some (.box ty cs)→aA (fun i=>i≠id) cs) :
  ∃v' w',(Builtin.append_ #[t,t] ty #[v,u]).run P w=.ok v' w'∧Next Z ψ h w B0 O N Z (dK ψ id v') (dK h id (some (.own (.row e k) (xs++ys)))) w'∧v'.cells=#[v']∧v'.oneCell'=true:=by
 simp only [av] at hd
 obtain ⟨hd,hex⟩:=hd
 obtain ⟨A,c,Mr⟩:=hex trivial
 rcases sx hd with ⟨rfl,rfl⟩ | ⟨a,c',Wq,h1,_,h2,h3,h4,h5⟩
 ·have:=oM (ty:=ty) (N:=N) g br hB hN ht he hx hr (by omega) bg
  simpa using this
 ·rw [h1] at Mr;cases Mr
  obtain ⟨news,⟨h6,h7,hu⟩,hv⟩:=Dv (g.sub br) hx (hr.oW br)
  by_cases hy0:ys.length=0
  ·have hy:ys=[]:=List.eq_nil_of_length_eq_zero hy0
   have qF:xs=[]:=HV.resolve_left (by omega)
   subst qF
   have EY:dm w e k.sz (.slice (some a) 0 0) 0 []:=⟨by simp,.inl ⟨rfl,_,rfl⟩⟩
   refine ⟨v,w,?_,pK g hB id e hN (vs:=[]) (cS.refl _ _ _) (fun _ _=>rfl) (by rw [hy,h1];exact EY) (fun i x hx=>by rw [hy] at hx;simp at hx) (fun b hb=>by rw [h1] at hb;simp [ob] at hb) bg,by rw [h1];exact EY.one⟩
   rw [h1]
   rw [hy0] at hu
   rcases hu with ⟨rfl,_⟩ | ⟨b,cu,rfl,_⟩<;>exact eL ht he.info _ _ _ (Nat.le_refl _) _ _
  rcases hu with ⟨_,h0⟩ | ⟨b,cu,rfl,h8⟩
  ·omega
  ·have hb:=he.bytes
   unfold fh at hm
   have jq:(xs.length+ys.length) * i.bytes≤140737488355328:=Nat.le_trans (Nat.mul_le_mul hm hb) (by decide)
   obtain ⟨v',w',da,h9,mv⟩:=run_append_arg_grows (P:=P) w t ty e i z k.sz i.bytes ht he.info he.zero he.size rfl he.rD k.gV a xs.length xs.length Wq h2 h3 b ys.length cu news h6 h8 (by omega) (by simp only [maxLen];omega) jq
   have kk:cS ψ h w w':=cS.grown mv (fun b e=>by cases e)
   have sm:=kk.same g
   have h9':dm w' e k.sz v' (xs++ys).length (Wq++news):=by
    rw [List.length_append]
    exact dm.of h9
   subst h1
   refine ⟨v',w',da,pK g hB id e hN kk (fun b hb=>mv.block b (g.bL hb) (by simp)) h9' ((h5.append hv h2).EW sm) (fun b hb => ?_) bg,h9'.one⟩
   rcases h9.2 with ⟨e1,_⟩ | ⟨gg,cap,cur,e1,e2,_⟩
   ·rw [e1] at hb;simp [ob] at hb
   ·rw [e1] at hb
    simp only [ob] at hb
    split at hb
    ·cases hb
    ·cases hb;omega
end Go.Vs
namespace Go.Vs
variable {P:Program} {Z Z':Nat→Prop} {ψ ψ':Nat→Value} {h h':Hp} {w w':World} {B0:Nat} {O:Nat→Prop} {N:Nat→Prop}
theorem tx:∀(vs:List Value) (k off:Nat) (cells:Array Value),
  (vs.zipIdx k).foldl (fun cs (p:Value×Nat)=>cs.setIfInBounds (off+p.2) p.1) cells=(dJ cells.toList (off+k) vs).toArray
 | [],k,off,cells=>by simp [dJ]
 | v::r,k,off,cells=>by
  simp only [List.zipIdx_cons,List.foldl_cons,dJ]
  rw [tx r (k+1) off]
  simp [Nat.add_assoc]
theorem wq(V:Array Value)(off:Nat)(cells:Array Value) :
  V.zipIdx.foldl (fun cs (p:Value×Nat)=>cs.setIfInBounds (off+p.2) p.1) cells=(dJ cells.toList off V.toList).toArray:=by
 rw [←Array.foldl_toList,Array.toList_zipIdx]
 exact tx V.toList 0 off cells
theorem rE{α:Type}:∀(vs cs:List α) (off:Nat),(dJ cs off vs).length=cs.length
 | [],_,_=>rfl
 | v::r,cs,off=>by simp only [dJ];rw [rE r];simp
theorem an.dJ:∀{vs cs:List AV} {us ds:List Value} (off:Nat),an Z ψ h w vs us→an Z ψ h w cs ds→an Z ψ h w (dJ cs off vs) (dJ ds off us)
 | [],cs,us,ds,off,h1,h2=>by simp only [an] at h1;subst h1;exact h2
 | v::r,cs,us,ds,off,h1,h2=>by
  simp only [an] at h1
  obtain ⟨u,iz,rfl,h3,h4⟩:=h1
  simp only [Vs.dJ]
  exact an.dJ (off+1) h4 (h2.set off h3)
theorem av.cells{a:AV}{v:Value}(hk:a≠.no)(hr:av Z ψ h w a v):an Z ψ h w a.cells v.cells.toList:=by
 cases a with
 | no=>exact absurd rfl hk
 | agg cs=>simp only [av] at hr;obtain ⟨vs,rfl,hr⟩:=hr;simpa [AV.cells,Value.cells] using hr
 | bool b=>simp only [av] at hr;subst hr;simp [AV.cells,Value.cells,an,av]
 | int k n=>simp only [av] at hr;subst hr;simp [AV.cells,Value.cells,an,av]
 | str s=>simp only [av] at hr;subst hr;simp [AV.cells,Value.cells,an,av]
 | kU=>simp only [av] at hr;subst hr;simp [AV.cells,Value.cells,an,av]
 | fB=>simp only [av] at hr;subst hr;simp [AV.cells,Value.cells,an,av]
 | ref id s i off=>obtain ⟨a,rfl,h2⟩:=(by simpa only [av] using hr:∃a,v=.pointer (some a)∧_);simp only [AV.cells,Value.cells,an];exact ⟨_,[],by simp,hr,rfl⟩
 | fp k x off=>obtain ⟨a,us,rfl,h2⟩:=(by simpa only [av] using hr:∃a us,v=.pointer (some a)∧_);simp only [AV.cells,Value.cells,an];exact ⟨_,[],by simp,hr,rfl⟩
 | sl ex k xs =>
  have qD:=hr
  simp only [av,aE] at qD
  obtain ⟨⟨v',hv,A,c,rfl,_⟩,_⟩:=qD
  cases hv
  simp only [AV.cells,Value.cells,an];exact ⟨_,[],by simp,hr,rfl⟩
 | bF id =>
  have qD:=hr
  simp only [av] at qD
  obtain ⟨⟨hc,_⟩,_⟩:=qD
  simp only [AV.cells,an,hc];exact ⟨_,[],by simp,hr,rfl⟩
 | mp kk vk es =>
  have qD:=hr
  simp only [av,aE] at qD
  obtain ⟨A,hv,_⟩:=qD
  cases hv
  simp only [AV.cells,Value.cells,an];exact ⟨_,[],by simp,hr,rfl⟩
 | fn f cap =>
  have qD:=hr
  simp only [av] at qD
  obtain ⟨vs,rfl,_⟩:=qD
  simp only [AV.cells,Value.cells,an];exact ⟨_,[],by simp,hr,rfl⟩
 | mJ vs =>
  have qD:=hr
  simp only [av] at qD
  obtain ⟨us,rfl,_⟩:=qD
  simp only [AV.cells,Value.cells,an];exact ⟨_,[],by simp,hr,rfl⟩
def rF(Z:Nat→Prop)(ψ:Nat→Value)(h:Hp)(w:World):List (Nat×AV)→List (Nat×Value)→Prop
 | [],[]=>True
 | p::r,q::s=>p.1=q.1∧p.2≠.no∧av Z ψ h w p.2 q.2∧rF Z ψ h w r s
 | _,_=>False
theorem EZ{place:Nat→Option (Nat×Nat)}:∀{ps:List (Nat×AV)} {qs:List (Nat×Value)} {cs cs':List AV} {cells:Array Value},rF Z ψ h w ps qs→an Z ψ h w cs cells.toList→B6 place cs ps=some cs' →
  ∃fk,Instr.fill place cells qs=some fk∧an Z ψ h w cs' fk.toList
 | [],[],cs,cs',cells,_,hr,hf=>by simp only [B6] at hf;cases hf;exact ⟨cells,rfl,hr⟩
 | [],_::_,_,_,_,hp,_,_=>hp.elim
 | _::_,[],_,_,_,hp,_,_=>hp.elim
 | (i,a)::ps,(j,v)::qs,cs,cs',cells,hp,hr,hf=>by
  obtain ⟨rfl,pN,hv,hp⟩:=hp
  simp only [B6] at hf
  simp only at pN hv
  have Mr:=hv.cells pN
  have hl:=Mr.length
  have sB:=hr.length
  simp only [Array.length_toList] at hl sB
  simp only [Instr.fill]
  split at hf
  ·cases hf
  ·rename_i off size hpl
   simp only [hpl]
   split at hf
   ·cases hf
   ·rename_i hc
    have TN:a.cells.length=size:=Decidable.not_not.1 (fun e=>hc (.inl e))
    have tf:¬off+a.cells.length > cs.length:=fun e=>hc (.inr e)
    rw [if_neg (by simp only [Bool.or_eq_true,decide_eq_true_eq];omega)]
    refine EZ hp ?_ hf
    rw [wq,List.toList_toArray]
    exact Mr.dJ off hr
theorem MN(fs:Array Field)(hi:∀f∈fs.toList,∃i,P.info? f.type=some i):(fs.mapM fun f=>do pure (f.offset,←sizeOf f.type):Sem (Array (Nat×Nat))).run P w=.ok (fs.map fun f=>(f.offset,P.cellsOf f.type)) w:=by
 rw [←Array.toArray_toList (xs:=fs)]
 generalize fs.toList=l at hi
 have key:∀(l:List Field) (acc:Array (Nat×Nat)),(∀f∈l,∃i,P.info? f.type=some i) →
   (l.foldlM (fun (bs:Array (Nat×Nat)) f=>do let y ←(do pure (f.offset,←sizeOf f.type):Sem (Nat×Nat));pure (bs.push y)) acc:Sem (Array (Nat×Nat))).run P w=.ok (acc++(l.map fun f=>(f.offset,P.cellsOf f.type)).toArray) w:=by
  intro l
  induction l with
  | nil=>intro acc _;simp
  | cons f r ih =>
   intro acc hl
   obtain ⟨i,hi⟩:=hl f (by simp)
   simp only [List.foldlM_cons,Sem.run_bind,di hi,Result.andThen_ok,Sem.run_pure]
   rw [ih _ (fun f hf=>hl f (List.mem_cons_of_mem _ hf))]
   simp
 have:=key l #[] hi
 simp only [Array.mapM_eq_foldlM,List.size_toArray,List.foldlM_toArray']
 simpa using this
theorem Dy(v:Value):av Z ψ h w (uP v) v:=by
 cases v with
 | bool b=>simp only [uP,av]
 | int k n=>simp only [uP,av]
 | string s=>simp only [uP,av]
 | pointer a =>
  simp only [uP];split
  ·rename_i e;subst e;simp only [av]
  ·simp only [av]
 | slice a n c =>
  simp only [uP];split
  ·rename_i e;obtain ⟨rfl,rfl,rfl⟩:=e;simp only [av]
  ·simp only [av]
 | func fn first cap =>
  cases fn with
  | func f =>
   simp only [uP];split
   ·rename_i e
    have h1:first=#[]:=Array.eq_empty_of_size_eq_zero e.1
    have h2:cap=#[]:=Array.eq_empty_of_size_eq_zero e.2
    subst h1;subst h2
    simp only [av];exact ⟨#[],rfl,by simp [an]⟩
   ·simp only [av]
  | _=>simp only [uP,av]
 | _=>simp only [uP,av]
theorem yJ:∀vs:List Value,an Z ψ h w (vs.map uP) vs
 | []=>by simp [an]
 | v::r=>by simp only [List.map_cons,an];exact ⟨v,r,rfl,Dy v,yJ r⟩
theorem E0(v:Value):av Z ψ h w (sj v) v:=by
 cases v with
 | agg cs=>simp only [sj,av];exact ⟨cs,rfl,yJ _⟩
 | _=>simp only [sj];exact Dy _
theorem Cc(v:Value):(uP v).cells=[uP v]:=by
 cases v with
 | pointer a=>simp only [uP];split<;>rfl
 | slice a n c=>simp only [uP];split<;>rfl
 | func fn first cap =>
  cases fn with
  | func f=>simp only [uP];split<;>rfl
  | _=>rfl
 | _=>rfl
theorem yK(v:Value):an Z ψ h w (sj v).cells v.cells.toList:=by
 cases v with
 | agg cs=>simp only [sj,AV.cells,Value.cells];exact yJ _
 | _ =>
  simp only [sj]
  rw [Cc]
  simp only [an]
  exact ⟨_,[],rfl,Dy _,rfl⟩
theorem nQ{t:TypeId}{zs:List AV}(hz:yl P t=some zs):∃i z,P.info? t=some i∧i.zero=some z∧zs=(sj z).cells∧∀u∈z.cells.toList,u.oneCell'=true:=by
 unfold yl at hz
 obtain ⟨i,hi,rG⟩:=Option.bind_eq_some_iff.1 hz
 obtain ⟨z,uM,HB⟩:=Option.bind_eq_some_iff.1 rG
 split at HB
 ·rename_i eU
  cases HB
  exact ⟨i,z,hi,uM,rfl,fun u hu=>List.all_eq_true.1 eU u hu⟩
 ·cases HB
theorem tz{t:TypeId}{i:TypeInfo}{z:Value}(hi:P.info? t=some i)(hz:i.zero=some z):(zeroValue t).run P w=.ok z w:=by
 simp [zeroValue,typeInfo,hi,hz]
theorem KJ{t:TypeId}{fs:Array Field}{zs cs:List AV}{ps:List (Nat×AV)}{qs:Array (Nat×Value)}(hz:yl P t=some zs)(ht:P.underlying t=some (.struct fs))(eU:fs.toList.all (fun f=>(P.info? f.type).isSome)=true)
  (hp:rF Z ψ h w ps qs.toList) (hf:B6 (fun i=>(fs[i]?).map fun f=>(f.offset,P.cellsOf f.type)) zs ps=some cs) :
  ∃V,(Instr.build t qs).run P w=.ok V w∧av Z ψ h w (.agg cs) V:=by
 obtain ⟨i,z,hi,Wr,rfl,_⟩:=nQ hz
 obtain ⟨fk,h1,h2⟩:=EZ hp (yK z) hf
 have hpl:=MN (P:=P) (w:=w) fs (fun f hf=>Option.isSome_iff_exists.1 (List.all_eq_true.1 eU f hf))
 refine ⟨.agg fk,?_,by simp only [av];exact ⟨_,rfl,h2⟩⟩
 have MO:Instr.fill (fun x=>(fs.map fun f=>(f.offset,P.cellsOf f.type))[x]?) z.cells qs.toList=some fk:=by
  rw [←h1];congr 1;funext x;simp
 simp only [Instr.build,Sem.run_bind,tz hi Wr,run_underlying ht,Result.andThen_ok,hpl,MO]
 rfl
theorem HZ:∀(k:K) (cs:List AV) (x:k.T) (r:List AV),dec k cs=some (x,r)→cs.head?≠some .no
 | .int ik,cs,x,r,h,hc=>by
  cases cs with
  | nil=>simp at hc
  | cons a s=>simp at hc;subst hc;simp [dec,Dk] at h
 | .bool,cs,x,r,h,hc=>by
  cases cs with
  | nil=>simp at hc
  | cons a s=>simp at hc;subst hc;simp [dec,xq] at h
 | .str,cs,x,r,h,hc=>by
  cases cs with
  | nil=>simp at hc
  | cons a s=>simp at hc;subst hc;simp [dec,Dl] at h
 | .sl k,cs,x,r,h,hc=>by
  cases cs with
  | nil=>simp at hc
  | cons a s=>simp at hc;subst hc;simp [dec,Jy] at h
 | .pair a b,cs,x,r,h,hc=>by
  simp only [dec] at h
  split at h
  ·rename_i x1 r1 h1
   exact HZ a cs x1 r1 h1 hc
  ·cases h
 | .one k,cs,x,r,h,hc=>by
  simp only [dec] at h
  exact HZ k cs x r h hc
 | .mp kk vk,cs,x,r,h,hc=>by
  cases cs with
  | nil=>simp at hc
  | cons a s=>simp at hc;subst hc;simp [dec,Jz] at h
theorem Cd{k:K}{hh:Heap}{a:AV}{x:k.T}(h:dI k (a.cells.map (cC hh))=some x):a≠.no:=by
 rintro rfl
 unfold dI at h
 split at h
 ·rename_i x' h1
  exact HZ k _ _ _ h1 (by simp [AV.cells,cC])
 ·cases h
theorem E1{k:K}{hh:Heap}(g:Good Z ψ hh.get w B0 O)(hz:∀b,Z b→Z' b):∀{ps:List (Nat×AV)} {qs:List (Nat×Value)} {xs:List k.T} {i:Nat} {cells:Array Value},
  (∀p∈ps,∀id b,AV.bF id∈p.2.cells→hh.get id≠none→ob (ψ id)=some b→Z' b)→rF Z ψ hh.get w ps qs→pw k hh i ps=some xs→(i+ps.length) * k.sz≤cells.size →
  ∃fk flat,Instr.fill (fun i=>some (i * k.sz,k.sz)) cells qs=some fk∧fk.toList=cells.toList.take (i * k.sz)++flat++cells.toList.drop ((i+ps.length) * k.sz)∧flat.length=ps.length * k.sz∧mu Z' w k xs flat∧(∀q∈flat,q.oneCell'=true)∧xs.length=ps.length
 | [],[],xs,i,cells,_,_,hl,_=>by
  simp only [pw] at hl;cases hl
  exact ⟨cells,[],rfl,by simp,by simp,fun i x hx=>by simp at hx,by simp,rfl⟩
 | [],_::_,_,_,_,_,hp,_,_=>hp.elim
 | _::_,[],_,_,_,_,hp,_,_=>hp.elim
 | (j,a)::ps,(j',v)::qs,xs,i,cells,hb,hp,hl,hs=>by
  obtain ⟨hjj,pN,hv,hp⟩:=hp
  simp only at hjj pN hv
  subst hjj
  simp only [pw] at hl
  split at hl
  ·rename_i e
   subst e
   split at hl
   ·rename_i y ys h1 h2
    cases hl
    simp only [List.length_cons] at hs
    have Mr:=hv.cells pN
    have hvw:=mS g hz (hb (j,a) (by simp)) Mr
    have hk:=dt h1 hvw
    have MP:=hk.len
    rw [Array.length_toList] at MP
    have ia:j * k.sz+k.sz≤cells.size:=by
     have:(j+1) * k.sz≤(j+(ps.length+1)) * k.sz:=Nat.mul_le_mul_right _ (by omega)
     rw [Nat.succ_mul] at this;omega
    simp only [Instr.fill]
    rw [if_neg (by simp only [Bool.or_eq_true,decide_eq_true_eq];omega),wq]
    obtain ⟨fk,flat,h3,h4,h5,h6,h7,h8⟩:=E1 g hz (ps:=ps) (qs:=qs) (xs:=ys) (i:=j+1) (cells:=(dJ cells.toList (j * k.sz) v.cells.toList).toArray) (fun p hp=>hb p (List.mem_cons_of_mem _ hp)) hp h2 (by
     rw [List.size_toArray,rE]
     have e9:cells.toList.length=cells.size:=Array.length_toList
     rw [e9,show j+1+ps.length=j+(ps.length+1) by omega];exact hs)
    refine ⟨fk,v.cells.toList++flat,h3,?_,?_,?_,?_,by simp [h8]⟩
    ·rw [h4,List.toList_toArray,qE _ _ _ (by rw [Array.length_toList,Array.length_toList];omega)]
     have e1:(j+1) * k.sz=j * k.sz+k.sz:=Nat.succ_mul _ _
     have e2:(j+1+ps.length) * k.sz=(j+(ps.length+1)) * k.sz:=by congr 1;omega
     rw [List.length_cons,e1,e2]
     have l1:(cells.toList.take (j * k.sz)++v.cells.toList).length=j * k.sz+k.sz:=by
      rw [List.length_append,List.length_take,Array.length_toList,Array.length_toList];omega
     rw [←l1,List.take_left]
     have l2:(j+(ps.length+1)) * k.sz=(cells.toList.take (j * k.sz)++v.cells.toList).length+(ps.length * k.sz):=by
      rw [l1,Nat.add_mul,Nat.add_mul];omega
     have hd:(cells.toList.take (j * k.sz)++v.cells.toList++cells.toList.drop (j * k.sz+v.cells.toList.length)).drop ((j+(ps.length+1)) * k.sz)=cells.toList.drop ((j+(ps.length+1)) * k.sz):=by
      rw [l2,List.drop_append,List.drop_eq_nil_of_le (by omega),List.nil_append,Nat.add_sub_cancel_left,List.drop_drop]
      congr 1
      rw [l1,Array.length_toList];omega
     rw [hd]
     simp [List.append_assoc]
    ·rw [List.length_append,h5,Array.length_toList,MP,List.length_cons,Nat.succ_mul];omega
    ·intro n x hx
     cases n with
     | zero =>
      simp only [List.getElem?_cons_zero,Option.some.injEq] at hx;subst hx
      have TO:v.cells.toList.length=k.sz:=by rw [Array.length_toList];exact MP
      rw [Nat.zero_mul,List.drop_zero,←TO,List.take_left]
      exact hk
     | succ n =>
      have:=h6 n x (by simpa using hx)
      have TO:v.cells.toList.length=k.sz:=by rw [Array.length_toList];exact MP
      have e:(n+1) * k.sz=v.cells.toList.length+n * k.sz:=by rw [TO,Nat.succ_mul];omega
      rw [e,List.drop_append,List.drop_eq_nil_of_le (by omega),List.nil_append,Nat.add_sub_cancel_left]
      exact this
    ·intro q hq
     rcases List.mem_append.1 hq with hq | hq
     ·exact hk.one q hq
     ·exact h7 q hq
   ·cases hl
  ·cases hl
theorem Next.drop{Z1:Nat→Prop}{h1:Hp}(n:Next Z1 ψ h1 w B0 O N Z' ψ' h' w')(hz:∀b,Z b→Z1 b)(rG:∀b,Z1 b→Z b∨Own ψ h b)(br:∀id o,h1 id=some o→h id=some o):Next Z ψ h w B0 O N Z' ψ' h' w':=by
 have hn:∀id,h1 id≠none→h id≠none:=fun id hn=>by
  obtain ⟨o,ho⟩:=Option.ne_none_iff_exists'.1 hn
  rw [br id o ho];simp
 have ho:∀b,Own ψ h1 b→Own ψ h b:=fun b ⟨id,h2,h3⟩=>⟨id,hn id h2,h3⟩
 refine ⟨fun b hb=>n.fj b (hz b hb),fun b hb => ?_,⟨n.keep.os,n.keep.tape,n.keep.output,n.keep.size,fun b hb pN=>n.keep.block b hb (fun h=>pN (ho b h))⟩,fun id bO=>(n.ids id bO).imp (fun ⟨h2,h3⟩=>⟨hn id h2,h3⟩) (fun h=>h),n.dD⟩
 rcases n.dU b hb with h2 | h2 | h2
 ·exact (rG b h2).imp (fun h=>h) (fun h=>.inl h)
 ·exact .inr (.inl (ho b h2))
 ·exact .inr (.inr h2)
theorem rF.oW{h h':Hp}(hs:∀id o,h' id=some o→h id=some o):∀{ps:List (Nat×AV)} {qs:List (Nat×Value)},rF Z ψ h w ps qs→rF Z ψ h' w ps qs:=by
 intro ps
 induction ps with
 | nil=>intro qs hp;cases qs with
  | nil=>trivial
  | cons q r=>exact hp.elim
 | cons p r ih=>intro qs hp;cases qs with
  | nil=>exact hp.elim
  | cons q s=>exact ⟨hp.1,hp.2.1,hp.2.2.1.oW hs,ih hp.2.2.2⟩
theorem E2{hh:Heap}{Z1:Nat→Prop}(g:Good Z1 ψ h w B0 O)(g0:Good Z ψ hh.get w B0 O)(hz:∀b,Z b→Z1 b)(hB:B0≤w.heap.size){id:Nat}(hN:N id){t e:TypeId}{k:K}{i:TypeInfo}{z:Value}(ht:P.underlying t=some (.slice e))(he:nP P e k i z)
  {ps:List (Nat×AV)} {qs:Array (Nat×Value)} {xs:List k.T} (Mt:∀p∈ps,∀id b,AV.bF id∈p.2.cells→hh.get id≠none→ob (ψ id)=some b→Z1 b) (hp:rF Z ψ hh.get w ps qs.toList) (hl:pw k hh 0 ps=some xs) (hn:ps.length * k.sz≤1048576)
  (bg:∀i ty cs,h i=some (.box ty cs)→aA (fun i=>i≠id) cs) :
  ∃v' w',(Instr.buildSlice t ps.length qs).run P w=.ok v' w'∧Next Z1 ψ h w B0 O N Z1 (dK ψ id v') (dK h id (some (.own (.row e k) xs))) w'∧(v'.cells=#[v']∧v'.oneCell'=true)∧(∀b,Own ψ h b→w'.heap[b]? = w.heap[b]?)∧(∀b,ob v'=some b→w.heap.size≤b)∧∃A c,v'=.slice A c c:=by
 let E3:Array Value:=(Array.range (ps.length * k.sz)).map (z.cells[· % z.cells.size]!)
 have uY:E3.size=ps.length * k.sz:=by simp [E3]
 obtain ⟨fk,flat,h1,h2,h3,h4,h5,h6⟩:=E1 (Z':=Z1) g0 hz (ps:=ps) (qs:=qs.toList) (xs:=xs) (i:=0) (cells:=E3) Mt hp hl (by rw [Nat.zero_add,uY];exact Nat.le_refl _)
 have Sw:fk.toList=flat:=by
  rw [h2,Nat.zero_mul,List.take_zero,List.nil_append,Nat.zero_add,List.drop_eq_nil_of_le (by rw [Array.length_toList,uY];exact Nat.le_refl _),List.append_nil]
 have KK:fk.size=ps.length * k.sz:=by rw [←Array.length_toList,Sw];exact h3
 have HV:=k.gV
 have hlen:ps.length≤1048576:=Nat.le_trans (Nat.le_mul_of_pos_right _ HV) hn
 have sy:(w.alloc (.cells fk e)).ownsRow 0 e k.sz (.slice (some ⟨w.heap.size,0,none⟩) ps.length ps.length) xs.length flat:=by
  have:=World.ownsRow_lit (base:=0) (e:=e) (size:=k.sz) w fk ps.length (Nat.zero_le _) (by simp only [maxLen];omega) KK
  rw [h6,←Sw];exact this
 refine ⟨.slice (some ⟨w.heap.size,0,none⟩) ps.length ps.length,w.alloc (.cells fk e),?_,pK g hB id e hN (vs:=flat) (cS.alloc _ _ _ _) (fun b hb=>heap_alloc_old w _ (g.bL hb)) (dm.of sy) (h4.EW ((cS.alloc ψ h w _).same g)) (fun b hb=>by simp only [ob] at hb;split at hb<;>cases hb;exact Nat.le_refl _) bg,(dm.of sy).one,fun b hb=>heap_alloc_old w _ (g.bL hb),fun b hb=>by simp only [ob] at hb;split at hb<;>cases hb;exact Nat.le_refl _,_,_,rfl⟩
 ·show _=Result.ok (Value.slice (some ⟨w.heap.size,0,none⟩) ps.length ps.length) _
  have yL:¬ps.length * k.sz > 2 ^ 24:=by omega
  have hc:P.cellsOf e=k.sz:=by simp [Program.cellsOf,he.info,he.size]
  simp only [Instr.buildSlice,Sem.run_bind,run_underlying ht,Result.andThen_ok,di he.info,hc]
  rw [if_neg yL]
  have BA:(newRow e fk).run P w=.ok ⟨w.heap.size,0,none⟩ (w.alloc (.cells fk e)):=rfl
  by_cases h0:ps.length * k.sz=0
  ·have QP:E3=#[]:=Array.eq_empty_of_size_eq_zero (by rw [uY,h0])
   have rG:(Array.range (ps.length * k.sz)).map (fun x=>(#[]:Array Value)[x % (#[]:Array Value).size]!)=#[]:=Array.eq_empty_of_size_eq_zero (by simp [h0])
   rw [if_pos h0]
   rw [QP] at h1
   simp only [Sem.run_pure,Result.andThen_ok,rG,h1,Sem.run_bind,BA]
  ·rw [if_neg h0]
   simp only [Sem.run_bind,tz he.info he.zero,Result.andThen_ok,Sem.run_pure]
   rw [show (Array.range (ps.length * k.sz)).map (fun x=>z.cells[x % z.cells.size]!)=E3 from rfl,h1]
   simp only [Sem.run_bind,BA,Result.andThen_ok,Sem.run_pure]
theorem MQ(g:Good Z ψ h w B0 O)(hB:B0≤w.heap.size){id:Nat}{e:TypeId}{k:K}{xs:List k.T}{v':Value}(n:Next Z ψ h w B0 O N Z (dK ψ id v') (dK h id (some (.own (.row e k) xs))) w')
  (rB:∀b,Own ψ h b→w'.heap[b]? = w.heap[b]?) (BA:∀b,ob v'=some b→w.heap.size≤b) (hex:∃A c,v'=.slice A c c) :
  Next Z ψ h w B0 O N (fun b=>Z b∨ob v'=some b) ψ h w'∧av (fun b=>Z b∨ob v'=some b) ψ h w' (.sl true k xs) v':=by
 have mT:jf Z w' (.row e k) v' xs:=by
  have:=n.dD.row id (.row e k) xs (ba _ _ _)
  rwa [ba] at this
 obtain ⟨vs,ho,hv⟩:=mT
 have m:Next Z ψ h w B0 O (fun _=>False) Z ψ h w':=g.more n.keep rB (fun _ _=>⟨rfl,rfl⟩) (fun i ty cs hb=>by
  have e:(fun _:Nat=>¬False)=fun _=>True:=by funext i;simp
  rw [e];exact aA.top cs) (fun _ _ _ h=>h.elim) (fun _ _ _ h=>h.elim) (fun _ _ h=>h.elim) (fun _ _ _ h=>h.elim) hB
 have hz:∀b,Z b→Z b∨ob v'=some b:=fun b h=>.inl h
 refine ⟨⟨hz,fun b hb=>hb.imp (fun h=>h) fun h=>.inr (BA b h),m.keep,fun i hi=>.inl ((m.ids i hi).resolve_right (fun h=>h)),⟨fun i ty cs hb => ?_,fun i ok x hb => ?_,fun i b h1 h2 => ?_,m.dD.apart,fun b hb => ?_⟩⟩,?_⟩
 ·obtain ⟨gg,vs,f1,f2,f3,f4⟩:=m.dD.box i ty cs hb
  exact ⟨gg,vs,f1,f2,an.less hz (cj.refl _ _) (fun _ h=>⟨h,rfl⟩) f3,f4⟩
 ·exact (m.dD.row i ok x hb).kept hz (cj.refl _ _) (fun _ _=>rfl)
 ·obtain ⟨k1,k2⟩:=m.dD.live i b h1 h2
  refine ⟨fun hb=>hb.elim k1 fun hb => ?_,k2⟩
  have:=g.bL ⟨i,h1,h2⟩
  have:=BA b hb
  omega
 ·rcases hb with hb | hb
  ·exact m.dD.jm b hb
  ·exact jf.lt (ok:=.row e k) ⟨vs,ho,hv⟩ hb
 ·simp only [av]
  exact ⟨tv ho hv (fun b h=>.inl h) (fun b h=>.inr h),fun _=>hex⟩
end Go.Vs
