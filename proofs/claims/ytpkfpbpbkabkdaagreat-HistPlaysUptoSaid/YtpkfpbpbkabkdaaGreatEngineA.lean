/- The value semantics of the -/
import Derived.Control
import Derived.Calls
import Derived.Orders
import GoSem.Machine.Frame
import Derived.Laws.AppendOwn
import GoSem.Core.Utf8
import Derived.Below
import Derived.Laws.OwnMore
import Derived.Laws.Rows
import Derived.Deep.Draws
import Derived.Laws.CopyRow
import Derived.Laws.Cells
import Derived.Laws.Sem
import Derived.Maps.AppendAt
import Derived.ArgAppend
import Derived.WalkKit
namespace Go
abbrev aci:=@List.getElem?_eq_getElem
abbrev ack:=@List.getElem?_eq_some_iff
abbrev acm:=@List.mem_cons_of_mem
abbrev acn:=@List.mem_cons
abbrev acr:=@List.mem_append_left
abbrev acV:=@Array.getElem?_eq_some_iff
abbrev acW:=@List.mem_append_right
abbrev ac9:=@List.mem_cons_self
abbrev ada:=@Option.some.inj
abbrev adb:=@List.mem_append
abbrev ade:=@Option.ne_none_iff_exists'
abbrev adf:=@List.nodup_cons
abbrev adg:=@Nat.le_refl
abbrev adh:=@List.eq_nil_of_length_eq_zero
abbrev adi:=@Option.isSome_iff_exists
abbrev adj:=@List.mem_of_getElem?
abbrev adk:=@Nat.le_trans
abbrev adl:=@Array.getElem?_eq_getElem
abbrev adm:=@Nat.mul_le_mul_right
abbrev adn:=@List.rel_of_pairwise_cons
abbrev ado:=@List.all_eq_true
abbrev adp:=@Option.bind_eq_some_iff
abbrev adq:=@List.mem_map
abbrev adr:=@List.getElem_mem
abbrev ads:=@Option.map_eq_some_iff
abbrev adt:=@List.mem_of_find?_eq_some
abbrev adu:=@List.drop_eq_getElem_cons
abbrev adv:=@List.length_filter_le
abbrev adw:=@List.mem_range
abbrev adx:=@List.Perm.append_right
abbrev ady:=@Nat.lt_of_lt_of_le
abbrev adz:=@List.nodup_append
abbrev adA:=@List.append_of_mem
abbrev adB:=@List.mem_flatten
abbrev adC:=@List.find?_some
abbrev adD:=@Nat.zero_le
abbrev adE:=@Array.mem_of_getElem?
abbrev adF:=@List.mem_of_mem_drop
abbrev adG:=@Array.all_eq_true_iff_forall_mem
abbrev adH:=@Array.eq_empty_of_size_eq_zero
abbrev adI:=@List.countP_le_length
abbrev adJ:=@List.getElem?_of_mem
abbrev adK:=@List.ext_getElem?
abbrev adM:=@List.getElem_of_mem
abbrev adN:=@List.length_pos_of_mem
abbrev adO:=@List.perm_middle
abbrev adP:=@List.perm_append_comm
abbrev adQ:=@Nat.lt_or_ge
abbrev adR:=@List.mem_filter
abbrev adS:=@List.drop_eq_nil_of_le
abbrev adT:=@List.pairwise_iff_getElem
abbrev adU:=@Nat.mod_lt
abbrev adV:=@List.take_of_length_le
abbrev adW:=@List.Perm.refl
abbrev adX:=@List.Pairwise.of_cons
abbrev adY:=@List.mem_of_mem_erase
abbrev adZ:=@List.mem_of_mem_take
abbrev ad0:=@List.mem_erase_of_ne
abbrev ad1:=@List.map_congr_left
abbrev ad4:=@Nat.succ_mul
abbrev ad7:=@List.mem_filterMap
end Go
namespace Go.Vs
inductive K where
 |int (k:IntKind)|bool|str|sl (k:K)|pair (a b:K)|one (k:K)|mp (kk vk:K)
 deriving DecidableEq
def K.T:K→Type
 |.int _=>Int
 |.bool=>Bool
 |.str=>ByteArray
 |.sl k=>List k.T
 |.pair a b=>a.T×b.T
 |.one k=>k.T
 |.mp kk vk=>List (kk.T×vk.T)
def K.sz:K→Nat
 |.pair a b=>a.sz+b.sz
 |.one k=>k.sz
 |_=>1
def pU(P:Program):Nat→TypeId→Option K
 |0,_=>none
 |d+1,t =>
  match P.underlying t with
  |some (.int k)=>some (.int k)
  |some .bool=>some .bool
  |some .string=>some .str
  |some (.slice e)=>(pU P d e).map .sl
  |some (.map a b)=>match pU P d a,pU P d b with
   |some x,some y=>some (.mp x y)
   |_,_=>none
  |some (.struct fs) =>
   match (fs.toList.map fun f=>pU P d f.type).reverse with
   |[]=>none
   |[k]=>k.map .one
   |last::rest=>rest.foldl (fun acc k=>match k,acc with|some k,some a=>some (.pair k a)|_,_=>none) last
  |_=>none
def K.flat:K→Bool
 |.sl _=>false
 |.mp _ _=>false
 |.pair a b=>a.flat&&b.flat
 |.one k=>k.flat
 |_=>true
def K.isAgg:K→Bool
 |.pair _ _=>true
 |.one _=>true
 |_=>false
inductive AV where
 |no
 |bool (b:Bool)
 |int (k:IntKind) (n:Int)
 |str (s:ByteArray)
 |kI
 |fK
 |ref (id s i off:Nat)
 |fp (k:K) (x:k.T) (off:Nat)
 |sl (ex:Bool) (k:K) (xs:List k.T)
 |mp (kk vk:K) (es:List (kk.T×vk.T))
 |bF (id:Nat)
 |fn (f:FuncId) (cap:List AV)
 |agg (cs:List AV)
 |mG (vs:List AV)
def AV.isAgg:AV→Bool
 |.agg _=>true
 |_=>false
def AV.cells:AV→List AV
 |.agg cs=>cs
 |v=>[v]
def enc:(k:K)→k.T→List AV
 |.int ik,n=>[.int ik n]
 |.bool,b=>[.bool b]
 |.str,s=>[.str s]
 |.sl k,xs=>[.sl false k xs]
 |.mp kk vk,es=>[.mp kk vk es]
 |.pair a b,x=>enc a x.1++enc b x.2
 |.one k,x=>enc k x
def Ee(ik:IntKind):List AV→Option (Int×List AV)
 |.int Ye n::r=>if Ye=ik then some (n,r) else none
 |_=>none
def yy:List AV→Option (Bool×List AV)
 |.bool b::r=>some (b,r)
 |_=>none
def Ef:List AV→Option (ByteArray×List AV)
 |.str s::r=>some (s,r)
 |_=>none
def KI(k:K):List AV→Option (List k.T×List AV)
 |.sl _ k' xs::r=>if h:k'=k then some (h▸xs,r) else none
 |.fK::r=>some ([],r)
 |_=>none
def KJ(kk vk:K):List AV→Option (List (kk.T×vk.T)×List AV)
 |.mp KK SR es::r=>if h:KK=kk∧SR=vk then some (h.1▸h.2▸es,r) else none
 |_=>none
def dec:(k:K)→List AV→Option (k.T×List AV)
 |.int ik,cs=>Ee ik cs
 |.bool,cs=>yy cs
 |.str,cs=>Ef cs
 |.sl k,cs=>KI k cs
 |.mp kk vk,cs=>KJ kk vk cs
 |.pair a b,cs =>
  match dec a cs with
  |some (x,r)=>match dec b r with
   |some (y,r')=>some ((x,y),r')
   |none=>none
  |none=>none
 |.one k,cs=>dec k cs
def c8(k:K)(cs:List AV):Option k.T :=match dec k cs with
 |some (x,[])=>some x
 |_=>none
def cc:(k:K)→k.T→AV
 |.pair a b,x=>.agg (enc (.pair a b) x)
 |.one k,x=>.agg (enc (.one k) x)
 |.int ik,n=>.int ik n
 |.bool,b=>.bool b
 |.str,s=>.str s
 |.sl k,xs=>.sl false k xs
 |.mp kk vk,es=>.mp kk vk es
inductive OK where
 |row (ty:TypeId) (k:K)|map (kk vk:K)|iter (kk vk:K)|nc
 deriving DecidableEq
abbrev OK.T:OK→Type
 |.row _ k=>List k.T
 |.map kk vk=>List (kk.T×vk.T)
 |.iter kk vk=>Option (kk.T×vk.T)×List (kk.T×vk.T)
 |.nc=>ByteArray×Nat
inductive Ob where
 |box (ty:TypeId) (cs:List AV)
 |own (ok:OK) (x:ok.T)
abbrev Heap:=List (Nat×Ob)
def Heap.get:Heap→Nat→Option Ob
 |[],_=>none
 |(i,o)::r,n=>if i=n then some o else Heap.get r n
def Heap.del:Heap→Nat→Heap
 |[],_=>[]
 |(i,o)::r,n=>if i=n then Heap.del r n else(i,o)::Heap.del r n
def Heap.set(h:Heap)(n:Nat)(o:Ob):Heap:=(n,o)::h.del n
def cE(h:Heap):AV→AV
 |.bF id=>match h.get id with
  |some (.own (.row _ k) xs)=>.sl false k xs
  |some (.own (.map kk vk) es)=>.mp kk vk es
  |_=>.no
 |v=>v
def drop1(h:Heap):AV→Heap
 |.bF id=>h.del id
 |_=>h
def cy(h:Heap):List AV→Heap
 |[]=>h
 |c::r=>cy (drop1 h c) r
structure St where
 tmps:List (Nat×AV)
 heap:Heap
def look:List (Nat×AV)→Nat→AV
 |[],_=>.no
 |(i,v)::r,n=>if i=n then v else look r n
def St.put(s:St)(d:Option Tmp)(v:AV):St :=match d with
 |some d=>{ s with tmps:=(d,v)::s.tmps }
 |none=>s
def vG:Value→AV
 |.bool b=>.bool b
 |.int k n=>.int k n
 |.string s=>.str s
 |.pointer a=>if a=none then .kI else .no
 |.slice a n c=>if a=none∧n=0∧c=0 then .fK else .no
 |.func fn first cap=>match fn with
  |.func f=>if first.size=0∧cap.size=0 then .fn f [] else .no
  |_=>.no
 |_=>.no
def sQ(v:Value):AV :=match v with
 |.agg cs=>.agg (cs.toList.map vG)
 |v=>vG v
def ρ(s:List (Nat×AV)):Operand→AV
 |.tmp t=>look s t
 |.const v=>sQ v
 |.global _=>.no
 |.func f=>.fn f []
inductive bE where
 |val (v:AV)
 |new (v:AV) (os:Heap)
 |wr (v:AV) (h:Heap)
def bE.v:bE→AV
 |.val v=>v
 |.new v _=>v
 |.wr v _=>v
def bE.h(h:Heap):bE→Heap
 |.val _=>h
 |.new _ os=>os++h
 |.wr _ h'=>h'
inductive CK where
 |val (k:K)
 |own (ok:OK)
inductive PK where
 |val (k:K)
 |ref
 |own
 |FH (f:FuncId) (n:Nat)
 |agg (n:Nat)
inductive RK where
 |val (k:K)
 |own (ok:OK)
 |eu (b:Nat) (alts:List (Nat×Nat×Nat))
 |agg (c:List CK)
inductive BK where
 |box (ty:TypeId) (di:List CK)
 |own (ok:OK)
def BK.di:BK→List CK
 |.box _ c=>c
 |.own _=>[]
def CK.T:CK→Type
 |.val k=>k.T
 |.own ok=>ok.T
def pV:List CK→Type
 |[]=>Unit
 |c::r=>c.T×pV r
abbrev BK.T:BK→Type
 |.box _ c=>pV c
 |.own ok=>ok.T
def vH:List BK→Type
 |[]=>Unit
 |b::r=>b.T×vH r
def FQ:List K→Type
 |[]=>Unit
 |k::r=>k.T×FQ r
def RK.T:RK→Type
 |.val k=>k.T
 |.own ok=>ok.T
 |.eu _ alts=>Option (Fin alts.length×Nat)
 |.agg c=>pV c
def lk:List RK→Type
 |[]=>Unit
 |r::l=>r.T×lk l
def kr:List PK→List K
 |[]=>[]
 |.val k::r=>k::kr r
 |_::r=>kr r
structure aL where
 ps:List PK
 bs:List BK
 rs:List RK
 x:Option (Heap→Nat→List AV→Option (Bool×bE)):=none
abbrev aL.A(g:aL):Type:=FQ (kr g.ps)×vH g.bs
abbrev aL.B(g:aL):Type:=lk g.rs×vH g.bs
def RK.plain:RK→Bool
 |.val _=>true
 |.own ..=>true
 |.eu ..=>false
 |.agg c=>decide (c.length≤16)
def RK.flat:RK→Bool
 |.val k=>k.flat
 |.own ..=>false
 |.eu ..=>true
 |.agg _=>false
section
variable (P:Program)
def IY:TypeDesc→Bool
 |.struct _=>true
 |.array _ _=>true
 |_=>false
def CV(t:TypeId):Option Bool:=(P.underlying t).map IY
def gG(t:TypeId)(f:Nat):Option (Nat×TypeId) :=match P.underlying t with
 |some (.struct fs)=>(fs[f]?).map fun x=>(x.offset,x.type)
 |_=>none
def w7(t:TypeId):Option TypeId :=match P.underlying t with
 |some (.slice e)=>some e
 |_=>none
def zr(t:TypeId):Option (List AV):=(P.info? t).bind fun i=>i.zero.bind fun z=>if z.cells.toList.all (·.oneCell') then some (sQ z).cells else none
def dO(t:TypeId)(cs:List AV):Option AV :=match CV P t with
 |some true=>if P.cellsOf t≤cs.length then some (.agg (cs.take (P.cellsOf t))) else none
 |some false=>match cs with
  |c::_=>some c
  |[]=>none
 |none=>none
def dM{α:Type}(cs:List α):Nat→List α→List α
 |_,[]=>cs
 |off,v::r=>dM (cs.set off v) (off+1) r
def CW(place:Nat→Option (Nat×Nat))(cs:List AV):List (Nat×AV)→Option (List AV)
 |[]=>some cs
 |(i,v)::r =>
  match place i with
  |none=>none
  |some (off,size)=>if v.cells.length≠size∨off+v.cells.length>cs.length then none else CW place (dM cs off v.cells) r
def dR(op:BinOp)(k:IntKind)(a b:Int):Int :=k.wrap ((match op with
  |.and=>BitVec.ofInt k.bits a &&& BitVec.ofInt k.bits b
  |.or=>BitVec.ofInt k.bits a ||| BitVec.ofInt k.bits b
  |.xor=>BitVec.ofInt k.bits a ^^^ BitVec.ofInt k.bits b
  |_=>BitVec.ofInt k.bits a &&& ~~~(BitVec.ofInt k.bits b)).toNat:Int)
def YG(k:IntKind)(a b:Int):Int:=k.wrap (a*2 ^ (min b.toNat k.bits))
def kJ(k:IntKind)(a b:Int):Int:=a.fdiv (2 ^ (min b.toNat k.bits))
def Wc(op:BinOp)(k:IntKind)(a b:Int):Option AV :=match op with
 |.add=>some (.int k (k.wrap (a+b)))
 |.sub=>some (.int k (k.wrap (a-b)))
 |.mul=>some (.int k (k.wrap (a*b)))
 |.eql=>some (.bool (a==b))
 |.neq=>some (.bool (a != b))
 |.lss=>some (.bool (decide (a<b)))
 |.leq=>some (.bool (decide (a≤b)))
 |.gtr=>some (.bool (decide (a>b)))
 |.geq=>some (.bool (decide (a≥b)))
 |.and=>some (.int k (dR .and k a b))
 |.or=>some (.int k (dR .or k a b))
 |.xor=>some (.int k (dR .xor k a b))
 |.andNot=>some (.int k (dR .andNot k a b))
 |_=>none
def YH(op:BinOp)(a b:ByteArray):Option AV :=match op with
 |.eql=>some (.bool (a==b))
 |.neq=>some (.bool (!(a==b)))
 |_=>none
def qT:(k:K)→k.T→k.T→Bool
 |.int _,x,y=>(show Int from x)==y
 |.bool,x,y=>(show Bool from x)==y
 |.str,x,y=>(show ByteArray from x)==y
 |.sl _,_,_=>false
 |.mp _ _,_,_=>false
 |.pair a b,x,y=>qT a x.1 y.1&&qT b x.2 y.2
 |.one k,x,y=>qT k x y
def sR(kk:K){α:Type}(x:kk.T)(es:List (kk.T×α)):Option Nat:=es.findIdx? fun e=>qT kk x e.1
def iJ(kk:K){α:Type}(x:kk.T)(es:List (kk.T×α)):Option α:=(sR kk x es).bind fun i=>(es[i]?).map (·.2)
def l8(kk:K){α:Type}(x:kk.T)(v:α)(es:List (kk.T×α)):List (kk.T×α):=match sR kk x es with
 |some i=>es.set i (x,v)
 |none=>es++[(x,v)]
def Od(kk:K){α:Type}(x:kk.T)(es:List (kk.T×α)):List (kk.T×α):=match sR kk x es with
 |some i=>es.eraseIdx i
 |none=>es
def kC:(k:K)→k.T
 |.int _=>(0:Int)
 |.bool=>false
 |.str=>ByteArray.empty
 |.sl k=>([]:List k.T)
 |.pair a b=>(kC a,kC b)
 |.one k=>kC k
 |.mp kk vk=>([]:List (kk.T×vk.T))
def Oe:K→Value→Bool
 |.int ik,.int Ye n=>decide (Ye=ik∧n=0)
 |.bool,.bool b => !b
 |.str,.string s=>decide (s=ByteArray.empty)
 |.sl _,.slice a n c=>decide (a=none∧n=0∧c=0)
 |_,_=>false
def KM(t:TypeId)(k:K):Bool:=match P.info? t with
 |some i=>match i.zero with
  |some z=>Oe k z
  |none=>false
 |none=>false
def KN(Eqs:TypeId→Option K)(t:TypeId)(k:K):Bool:=k.flat&&(match k,P.underlying t with
 |.int ik,some (.int Ye)=>decide (Ye=ik)
 |.bool,some .bool=>true
 |.str,some .string=>true
 |k,_=>k.isAgg&&decide (Eqs t=some k))
def mapOf(Eqs:TypeId→Option K)(t:TypeId):Option (K×K):=match P.underlying t with
 |some (.map a b)=>match pU P 8 a,pU P 8 b with
  |some kk,some vk=>if KN P Eqs a kk&&KM P b vk then some (kk,vk) else none
  |_,_=>none
 |_=>none
def aT{α:Type}(xs:List α)(i:Int):Option α:=if 0≤i then xs[i.toNat]? else none
def fz:Nat:=1073741824
def aK(n m:Nat):Bool:=decide (n+m≤fz)
def ng(n:Nat)(lo hi:Option AV):Option (Int×Int) :=match lo,hi with
 |none,none=>some (0,(n:Int))
 |some (.int .i64 l),none=>some (l,(n:Int))
 |none,some (.int .i64 h)=>some (0,h)
 |some (.int .i64 l),some (.int .i64 h)=>some (l,h)
 |_,_=>none
def aH(n:Nat)(l h:Int):Bool:=decide (0≤l)&&(decide (l≤h)&&decide (h≤(n:Int)))
def cut{α:Type}(xs:List α)(l h:Int):List α:=(xs.take h.toNat).drop l.toNat
def We(s:ByteArray)(l h:Int):ByteArray:=s.extract l.toNat h.toNat
variable {R:Type}
def fF(k:K)(h:Heap)(v:AV):Option k.T:=if k.isAgg=v.isAgg then c8 k (v.cells.map (cE h)) else none
def rowOf(h:Heap)(v:AV)(k:K):Option (List k.T) :=match cE h v with
 |.sl _ k' xs=>if e:k'=k then some (e▸xs) else none
 |.fK=>some []
 |_=>none
def Eg(e:TypeId)(k:K):Bool :=match P.info? e with
 |some i=>(match i.zero with
  |some z=>decide (i.size=k.sz)&&(decide (z.cells.size=k.sz)&&decide (i.bytes≤65536))
  |none=>false)
 |none=>false
def nh(h:Heap)(id:Nat)(t:TypeId)(s x:AV)(K:bE→Option R):Option R :=match w7 P t with
 |none=>none
 |some e =>
  match pU P 8 e with
  |none=>none
  |some kk =>
   match rowOf h x kk,Eg P e kk with
   |some ys,true =>
    match s with
    |.fK=>cond (aK 0 ys.length) (K (.new (.bF id) [(id,.own (.row e kk) ys)])) none
    |.bF cK =>
     match h.get cK with
     |some (.own (.row e' k') xs) =>
      if c:e'=e∧k'=kk then cond (aK xs.length ys.length) (K (.wr (.bF id) ((h.del cK).set id (.own (.row e kk) (c.2▸xs++ys))))) none else none
     |_=>none
    |.sl ex k' xs =>
     if c:k'=kk then cond (ex&&((!ys.isEmpty || xs.isEmpty)&&aK xs.length ys.length)) (K (.new (.bF id) [(id,.own (.row e kk) (c▸xs++ys))])) none else none
    |_=>none
   |_,_=>none
def vI:AV→Bool
 |.no=>false
 |.agg _=>false
 |.mG _=>false
 |_=>true
def IZ(id:Nat):List AV→Bool
 |[]=>true
 |.bF i::r => !(i==id)&&IZ id r
 |_::r=>IZ id r
def stored(h:Heap)(vs:List AV):List AV×Heap:=(vs.map (cE h),cy h vs)
def qU(h:Heap)(t:TypeId)(a v:AV)(K:bE→Option R):Option R :=if v.cells.length=P.cellsOf t∧(P.info? t).isSome∧v.cells.all vI then
  match a with
  |.ref id s i off =>
   match h.get id with
   |some (.box ty cs)=>if i=0∧off+v.cells.length≤cs.length then K (.wr .no (h.set id (.box ty (dM cs off v.cells)))) else none
   |some (.own (.row ty kk) xs) =>
    (xs[i]?).bind fun x =>if s=kk.sz∧off+v.cells.length≤kk.sz∧IZ id v.cells then
      match c8 kk (dM (enc kk x) off (stored h v.cells).1) with
      |some y=>K (.wr .no ((stored h v.cells).2.set id (.own (.row ty kk) (xs.set i y))))
      |none=>none
     else none
   |_=>none
  |_=>none
 else none
def ll(h:Heap)(t:TypeId)(a:AV)(K:bE→Option R):Option R :=match a with
 |.ref id s i off =>
  match h.get id with
  |some (.box _ cs)=>if i=0 then(match dO P t (cs.drop off) with|some v=>K (.val v)|none=>none) else none
  |some (.own (.row _ kk) xs)=>if s=kk.sz then(xs[i]?).bind fun x=>match dO P t ((enc kk x).drop off) with|some v=>K (.val v)|none=>none else none
  |_=>none
 |.fp kk x off=>match dO P t ((enc kk x).drop off) with|some v=>K (.val v)|none=>none
 |_=>none
def dt(h:Heap)(t:TypeId)(x i:AV)(K:bE→Option R):Option R :=match w7 P t with
 |none=>none
 |some e =>
  match x,i with
  |.sl _ kk xs,.int _ n=>if P.cellsOf e=kk.sz then(aT xs n).bind fun y=>K (.val (.fp kk y 0)) else none
  |.bF id,.int _ n =>
   match h.get id with
   |some (.own (.row _ kk) xs)=>if P.cellsOf e=kk.sz then cond (decide (0≤n)&&decide (n<(xs.length:Int))) (K (.val (.ref id kk.sz n.toNat 0))) none else none
   |_=>none
  |_,_=>none
def vJ(x:AV)(lo hi mx:Option AV)(K:bE→Option R):Option R :=match x,mx with
 |.str s,none =>
  match ng s.size lo hi with
  |some (l,u)=>cond (aH s.size l u) (K (.val (.str (We s l u)))) none
  |none=>none
 |_,_=>none
def od(_:Heap)(sz:Nat)(x:AV)(lo hi mx:Option AV)(K:bE→Option R):Option R :=match x with
 |.fK =>
  match ng 0 lo hi,mx with
  |some (l,u),none=>cond (aH 0 l u) (K (.val .fK)) none
  |_,_=>none
 |.sl _ kk xs =>
  if sz=kk.sz then
   match ng xs.length lo hi with
   |some (l,u) =>
    match mx with
    |none=>cond (aH xs.length l u) (K (.val (.sl false kk (cut xs l u)))) none
    |some (.int .i64 m)=>cond (aH xs.length l u&&(hi.isSome&&decide (m=u))) (K (.val (.sl true kk (cut xs l u)))) none
    |_=>none
   |none=>none
  else none
 |_=>none
def Wg(t:TypeId)(x:AV):Bool :=match P.underlying t,x with
 |some .string,.str _=>true
 |some (.slice _),.str _=>false
 |some (.slice _),_=>true
 |_,_=>false
def I0(t:TypeId):Bool :=match P.underlying t with
 |some (.map _ _)=>true
 |_=>false
def CX(h:Heap)(x:AV)(K:bE→Option R):Option R :=match cE h x with
 |.str s=>K (.val (.int .i64 (s.size:Int)))
 |.sl _ _ xs=>K (.val (.int .i64 (xs.length:Int)))
 |.fK=>K (.val (.int .i64 0))
 |_=>none
def vK(h:Heap)(x:AV)(K:bE→Option R):Option R :=match cE h x with
 |.mp _ _ es=>K (.val (.int .i64 (es.length:Int)))
 |_=>none
def kW(Eqs:TypeId→Option K)(id:Nat)(t:TypeId)(K:bE→Option R):Option R :=match mapOf P Eqs t with
 |some (kk,vk)=>K (.new (.bF id) [(id,.own (.map kk vk) [])])
 |none=>none
def ni(Eqs:TypeId→Option K)(h:Heap)(t:TypeId)(m i:AV)(ok:Bool)(K:bE→Option R):Option R :=match mapOf P Eqs t,cE h m with
 |some (kk,vk),.mp KK SR es =>
  if c:KK=kk∧SR=vk then
   match fF kk h i with
   |some x=>K (.val (cond ok (.mG [cc vk ((iJ kk x (c.1▸c.2▸es:List (kk.T×vk.T))).getD (kC vk)),.bool (iJ kk x (c.1▸c.2▸es:List (kk.T×vk.T))).isSome]) (cc vk ((iJ kk x (c.1▸c.2▸es:List (kk.T×vk.T))).getD (kC vk)))))
   |none=>none
  else none
 |_,_=>none
def im(Eqs:TypeId→Option K)(h:Heap)(t:TypeId)(m i v:AV)(K:bE→Option R):Option R :=match mapOf P Eqs t,m with
 |some (kk,vk),.bF id =>
  match h.get id with
  |some (.own (.map KK SR) es) =>
   if c:KK=kk∧SR=vk then
    match fF kk h i,fF vk h v,(v.cells.all fun c=>match c with | .bF j => !(j==id)|_=>true) with
    |some x,some y,true=>K (.wr (.mG []) ((cy h v.cells).set id (.own (.map kk vk) (l8 kk x y (c.1▸c.2▸es:List (kk.T×vk.T))))))
    |_,_,_=>none
   else none
  |_=>none
 |_,_=>none
def nj(Eqs:TypeId→Option K)(h:Heap)(t:TypeId)(m i:AV)(K:bE→Option R):Option R :=match mapOf P Eqs t,m with
 |some (kk,vk),.bF id =>
  match h.get id with
  |some (.own (.map KK SR) es) =>
   if c:KK=kk∧SR=vk then
    match fF kk h i with
    |some x=>K (.wr (.mG []) (h.set id (.own (.map kk vk) (Od kk x (c.1▸c.2▸es:List (kk.T×vk.T))))))
    |none=>none
   else none
  |_=>none
 |_,_=>none
def nk(id:Nat)(t:TypeId)(x:AV)(K:bE→Option R):Option R :=match P.underlying t,x with
 |some .string,.str s=>K (.new (.bF id) [(id,.own .nc (s,0))])
 |_,_=>none
def og(s:ByteArray)(p:Nat):Int:=(Utf8.decode s p).1
def zt(s:ByteArray)(p:Nat):Nat:=(Utf8.decode s p).2
def qV(h:Heap)(x:AV)(K:bE→Option R):Option R :=match x with
 |.bF id=>match h.get id with
  |some (.own .nc x)=>cond (decide (x.2<x.1.size)) (K (.wr (.mG [.bool true,.int .i64 (x.2:Int),.int .i32 (og x.1 x.2)]) (h.set id (.own .nc (x.1,x.2+zt x.1 x.2))))) (K (.val (.mG [.bool false])))
  |_=>none
 |_=>none
def qW(h:Heap)(x:AV)(K:bE→Option R):Option R :=match x with
 |.bF id=>match h.get id with
  |some (.own (.iter kk vk) (some c,_))=>K (.val (.mG [cc kk c.1,cc vk c.2]))
  |_=>none
 |_=>none
def Eh:TypeDesc→Bool
 |.bool=>true
 |_=>false
def vL:TypeDesc→Bool
 |.pointer _=>true
 |_=>false
def w8(Eqs:TypeId→Option K)(op:BinOp)(t:TypeId)(x y:AV)(K:bE→Option R):Option R :=match x,y with
 |.int k a,.int k' b =>
  match op with
  |.shl=>cond (decide (b<0)) none (K (.val (.int k (YG k a b))))
  |.shr=>cond (decide (b<0)) none (K (.val (.int k (kJ k a b))))
  |op =>
  if k=k' then
   match op with
   |.quo=>cond (b==0) none (K (.val (.int k (k.wrap (a.tdiv b)))))
   |.rem=>cond (b==0) none (K (.val (.int k (a.tmod b))))
   |op=>match Wc op k a b with
    |some v=>K (.val v)
    |none=>none
  else none
 |.str a,.str b=>match YH op a b with
  |some v=>K (.val v)
  |none=>none
 |.bool a,.bool b =>
  match op,(P.underlying t).map Eh with
  |.eql,some true=>K (.val (.bool (a==b)))
  |.neq,some true=>K (.val (.bool (!(a==b))))
  |_,_=>none
 |.agg a,.agg b =>
  match Eqs t with
  |none=>none
  |some k =>
   match op,c8 k a,c8 k b with
   |.eql,some x,some y=>K (.val (.bool (qT k x y)))
   |.neq,some x,some y=>K (.val (.bool (!(qT k x y))))
   |_,_,_=>none
 |.kI,.kI =>
  match op,(P.underlying t).map vL with
  |.eql,some true=>K (.val (.bool true))
  |.neq,some true=>K (.val (.bool false))
  |_,_=>none
 |.ref ..,.kI =>
  match op,(P.underlying t).map vL with
  |.eql,some true=>K (.val (.bool false))
  |.neq,some true=>K (.val (.bool true))
  |_,_=>none
 |_,_=>none
def UR(b:Bool)(x y:AV):AV :=match x,y with
 |.bool p,.bool q=>.bool (cond b p q)
 |x,y=>cond b x y
end
def dL(h:Heap)(ok:OK)(c:AV):Option ok.T :=match c with
 |.fK=>match ok with
  |.row _ _=>some []
  |_=>none
 |.bF id=>match h.get id with
  |some (.own Yf x)=>if e:Yf=ok then some (e▸x) else none
  |_=>none
 |_=>none
def oi:AV→List Nat
 |.bF id=>[id]
 |_=>[]
def cF:(di:List CK)→Heap→List AV→Option (pV di)
 |[],_,[]=>some ()
 |.val k::r,h,cs =>
  match c8 k ((cs.take k.sz).map (cE h)),cF r h (cs.drop k.sz) with
  |some x,some y=>some (x,y)
  |_,_=>none
 |.own ok::r,h,c::cs =>
  match dL h ok c,cF r h cs with
  |some x,some y=>some (x,y)
  |_,_=>none
 |_,_,_=>none
def o9:List CK→List AV→List AV
 |.val k::r,cs=>cs.take k.sz++o9 r (cs.drop k.sz)
 |.own _::r,_::cs=>o9 r cs
 |_,_=>[]
def fB:List CK→List AV→List Nat
 |.val k::r,cs=>fB r (cs.drop k.sz)
 |.own _::r,c::cs=>oi c++fB r cs
 |_,_=>[]
def aA:(di:List CK)→Nat→pV di→List AV
 |[],_,_=>[]
 |.val k::r,n,x=>enc k x.1++aA r (n+1) x.2
 |.own _::r,n,x=>.bF n::aA r (n+1) x.2
def aU:(di:List CK)→Nat→pV di→Heap
 |[],_,_=>[]
 |.val _::r,n,x=>aU r (n+1) x.2
 |.own ok::r,n,x=>(n,.own ok x.1)::aU r (n+1) x.2
def tP(h:Heap)(id:Nat)(ty:TypeId):Option (List AV) :=match h.get id with
 |some (.box yf cs)=>if yf=ty then some cs else none
 |_=>none
def pe:(b:BK)→Heap→Nat→Option b.T
 |.box ty c,h,i=>match tP h i ty with
  |some cs=>cF c h cs
  |none=>none
 |.own ok,h,i=>dL h ok (.bF i)
def cT:(bs:List BK)→Heap→List Nat→Option (vH bs)
 |[],_,[]=>some ()
 |b::r,h,i::is =>
  match pe b h i,cT r h is with
  |some x,some y=>some (x,y)
  |_,_=>none
 |_,_,_=>none
def iK:(b:BK)→Nat→Nat→b.T→Heap
 |.box ty c,i,n,x=>(i,.box ty (aA c n x))::aU c n x
 |.own ok,i,_,x=>[(i,.own ok x)]
def bw:(bs:List BK)→List Nat→Nat→vH bs→Heap
 |b::r,i::is,n,x=>iK b i n x.1++bw r is (n+16) x.2
 |_,_,_,_=>[]
def zu:BK→Heap→Nat→List AV
 |.box _ c,h,i=>match h.get i with
  |some (.box _ cs)=>o9 c cs
  |_=>[]
 |.own _,_,_=>[]
def fM:List BK→Heap→List Nat→List AV
 |b::r,h,i::is=>zu b h i++fM r h is
 |_,_,_=>[]
def jM:BK→Heap→Nat→List Nat
 |.box _ c,h,i=>i::(match h.get i with
  |some (.box _ cs)=>fB c cs
  |_=>[])
 |.own _,_,i=>[i]
def cU:List BK→Heap→List Nat→List Nat
 |b::r,h,i::is=>jM b h i++cU r h is
 |_,_,_=>[]
def gH(h:Heap):List Nat→Heap
 |[]=>h
 |i::r=>gH (h.del i) r
def CY:AV→Option Nat
 |.ref id _ 0 0=>some id
 |_=>none
def jr:List AV→Option (List Nat)
 |[]=>some []
 |v::r=>match CY v,jr r with
  |some i,some is=>some (i::is)
  |_,_=>none
def om:List AV→Option (List Nat)
 |[]=>some []
 |.bF i::r=>match om r with
  |some is=>some (i::is)
  |none=>none
 |_=>none
def cw:List PK→List AV→Option (List Nat)
 |[],[]=>some []
 |.val _::ps,_::vs=>cw ps vs
 |.ref::ps,v::vs=>match CY v,cw ps vs with
  |some i,some is=>some (i::is)
  |_,_=>none
 |.own::ps,.bF i::vs=>match cw ps vs with
  |some is=>some (i::is)
  |none=>none
 |.FH f n::ps,.fn f' cap::vs =>
  if f'=f∧cap.length=n then match jr cap,cw ps vs with
   |some a,some b=>some (a++b)
   |_,_=>none
  else none
 |.agg n::ps,.agg cs::vs =>
  if cs.length=n then match om cs,cw ps vs with
   |some a,some b=>some (a++b)
   |_,_=>none
  else none
 |_,_=>none
def ed:(ps:List PK)→Heap→List AV→Option (FQ (kr ps))
 |[],_,[]=>some ()
 |.val k::ps,h,v::vs =>
  match fF k h v,ed ps h vs with
  |some x,some y=>some (x,y)
  |_,_=>none
 |.ref::ps,h,_::vs=>ed ps h vs
 |.own::ps,h,_::vs=>ed ps h vs
 |.FH _ _::ps,h,_::vs=>ed ps h vs
 |.agg _::ps,h,_::vs=>ed ps h vs
 |_,_,_=>none
def dg:List PK→List AV→List AV
 |.val _::ps,v::vs=>v.cells++dg ps vs
 |_::ps,_::vs=>dg ps vs
 |_,_=>[]
def aO:(ps:List PK)→(ids:List Nat)→Nat→FQ (kr ps)→List (Nat×AV)
 |[],_,_,_=>[]
 |.val k::ps,ids,s,x=>(s,cc k x.1)::aO ps ids (s+1) x.2
 |.ref::ps,i::ids,s,x=>(s,.ref i 0 0 0)::aO ps ids (s+1) x
 |.ref::ps,[],s,x=>(s,.no)::aO ps [] (s+1) x
 |.own::ps,i::ids,s,x=>(s,.bF i)::aO ps ids (s+1) x
 |.own::ps,[],s,x=>(s,.no)::aO ps [] (s+1) x
 |.FH f n::ps,ids,s,x=>(s,.fn f ((ids.take n).map fun i=>.ref i 0 0 0))::aO ps (ids.drop n) (s+1) x
 |.agg n::ps,ids,s,x=>(s,.agg ((ids.take n).map .bF))::aO ps (ids.drop n) (s+1) x
def mg:List CK→Nat→Nat
 |.val k::r,c+1=>k.sz+mg r c
 |.own _::r,c+1=>1+mg r c
 |_,_=>0
def fG:List CK→Nat→Bool
 |.own (.row _ _)::_,0=>true
 |_::r,c+1=>fG r c
 |_,_=>false
def Og(id:Nat):Option AV→Bool
 |some (.bF l9)=>l9==id
 |_=>false
def w9(c:List CK)(cs:List AV)(id s off:Nat)(a:Nat×Nat×Nat):Bool :=Og id (cs[mg c a.1]?)&&(decide (s=a.2.1)&&(decide (off=a.2.2)&&fG c a.1))
def mH(bs:List BK)(h:Heap)(ids:List Nat)(b:Nat)(alts:List (Nat×Nat×Nat))(v:AV):Option (Option (Fin alts.length×Nat)) :=match v with
 |.kI=>some none
 |.ref id s i off =>
  (match ids[b]?,bs[b]? with
  |some bi,some bk=>(match h.get bi with
   |some (.box _ cs)=>(match (List.finRange alts.length).find? (fun a=>w9 bk.di cs id s off (alts.get a)) with
    |some a=>some (some (a,i))
    |none=>none)
   |_=>none)
  |_,_=>none)
 |_=>none
def zw(c:List CK)(h:Heap)(v:AV):Option (pV c) :=match v with
 |.agg cs=>cF c h cs
 |_=>none
def bG(bs:List BK):(rs:List RK)→Heap→List Nat→List AV→Option (lk rs)
 |[],_,_,[]=>some ()
 |.val k::r,h,ids,v::vs =>
  match fF k h v,bG bs r h ids vs with
  |some x,some y=>some (x,y)
  |_,_=>none
 |.own ok::r,h,ids,v::vs =>
  match dL h ok v,bG bs r h ids vs with
  |some x,some y=>some (x,y)
  |_,_=>none
 |.eu b alts::r,h,ids,v::vs =>
  match mH bs h ids b alts v,bG bs r h ids vs with
  |some x,some y=>some (x,y)
  |_,_=>none
 |.agg c::r,h,ids,v::vs =>
  match zw c h v,bG bs r h ids vs with
  |some x,some y=>some (x,y)
  |_,_=>none
 |_,_,_,_=>none
def fN:List RK→List AV→List AV
 |.val _::r,v::vs=>v.cells++fN r vs
 |.agg c::r,v::vs=>o9 c v.cells++fN r vs
 |_::r,_::vs=>fN r vs
 |_,_=>[]
def dH:List RK→List AV→List Nat
 |.own _::r,v::vs=>oi v++dH r vs
 |.agg c::r,v::vs=>fB c v.cells++dH r vs
 |_::r,_::vs=>dH r vs
 |_,_=>[]
def tQ(b n:Nat)(alts:List (Nat×Nat×Nat)):Option (Fin alts.length×Nat)→AV
 |none=>.kI
 |some (a,i)=>.ref (n+16*b+(alts.get a).1) (alts.get a).2.1 i (alts.get a).2.2
def aP:(rs:List RK)→(ids:List Nat)→(n m:Nat)→lk rs→List AV
 |[],_,_,_,_=>[]
 |.val k::r,ids,n,m,x=>cc k x.1::aP r ids n (m+1) x.2
 |.agg c::r,ids,n,m,x=>.agg (aA c m x.1)::aP r ids n (m+1) x.2
 |.own _::r,ids,n,m,x=>.bF m::aP r ids n (m+1) x.2
 |.eu b alts::r,ids,n,m,x=>tQ b n alts x.1::aP r ids n (m+1) x.2
def ai:(rs:List RK)→(m:Nat)→lk rs→Heap
 |[],_,_=>[]
 |.own ok::r,m,x=>(m,.own ok x.1)::ai r (m+1) x.2
 |.agg c::r,m,x=>aU c m x.1++ai r (m+1) x.2
 |.val _::r,m,x=>ai r (m+1) x.2
 |.eu _ _::r,m,x=>ai r (m+1) x.2
def eO:List AV→AV
 |[v]=>v
 |vs=>.mG vs
def cd:List CK→Nat→List Nat
 |[],_=>[]
 |.val _::r,n=>cd r (n+1)
 |.own _::r,n=>n::cd r (n+1)
def bX:List BK→List Nat→Nat→List Nat
 |b::r,i::is,n=>i::(cd b.di n++bX r is (n+16))
 |_,_,_=>[]
def bz:List RK→Nat→List Nat
 |[],_=>[]
 |.own _::r,m=>m::bz r (m+1)
 |.agg c::r,m=>cd c m++bz r (m+1)
 |.val _::r,m=>bz r (m+1)
 |.eu _ _::r,m=>bz r (m+1)
def aM(n:Nat):List Nat:=(List.range n).map fun i=>1000+20*i
def pW(g:aL):List Nat:=bX g.bs (aM g.bs.length) 2000++bz g.rs 3000
def FR:List AV→Bool
 |[]=>true
 |.bF _::_=>false
 |_::r=>FR r
def pX:List AV→Bool
 |[]=>true
 |v::r=>FR v.cells&&pX r
def b6:List Nat→Bool
 |[]=>true
 |i::r => !(r.contains i)&&b6 r
def vM(kept:List Nat)(km:List AV):Bool:=b6 kept&&kept.all fun i=>IZ i km
section
variable (P:Program) (Eqs:TypeId→Option K) (Sg:FuncId→Option aL) (F:(f:FuncId)→(g:aL)→g.A→Option g.B)
variable {R:Type}
def sS(f:FuncId):List AV→FuncId
 |[]=>f
 |.fn g _::_=>f+1000*(g+1)
 |_::r=>sS f r
def zx:List AV→Bool
 |[]=>false
 |.bF _::_=>true
 |.agg cs::r=>(cs.any fun c=>match c with | .bF _=>true|_=>false) || zx r
 |_::r=>zx r
def keyOf(f:FuncId)(vs:List AV):FuncId:=if zx vs&&(Sg (sS f vs+500000)).isSome then sS f vs+500000 else sS f vs
def Cu(bs:List BK)(r:RK):Bool:=match r with
 |.eu b alts=>match bs[b]? with
  |some bk=>(alts.all fun a=>fG bk.di a.1)&&decide ((alts.map fun a=>(a.1,a.2.2)).Nodup)
  |none=>false
 |.agg c=>decide (c.length≤16)
 |_=>true
def pY(bs:List BK)(rs:List RK):Bool:=rs.all (Cu bs)
def Oh(f:FuncId)(g:aL):Bool:=pY g.bs g.rs&&( (decide (g.bs.length≤8)&&(g.bs.all fun b=>decide (b.di.length≤16)))&&((decide (g.rs.length≤100)&&decide (f<1000))&&b6 (pW g)))
def pZ{α R:Type}(o:Option α)(a:Option R)(f:α→Option R):Option R:=match o with
 |none=>a
 |some x=>f x
def YI{R:Type}(n:Nat)(a:Fin n)(f:Fin n→Option R):Option R:=(List.finRange n).foldr (fun j r=>cond (a.val==j.val) (f j) r) none
def js{R:Type}:(rs:List RK)→lk rs→(lk rs→Option R)→Option R
 |[],_,K=>K ()
 |.eu _ alts::r,x,K=>pZ x.1 (js r x.2 fun z=>K (none,z)) (fun p=>YI alts.length p.1 fun a=>js r x.2 fun z=>K (some (a,p.2),z))
 |.val _::r,x,K=>js r x.2 fun z=>K (x.1,z)
 |.own _::r,x,K=>js r x.2 fun z=>K (x.1,z)
 |.agg _::r,x,K=>js r x.2 fun z=>K (x.1,z)
def iL(h:Heap)(id:Nat)(f:FuncId)(vs:List AV)(K:bE→Option R):Option R :=match Sg (keyOf Sg f vs) with
 |none=>none
 |some g=>match g.x with
 |some u=>if f<1000 then(u h id vs).bind fun p=>cond p.1 (K p.2) none else none
 |none =>
  match cw g.ps vs,Oh f g with
  |some is,true =>
   if is.isEmpty&&g.rs.all RK.plain then
   match ed g.ps h vs,cT g.bs h [],g.rs.all RK.plain with
   |some x,some b,true =>
    (F (keyOf Sg f vs) g (x,b)).bind fun y =>cond (g.rs.all RK.flat || pX vs) (K (.new (eO (aP g.rs [] id (id+128) y.1)) (ai g.rs (id+128) y.1))) (K (.wr (eO (aP g.rs [] id (id+128) y.1)) (ai g.rs (id+128) y.1++cy h (dg g.ps vs))))
   |_,_,_=>none
   else
   match ed g.ps h vs,cT g.bs h is,vM (cU g.bs h is) (dg g.ps vs++fM g.bs h is)&&b6 (bX g.bs is id++bz g.rs (id+128)) with
   |some x,some b,true =>
    (F (keyOf Sg f vs) g (x,b)).bind fun y=>js g.rs y.1 fun z =>K (.wr (eO (aP g.rs is id (id+128) z)) (bw g.bs is id y.2++(ai g.rs (id+128) z++gH (cy h (dg g.ps vs++fM g.bs h is)) (cU g.bs h is))))
   |_,_,_=>none
  |_,_=>none
def p6{α:Type}(xs:List α)(i:Int)(ys:List α):Bool:=decide (0≤i)&&(decide (i≤xs.length)&&(decide (ys.length=1)&&aK xs.length ys.length))
def fO{α:Type}(xs:List α)(i:Int)(ys:List α):List α:=xs.take i.toNat++(ys++xs.drop i.toNat)
def jl{α:Type}(xs:List α)(i j:Int):Bool:=decide (0≤i)&&(decide (i<j)&&(decide (j≤xs.length)&&aK xs.length 0))
def dm{α:Type}(xs:List α)(i j:Int):List α:=xs.take i.toNat++xs.drop j.toNat
def zy(n:Int):Bool:=decide (0≤n)&&decide (n≤fz)
def Oi(ty:TypeId)(k:K)(h:Heap)(id:Nat):List AV→Option (Bool×bE)
 |[.bF o,.int .i64 i,.bF j]=>match dL h (.row ty k) (.bF o),dL h (.row ty k) (.bF j) with
  |some xs,some ys=>if o=j then none else some (p6 xs i ys,.wr (.bF id) ((id,.own (.row ty k) (fO xs i ys))::h.del o))
  |_,_=>none
 |_=>none
def SS(ty:TypeId)(k:K)(h:Heap)(id:Nat):List AV→Option (Bool×bE)
 |[.bF o,.int .i64 i,.int .i64 j]=>match dL h (.row ty k) (.bF o) with
  |some xs=>some (jl xs i j,.wr (.bF id) ((id,.own (.row ty k) (dm xs i j))::h.del o))
  |none=>none
 |_=>none
def Oj(ty:TypeId)(k:K)(_:Heap)(id:Nat):List AV→Option (Bool×bE)
 |[.fK,.int .i64 n]=>some (zy n,.new (.bF id) [(id,.own (.row ty k) [])])
 |_=>none
def vN(id:Nat)(t:TypeId)(vs:List AV)(K:bE→Option R):Option R :=K (.new (.ref id vs.length 0 0) [(id,.box t vs)])
def US:AV→Bool
 |.no=>false
 |_=>true
def qX(t:TypeId)(parts:List (Nat×AV))(K:bE→Option R):Option R :=match zr P t,P.underlying t with
 |some z,some (.struct fs) =>
  match CW (fun i=>(fs[i]?).map fun f=>(f.offset,P.cellsOf f.type)) z parts,fs.toList.all (fun f=>(P.info? f.type).isSome)&&parts.all (fun p=>US p.2) with
  |some cs,true=>K (.val (.agg cs))
  |_,_=>none
 |_,_=>none
def p7(k:K)(h:Heap):Nat→List (Nat×AV)→Option (List k.T)
 |_,[]=>some []
 |i,(j,v)::r =>
  if j=i then match c8 k (v.cells.map (cE h)),p7 k h (i+1) r with
   |some x,some xs=>some (x::xs)
   |_,_=>none
  else none
def tR(h:Heap)(id:Nat)(t:TypeId)(n:Nat)(parts:List (Nat×AV))(K:bE→Option R):Option R :=match w7 P t with
 |none=>none
 |some e =>
  match pU P 8 e with
  |none=>none
  |some k =>
   match p7 k h 0 parts,Eg P e k with
   |none,_=>none
   |some _,false=>none
   |some xs,true =>
    if parts.length=n∧n*k.sz≤1048576 then
     cond (pX (parts.map (·.2))) (K (.new (.bF id) [(id,.own (.row e k) xs)])) (K (.wr (.bF id) ((id,.own (.row e k) xs)::cy h (parts.flatMap (·.2.cells)))))
    else none
def SU:bE→bE
 |.new (.bF _) [(_,.own (.row _ k) xs)]=>.new (.sl true k xs) []
 |e=>e
def vO(km:Bool)(h:Heap)(id:Nat)(t:TypeId)(n:Nat)(parts:List (Nat×AV))(K:bE→Option R):Option R :=tR P h id t n parts fun e=>K (if km then SU e else e)
def zz(src dst:TypeId)(x:AV)(K:bE→Option R):Option R :=match P.underlying src,P.underlying dst,x with
 |some (.int _),some (.int k),.int _ n=>K (.val (.int k (k.wrap n)))
 |some .string,some .string,.str s=>K (.val (.str s))
 |_,_,_=>none
def L6(mx:Bool)(vs:List AV)(K:bE→Option R):Option R :=match vs with
 |[.int k a,.int k' b]=>if k=k' then K (.val (.int k (cond mx (max a b) (min a b)))) else none
 |_=>none
def UT(t id:Nat):Bool:=(Sg (900000+t)).isSome&&(Sg (2000003+1000*(id / 256-128))).isSome
def cM(id:Nat)(h:Heap)(s:List (Nat×AV))(o:Oper)(K:bE→Option R):Option R :=match o.op with
 |.move x | .assign x=>K (.val (ρ s x))
 |.pick c a b=>match ρ s c with
  |.bool t=>K (.val (UR t (ρ s a) (ρ s b)))
  |_=>none
 |.box t x=>if(ρ s x).cells.all vI then vN id t (ρ s x).cells K else none
 |.alloc t=>match zr P t with
  |some z=>vN id t z K
  |none=>none
 |.build t ps=>qX P t (ps.toList.map fun p=>(p.1,ρ s p.2)) K
 |.buildSlice t n ps=>vO P (UT Sg t id) h id t n (ps.toList.map fun p=>(p.1,ρ s p.2)) K
 |.load t a=>ll P h t (ρ s a) K
 |.store t a v=>qU P h t (ρ s a) (ρ s v) K
 |.nilCheck x=>match ρ s x with
  |.ref id s i off=>K (.val (.ref id s i off))
  |.fp k x off=>K (.val (.fp k x off))
  |.fn f cap=>K (.val (.fn f cap))
  |_=>none
 |.binOp op t x y _=>w8 P Eqs op t (ρ s x) (ρ s y) K
 |.unOp .not _ x=>match ρ s x with
  |.bool b=>K (.val (.bool (!b)))
  |_=>none
 |.convert src dst x=>zz P src dst (ρ s x) K
 |.makeFunc (.func f) first cap=>if first.size=0 then K (.val (.fn f (cap.toList.map (ρ s)))) else none
 |.slice t x lo hi mx=>match P.underlying t with
  |some .string=>vJ (ρ s x) (lo.map (ρ s)) (hi.map (ρ s)) (mx.map (ρ s)) K
  |some (.slice e)=>if(P.info? e).isSome then od h (P.cellsOf e) (ρ s x) (lo.map (ρ s)) (hi.map (ρ s)) (mx.map (ρ s)) K else none
  |_=>none
 |.fieldAddr t x f=>match gG P t f,ρ s x with
  |some (n,ft),.ref id s i off=>if P.cellsOf ft=0 then none else K (.val (.ref id s i (off+n)))
  |some (n,ft),.fp k x off=>if P.cellsOf ft=0 then none else K (.val (.fp k x (off+n)))
  |_,_=>none
 |.field t x f=>match gG P t f,ρ s x with
  |some (n,ft),.agg cs=>match dO P ft (cs.drop n) with
   |some v=>K (.val v)
   |none=>none
  |_,_=>none
 |.indexAddr t x i=>dt P h t (ρ s x) (ρ s i) K
 |.index t x i=>match P.underlying t,ρ s x,ρ s i with
  |some .string,.str b,.int _ n=>(if 0≤n then b[n.toNat]? else none).bind fun c=>K (.val (.int .u8 (c.toNat:Int)))
  |_,_,_=>none
 |.makeMap t none=>kW P Eqs id t K
 |.lookup t m i ok=>ni P Eqs h t (ρ s m) (ρ s i) ok K
 |.mapUpdate t m i v=>im P Eqs h t (ρ s m) (ρ s i) (ρ s v) K
 |.range t x=>nk P id t (ρ s x) K
 |.next x true=>qV h (ρ s x) K
 |.entry x=>qW h (ρ s x) K
 |.extract t i=>match ρ s t with
  |.mG vs=>match vs[i]? with
   |some v=>K (.val v)
   |none=>none
  |_=>none
 |.call c =>
  match c.callee with
  |.value f=>match ρ s f with
   |.fn f cap=>iL Sg F h id f (c.args.toList.map (ρ s)++cap) K
   |_=>none
  |.builtin .len=>match c.args.toList,c.argTypes.toList with
   |[x],[t]=>if I0 P t then vK h (ρ s x) K else if Wg P t (ρ s x) then CX h (ρ s x) K else none
   |_,_=>none
  |.builtin .append=>match c.args.toList,c.argTypes.toList with
   |[x,y],[t,t']=>if t'=t then nh P h id t (ρ s x) (ρ s y) K else none
   |_,_=>none
  |.builtin .delete=>match c.args.toList,c.argTypes.toList with
   |[m,x],t::_=>nj P Eqs h t (ρ s m) (ρ s x) K
   |_,_=>none
  |.builtin .max=>L6 true (c.args.toList.map (ρ s)) K
  |.builtin .min=>L6 false (c.args.toList.map (ρ s)) K
  |_=>none
 |_=>none
def mI:Op→Bool
 |.move _ | .assign _ | .extract .. | .unOp .. | .pick .. | .fieldAddr .. | .nilCheck _ | .makeFunc .. | .build .. | .slice ..=>true
 |.binOp op ..=>match op with
  |.eql | .neq=>false
  |_=>true
 |_=>false
def makes:Op→Bool
 |.box .. | .alloc _ | .buildSlice .. | .makeMap .. | .range ..=>true
 |.call c=>match c.callee with
  |.builtin .append | .value _=>true
  |_=>false
 |_=>false
def opId(rid i:Nat):Nat:=((rid+1)*128+i)*256
def tS(ops:Array Oper)(b:Array Nat):Bool :=(List.range ops.size).all fun i=>match ops[i]? with
  |some o=>(o.after.toList.all fun e => !Region.binds .any e || decide (e.on<i)) && b.getD i 0==o.after.toList.foldl (fun s e=>if Region.binds .any e then s ||| 2 ^ e.on ||| b.getD e.on 0 else s) 0
  |none=>false
def zB(ops:Array Oper)(b:Array Nat):Bool :=(List.range ops.size).all fun j=>(List.range j).all fun i =>(b.getD j 0).testBit i || (match ops[i]?,ops[j]? with
   |some x,some y=>x.apart ops y
   |_,_=>false)
def gx:Op→Option Operand
 |.load _ x=>some x
 |.indexAddr _ x _=>some x
 |_=>none
def yz:Op→Bool
 |.store ..=>true
 |.call c=>match c.callee with
  |.value (.func f)=>f != 29
  |.value _=>true
  |_=>false
 |_=>false
def nm(ops:Array Oper)(i j:Nat):Bool :=match (ops[j]?).bind (gx ·.op) with
 |some (.tmp d)=>(List.range ops.size).all fun m => !(decide (min i j≤m)&&decide (m<max i j)) || (match (ops[m]?).bind (·.dst) with|some d'=>d' != d|none=>true)
 |some _=>true
 |none=>false
def pf:AV→List Nat
 |.ref id _ _ _=>[id]
 |.bF id=>[id]
 |_=>[]
def Wh(ops:Array Oper)(b:Array Nat)(i:Nat)(tmps:List (Nat×AV)):List Nat :=(List.range ops.size).flatMap fun j=>if j==i || (b.getD j 0).testBit i || (b.getD i 0).testBit j then[] else match (ops[j]?).bind (gx ·.op) with
  |some x=>pf (ρ tmps x)
  |none=>[]
def late(ops:Array Oper)(j:Nat):Bool:=ops.size==50&&(j==27 || j==29)
def qY(ops:Array Oper)(b:Array Nat)(i:Nat)(tmps:List (Nat×AV))(o:Oper):Bool:=match gx o.op with
 |some x=>late ops i && !(pf (ρ tmps x)).isEmpty && !((List.range ops.size).all fun k=>k==i || (b.getD i 0).testBit k || (b.getD k 0).testBit i || (match ops[k]? with|some p => !yz p.op|none=>true) || nm ops k i)
 |none=>false
def gy(ops:Array Oper)(b:Array Nat)(i:Nat)(tmps:List (Nat×AV))(o:Oper):List Nat:=if yz o.op then Wh ops b i tmps else if qY ops b i tmps o then[1] else[]
def I2(ops:Array Oper)(b:Array Nat)(i:Nat):Bool :=(List.range ops.size).all fun j =>j==i || (b.getD j 0).testBit i || (b.getD i 0).testBit j || (match ops[j]? with|some o=>mI o.op|none=>true) || ((match ops[i]? with|some o=>yz o.op|none=>false)&&(nm ops i j || (late ops j&&(match ops[j]? with|some o=>(gx o.op).isSome|none=>false))))
def ahead(rid:Nat)(I3:Nat)(h:Heap):Heap:=h.filter fun p=>(p.1 / 32768 != rid+1) || I3.testBit (p.1 / 256%128)
def g8(n:Nat)(o:Oper):Bool :=match o.dst with
 |some d=>decide (d<n)
 |none=>true
end
def qa(rid bits id:Nat):Bool:=(id / 32768 != rid+1) || bits.testBit (id / 256%128)
mutual
def r8(rid bits:Nat):AV→Bool
 |.ref id _ _ _=>qa rid bits id
 |.bF id=>qa rid bits id
 |.fn _ cap=>zF rid bits cap
 |.agg cs=>zF rid bits cs
 |.mG vs=>zF rid bits vs
 |.no=>true
 |.bool _=>true
 |.int _ _=>true
 |.str _=>true
 |.kI=>true
 |.fK=>true
 |.fp _ _ _=>true
 |.sl _ _ _=>true
 |.mp _ _ _=>true
def zF(rid bits:Nat):List AV→Bool
 |[]=>true
 |v::r=>r8 rid bits v&&zF rid bits r
end
def xc(rid bits:Nat):Heap→Bool
 |[]=>true
 |(id,.box _ cs)::r=>qa rid bits id&&zF rid bits cs&&xc rid bits r
 |(id,.own _ _)::r=>qa rid bits id&&xc rid bits r
def gu(draw:Bool)(rid:Nat)(ops:Array Oper)(b:Array Nat)(i I3:Nat):bE→Bool
 |.wr v h=>(!draw || I2 ops b i)&&r8 rid (I3 ||| 2 ^ i) v&&xc rid (I3 ||| 2 ^ i) h
 |.new v os=>r8 rid (I3 ||| 2 ^ i) v&&(os.all fun p=>p.1 / 256==(rid+1)*128+i)&&xc rid (I3 ||| 2 ^ i) os
 |.val v=>r8 rid I3 v
def eR(ft:List Nat)(hp h:Heap):Heap:=(ft.filterMap fun i=>(hp.get i).map fun o=>(i,o))++h
def gD(ft:List Nat)(hp:Heap):bE→bE
 |.wr v h=>.wr v (eR ft hp h)
 |.val v=>.val v
 |.new v os=>.new v os
mutual
def qb(ft:List Nat):AV→Bool
 |.ref id _ _ _ => !(ft.contains id)
 |.bF id => !(ft.contains id)
 |.fn _ cap=>sV ft cap
 |.agg cs=>sV ft cs
 |.mG vs=>sV ft vs
 |.no=>true
 |.bool _=>true
 |.int _ _=>true
 |.str _=>true
 |.kI=>true
 |.fK=>true
 |.fp _ _ _=>true
 |.sl _ _ _=>true
 |.mp _ _ _=>true
def sV(ft:List Nat):List AV→Bool
 |[]=>true
 |v::r=>qb ft v&&sV ft r
end
def sW(ft:List Nat):Heap→Bool
 |[]=>true
 |(id,.box _ cs)::r => !(ft.contains id)&&(sV ft cs&&sW ft r)
 |(id,.own _ _)::r => !(ft.contains id)&&sW ft r
def ln(ft:List Nat):bE→Bool
 |.wr v h=>qb ft v&&sW ft h
 |.val _ => !(ft.contains 1)
 |.new _ _=>true
section
variable (P:Program) (Eqs:TypeId→Option K) (Sg:FuncId→Option aL) (F:(f:FuncId)→(g:aL)→g.A→Option g.B)
variable {R:Type}
noncomputable def qc(n:Nat)(f:Nat→Option R):Option R:=open Classical in if h:∃r,∀j,j<n→f j=some r then some (Classical.choose h) else none
def yg(m:Nat)(d:AV):AV→AV
 |.bF i=>if i=m then d else .bF i
 |v=>v
def oo(id:Nat)(st:St)(o:Oper):Option St :=match o.op with
 |.range t x=>match P.underlying t,ρ st.tmps x with
  |some (.map _ _),.bF m=>match st.heap.get m with
   |some (.own (.map kk vk) es)=>some (({ tmps:=st.tmps.map fun p=>(p.1,yg m (.mp kk vk es) p.2),heap:=(id,.own (.iter kk vk) (none,es))::st.heap.del m }:St).put o.dst (.bF id))
   |_=>none
  |_,_=>none
 |_=>none
def tT(o:Oper):Option Operand :=match o.op with
 |.next x false=>some x
 |_=>none
noncomputable def kK(h:Heap)(x:AV)(K:AV→Heap→Option R):Option R :=match x with
 |.bF id=>match h.get id with
  |some (.own (.iter kk vk) p)=>cond p.2.isEmpty (K (.mG [.bool false]) h) (qc p.2.length fun j=>(p.2[j]?).bind fun c=>K (.mG [.bool true,cc kk c.1,cc vk c.2]) (h.set id (.own (.iter kk vk) (some c,p.2.eraseIdx j))))
  |_=>none
 |_=>none
def isNil(o:Oper):Option (Operand×Bool) :=match o.op with
 |.binOp op t x (.const v) _=>match op,P.underlying t,vG v with
  |.eql,some (.slice _),.fK=>some (x,true)
  |.neq,some (.slice _),.fK=>some (x,false)
  |_,_,_=>none
 |_=>none
noncomputable def tU(h:Heap)(x:AV)(want:Bool)(K:AV→Option R):Option R :=match cE h x with
 |.fK=>K (.bool want)
 |.sl _ _ xs=>cond xs.isEmpty (qc 2 fun j=>K (.bool ((j==0)==want))) (K (.bool (!want)))
 |_=>none
noncomputable def bA(rid:Nat)(draw:Bool)(ops:Array Oper)(b:Array Nat):List (Nat×Oper)→St→(St→Option R)→Option R
 |[],st,K=>K st
 |(i,o)::r,st,K =>
  let run (st:St):Option R :=match (if draw then none else oo P (opId rid i) st o) with
   |some dX=>bA rid draw ops b r dX K
   |none =>
   match (if draw then none else tT o) with
   |some x=>kK st.heap (ρ st.tmps x) fun v h=>bA rid draw ops b r (({ st with heap:=h }:St).put o.dst v) K
   |none =>
   match (if draw then none else isNil P o) with
   |some (x,want)=>tU st.heap (ρ st.tmps x) want fun v=>bA rid draw ops b r (st.put o.dst v) K
   |none =>
   if draw then
    cM P Eqs Sg F (opId rid i) (gH (ahead rid (b.getD i 0) st.heap) (gy ops b i st.tmps o)) st.tmps o fun e =>if gu true rid ops b i (b.getD i 0) (gD (gy ops b i st.tmps o) (ahead rid (b.getD i 0) st.heap) e)&&ln (gy ops b i st.tmps o) e then
      bA rid draw ops b r ({ st with heap:=match gD (gy ops b i st.tmps o) (ahead rid (b.getD i 0) st.heap) e with | .wr _ h=>h|e=>e.h st.heap }.put o.dst e.v) K else none
   else
    cM P Eqs Sg F (opId rid i) st.heap st.tmps o fun e =>if gu false rid ops b i (2 ^ i-1) e then bA rid draw ops b r ({ st with heap:=match e with | .wr _ h=>h|e=>e.h st.heap }.put o.dst e.v) K else none
  let skip (st:St):Option R:=bA rid draw ops b r (st.put o.dst (.mG [])) K
  match o.guard with
  |none=>run st
  |some (j,want) =>
   match (ops[j]?).bind (·.dst) with
   |none=>none
   |some d =>
    match look st.tmps d with
    |.bool t=>cond t (if want then run (st.put (some d) (.bool true)) else skip (st.put (some d) (.bool true))) (if want then skip (st.put (some d) (.bool false)) else run (st.put (some d) (.bool false)))
    |.mG _=>skip st
    |_=>none
end
mutual
def bB(rid:Nat):AV→AV
 |.ref id s i off=>if id / 32768=rid+1 then .no else .ref id s i off
 |.bF id=>if id / 32768=rid+1 then .no else .bF id
 |.fn f cap=>.fn f (lp rid cap)
 |.agg cs=>.agg (lp rid cs)
 |.mG vs=>.mG (lp rid vs)
 |.no=>.no
 |.bool b=>.bool b
 |.int k n=>.int k n
 |.str s=>.str s
 |.kI=>.kI
 |.fK=>.fK
 |.fp k x off=>.fp k x off
 |.sl ex k xs=>.sl ex k xs
 |.mp kk vk es=>.mp kk vk es
def lp(rid:Nat):List AV→List AV
 |[]=>[]
 |v::r=>bB rid v::lp rid r
end
def zG(rid:Nat):Ob→Ob
 |.box ty cs=>.box ty (lp rid cs)
 |.own ok x=>.own ok x
def kD(draw:Bool)(rid:Nat)(ops:Array Oper)(st:St):St :=if draw || ops.any (makes ·.op) then
  { tmps:=st.tmps.map fun p=>(p.1,bB rid p.2),heap:=(st.heap.filter fun p=>p.1 / 32768 != rid+1).map fun p=>(p.1,zG rid p.2) }
 else st
section
variable (P:Program) (Eqs:TypeId→Option K) (Sg:FuncId→Option aL) (F:(f:FuncId)→(g:aL)→g.A→Option g.B)
variable {R:Type}
noncomputable def g9(n rid:Nat)(ops:Array Oper)(draw:Bool)(st:St)(K:St→Option R):Option R :=let b:=if draw then Region.before ops else #[]
 if(ops.all fun o=>g8 n o)&&(!draw || (tS ops b&&(zB ops b&&b6 (ops.toList.filterMap (·.dst)))))&&decide (ops.size≤128) then
  bA P Eqs Sg F rid draw ops b (ops.toList.zipIdx.map fun p=>(p.2,p.1)) (kD draw rid ops st) K
 else none
inductive Src where
 |slot (s:Nat)
 |cap (s j:Nat)
structure Shape where
 yh:List (Nat×K)
 boxes:List (Src×Nat×BK)
 rows:List (Nat×Nat×OK)
 fns:List (Nat×FuncId×List Nat)
def Shape.ks(sh:Shape):List K:=sh.yh.map (·.2)
def Shape.bs(sh:Shape):List BK:=sh.boxes.map (·.2.2)
def I4:List OK→Type
 |[]=>Unit
 |k::r=>k.T×I4 r
abbrev Shape.T(sh:Shape):Type:=FQ sh.ks×vH sh.bs×I4 (sh.rows.map (·.2.2))
def qd(st:St):(l:List (Nat×K))→Option (FQ (l.map (·.2)))
 |[]=>some ()
 |(s,k)::r =>
  match fF k st.heap (look st.tmps s),qd st r with
  |some x,some y=>some (x,y)
  |_,_=>none
def UU(st:St):Src→Option Nat
 |.slot s=>CY (look st.tmps s)
 |.cap s j=>match look st.tmps s with
  |.fn _ cap=>match cap[j]? with
   |some v=>CY v
   |none=>none
  |_=>none
def Ei(st:St):List (Src×Nat×BK)→Option (List Nat)
 |[]=>some []
 |p::r=>match UU st p.1,Ei st r with
  |some i,some is=>some (i::is)
  |_,_=>none
def mJ(st:St):(l:List (Nat×Nat×OK))→Option (I4 (l.map (·.2.2)))
 |[]=>some ()
 |(s,_,ok)::r =>
  match dL st.heap ok (look st.tmps s),mJ st r with
  |some x,some y=>some (x,y)
  |_,_=>none
def yC(st:St)(sh:Shape)(ids:List Nat):List AV:=(sh.yh.flatMap fun p=>(look st.tmps p.1).cells)++fM sh.bs st.heap ids
def FU(st:St)(sh:Shape)(ids:List Nat):List Nat:=cU sh.bs st.heap ids++sh.rows.flatMap fun p=>oi (look st.tmps p.1)
def np(st:St)(m:Nat):List (Nat×Nat×OK)→Bool
 |[]=>false
 |(s,id,_)::r=>(id==m&&(match look st.tmps s with | .bF i=>i==m|_=>false)) || np st m r
def qZ(sh:Shape):List Nat:=bX sh.bs (sh.boxes.map (·.2.1)) 9000++sh.rows.map (·.2.1)
def KO(st:St)(ids:List (Nat×Nat)):List (Nat×FuncId×List Nat)→Bool
 |[]=>true
 |(s,f,Cv)::r =>
  (match look st.tmps s with
  |.fn f' cap=>decide (f'=f)&&(match jr cap with|some is=>decide (is.map (fun i=>(ids.find? (·.1==i)).map (·.2))=Cv.map some)|none=>false)
  |_=>false)&&KO st ids r
def cx(sh:Shape)(st:St):Option sh.T :=match Ei st sh.boxes with
 |none=>none
 |some ids =>
  match qd st sh.yh,cT sh.bs st.heap ids,mJ st sh.rows,vM (FU st sh ids) (yC st sh ids)&&(b6 (qZ sh)&&((qZ sh).all (fun m=>decide (2000≤m) || ((ids.zip (sh.boxes.map (·.2.1))).any fun p=>p.1==m&&p.2==m) || np st m sh.rows)&&KO st (ids.zip (sh.boxes.map (·.2.1))) sh.fns)) with
  |some x,some y,some z,true=>some (x,y,z)
  |_,_,_,_=>none
def qe:(l:List (Nat×K))→FQ (l.map (·.2))→List (Nat×AV)
 |[],_=>[]
 |(s,k)::r,x=>(s,cc k x.1)::qe r x.2
def jt:List (Src×Nat×BK)→List (Nat×AV)
 |[]=>[]
 |(.slot s,id,_)::r=>(s,.ref id 0 0 0)::jt r
 |(.cap _ _,_,_)::r=>jt r
def yD(l:List (Nat×FuncId×List Nat)):List (Nat×AV):=l.map fun p=>(p.1,.fn p.2.1 (p.2.2.map fun i=>.ref i 0 0 0))
def qf:(l:List (Nat×Nat×OK))→I4 (l.map (·.2.2))→Heap
 |[],_=>[]
 |(_,id,ok)::r,x=>(id,.own ok x.1)::qf r x.2
def an(sh:Shape)(x:sh.T):St :={ tmps:=qe sh.yh x.1++(jt sh.boxes++(yD sh.fns++sh.rows.map fun p=>(p.1,.bF p.2.1))),heap:=bw sh.bs (sh.boxes.map (·.2.1)) 9000 x.2.1++qf sh.rows x.2.2 }
def q6:Code→Nat
 |.region id _ _=>id
 |.seq a _=>q6 a
 |.block _ a=>q6 a
 |.loop a=>q6 a
 |.scope a=>q6 a
 |_=>0
def Ol(s:Nat)(st:St):St:=match look st.tmps s with
 |.bF m=>match st.heap.get m with
  |some (.own (.row _ k) xs)=>{ tmps:=st.tmps.map fun p=>(p.1,yg m (.sl false k xs) p.2),heap:=st.heap.del m }
  |_=>st
 |_=>st
def FV(o:Option Shape)(st:St):St:=match o with
 |some sh=>sh.rows.foldl (fun st p=>Ol p.1 st) st
 |none=>st
noncomputable def az(n:Nat)(ann:Nat→Option Shape)(J:(sh:Shape)→List Item→sh.T→Option R)(ret:St→Option R):Nat→List Item→St→Option R
 |0,_,_=>none
 |_+1,[],st=>ret st
 |m+1,.inBlock _::k,st=>az n ann J ret m k st
 |m+1,.inScope _::k,st=>az n ann J ret m k st
 |_+1,.inLoop c::k,st =>
  match ann (q6 c) with
  |none=>none
  |some sh=>match cx sh st with
   |some x=>J sh (.inLoop c::k) x
   |none=>none
 |m+1,.code c::k,st =>
  match c with
  |.skip | .label _=>az n ann J ret m k st
  |.seq a b=>az n ann J ret m (.code a::.code b::k) st
  |.cond c a b=>match ρ st.tmps c with
   |.bool t=>cond t (az n ann J ret m (.code a::k) st) (az n ann J ret m (.code b::k) st)
   |_=>none
  |.block id c=>az n ann J ret m (.code c::.inBlock id::k) st
  |.scope c=>az n ann J ret m (.code c::.inScope c::k) st
  |.loop c=>az n ann J ret m (.inLoop c::k) st
  |.exit id=>match exitTo id k with
   |some k'=>az n ann J ret m k' st
   |none=>none
  |.ret=>ret st
  |.region id ops draw=>g9 P Eqs Sg F n id ops draw (FV (ann (500000+id)) st) fun dX=>az n ann J ret m k dX
  |_=>none
 |_,_,_=>none
def xd(h:Heap)(tmps:List (Nat×AV))(rvs:List ResultVar):Option (List AV) :=match rvs with
 |[]=>some []
 |.tmp t::r=>match xd h tmps r with
  |some vs=>some (look tmps t::vs)
  |none=>none
 |.cell a t::r=>match look tmps a with
  |.ref id _ 0 off=>(match h.get id with
   |some (.box _ cs)=>(match dO P t (cs.drop off),xd h tmps r with
    |some v,some vs=>some (v::vs)
    |_,_=>none)
   |_=>none)
  |_=>none
def qg(g:aL)(fn:Func)(st:St):Option g.B :=match xd P st.heap st.tmps fn.results.toList with
 |none=>none
 |some vs =>
  match bG g.bs g.rs st.heap (aM g.bs.length) vs,cT g.bs st.heap (aM g.bs.length),
   vM (cU g.bs st.heap (aM g.bs.length)++dH g.rs vs) (fN g.rs vs++fM g.bs st.heap (aM g.bs.length))&&b6 (pW g) with
  |some x,some y,true=>some (x,y)
  |_,_,_=>none
def entry(g:aL)(x:g.A):St :={ tmps:=aO g.ps (aM g.bs.length) 0 x.1,heap:=bw g.bs (aM g.bs.length) 2000 x.2 }
def fuel:Nat:=100000
end
section
variable (P:Program) (Eqs:TypeId→Option K) (Sg:FuncId→Option aL) (An:FuncId→Nat→Option Shape) (G:(f:FuncId)→(g:aL)→Option (g.A→Option g.B))
variable (F:(f:FuncId)→(g:aL)→g.A→Option g.B)
def body(f:FuncId):Option (Func×Code):=(P.funcs[f]?).bind fun fn=>fn.body.map fun c=>(fn,c)
noncomputable def ma(f:FuncId)(g:aL)(fn:Func):Nat→(sh:Shape)→List Item→sh.T→Option g.B
 |0,_,_,_=>none
 |n+1,sh,.inLoop c::k,x=>az P Eqs Sg F fn.ntmps (An f) (ma f g fn n) (qg P g fn) fuel (.code c::.inLoop c::k) (an sh x)
 |_+1,_,_,_=>none
noncomputable def I5(f:FuncId)(g:aL)(n:Nat)(x:g.A):Option g.B :=match body P (f%1000) with
 |none=>none
 |some (fn,c)=>if decide (g.ps.length≤fn.ntmps)&&decide (g.bs.length≤8) then az P Eqs Sg F fn.ntmps (An f) (ma P Eqs Sg An F f g fn n) (qg P g fn) fuel [.code c] (entry g x) else none
end
section
variable (P:Program) (Eqs:TypeId→Option K) (Sg:FuncId→Option aL) (An:FuncId→Nat→Option Shape) (G:(f:FuncId)→(g:aL)→Option (g.A→Option g.B))
noncomputable def Fn:Nat→(f:FuncId)→(g:aL)→g.A→Option g.B
 |0,f,g,x=>match G f g with
  |some u=>u x
  |none=>none
 |m+1,f,g,x=>match G f g with
  |some u=>u x
  |none=>I5 P Eqs Sg An (Fn m) f g m x
end
end Go.Vs
namespace Go.Vs
def qh:Code→List Item→List (List Item)
 |.seq a b,k=>qh a (.code b::k)++qh b k
 |.cond _ a b,k=>qh a k++qh b k
 |.block id c,k=>qh c (.inBlock id::k)
 |.scope c,k=>qh c (.inScope c::k)
 |.loop c,k=>(.inLoop c::k)::qh c (.inLoop c::k)
 |_,_=>[]
def aN(P:Program)(f:FuncId)(j:Nat):List Item :=match body P f with
 |some (_,c)=>(qh c []).getD j []
 |none=>[]
def round:List Item→List Item
 |.inLoop c::k=>.code c::.inLoop c::k
 |k=>k
theorem tV(a:Addr)(n m:Nat):(a.add n).add m=a.add (n+m):=by unfold Addr.add;by_cases h1:n=0<;>by_cases h2:m=0<;>simp[h1,h2,Nat.add_assoc]
theorem CZ(a:Addr):a.add 0=a:=by simp[Addr.add]
theorem eT(a:Addr)(n:Nat):(a.add n).block=a.block:=by unfold Addr.add;split<;>rfl
theorem cG(g i n:Nat):(⟨g,i,none⟩:Addr).add n=⟨g,i+n,none⟩:=by unfold Addr.add;split<;>simp_all
def cp(Z:Nat→Prop)(w w':World):Prop:=∀b,Z b→w'.heap[b]? = w.heap[b]?
theorem cp.refl(Z:Nat→Prop)(w:World):cp Z w w:=fun _ _=>rfl
theorem cp.trans{Z:Nat→Prop}{w w1 w2:World}(h:cp Z w w1)(k:cp Z w1 w2):cp Z w w2:=fun b hb=>(k b hb).trans (h b hb)
theorem cp.cell{Z:Nat→Prop}{w w':World}(h:cp Z w w'){a:Addr}(ha:Z a.block):w'.cell? a=w.cell? a:=World.cell?_of_block (h _ ha)
def ad3{α:Type}(r:α→List Value→Prop)(Z:Nat→Prop)(sz:Nat)(w:World)(xs:List α)(v:Value):Prop :=∃A c,v=.slice A xs.length c∧xs.length≤c∧(A=none→c=0) ∧ ∀(i:Nat) (x:α),xs[i]? = some x→∃a us,A=some a∧Z a.block∧r x us∧∀(j:Nat) u,us[j]? = some u→w.cell? (a.add (i*sz+j))=some u
def Ej{α β:Type}(ra:α→List Value→Prop)(rb:β→List Value→Prop)(pa pb:Bool)(es:List (α×β))(bU:List MapEntry):Prop :=es.length=bU.length∧∀(i:Nat) (x:α×β) (e:MapEntry),es[i]? = some x→bU[i]? = some e →(ra x.1 e.key.cells.toList∧(pa=true→∃vs,e.key=.agg vs)∧(pa=false→e.key.cells=#[e.key]))∧rb x.2 e.val.cells.toList∧(pb=true→∃vs,e.val=.agg vs)∧(pb=false→e.val.cells=#[e.val])
def aD(Z:Nat→Prop)(w:World):(k:K)→k.T→List Value→Prop
 |.int ik,n,vs=>vs=[.int ik n]
 |.bool,b,vs=>vs=[.bool b]
 |.str,s,vs=>vs=[.string s]
 |.sl k,xs,vs=>∃v,vs=[v]∧ad3 (aD Z w k) Z k.sz w xs v
 |.pair a b,x,vs=>∃us ws,vs=us++ws∧aD Z w a x.1 us∧aD Z w b x.2 ws
 |.one k,x,vs=>aD Z w k x vs
 |.mp kk vk,es,vs=>∃A,vs=[.map A]∧((A=none∧es=[])∨∃m bU clock,A=some m∧Z m∧w.heap[m]? = some (.map bU clock)∧Ej (aD Z w kk) (aD Z w vk) kk.isAgg vk.isAgg es bU.toList)
variable {Z Z':Nat→Prop} {w w':World}
theorem aD.len:∀{k:K} {x:k.T} {vs:List Value},aD Z w k x vs→vs.length=k.sz
 |.int _,_,_,h=>by simp only[aD]at h;subst h;rfl
 |.bool,_,_,h=>by simp only[aD]at h;subst h;rfl
 |.str,_,_,h=>by simp only[aD]at h;subst h;rfl
 |.sl _,_,_,h=>by simp only[aD]at h;obtain⟨v,rfl,_⟩:=h;rfl
 |.pair a b,x,_,h=>by simp only[aD]at h;obtain⟨us,ws,rfl,h1,h2⟩:=h;rw[List.length_append,aD.len h1,aD.len h2];rfl
 |.one k,x,_,h=>by simp only[aD]at h;exact aD.len (k:=k) h
 |.mp _ _,_,_,h=>by simp only[aD]at h;obtain⟨A,rfl,_⟩:=h;rfl
theorem K.hM:∀k:K,0<k.sz
 |.int _=>Nat.one_pos
 |.bool=>Nat.one_pos
 |.str=>Nat.one_pos
 |.sl _=>Nat.one_pos
 |.pair a _=>ady (K.hM a) (Nat.le_add_right _ _)
 |.one k=>K.hM k
 |.mp _ _=>Nat.one_pos
theorem aD.one:∀{k:K} {x:k.T} {vs:List Value},aD Z w k x vs→∀u∈vs,u.oneCell'=true
 |.int _,_,_,h=>by simp only[aD]at h;subst h;simp[Value.oneCell']
 |.bool,_,_,h=>by simp only[aD]at h;subst h;simp[Value.oneCell']
 |.str,_,_,h=>by simp only[aD]at h;subst h;simp[Value.oneCell']
 |.sl _,_,_,h=>by simp only[aD]at h;obtain⟨v,rfl,A,c,rfl,_⟩:=h;simp[Value.oneCell']
 |.pair a b,x,_,h=>by
  simp only[aD]at h;obtain⟨us,ws,rfl,h1,h2⟩:=h;intro u hu;rcases adb.1 hu with hu|hu
  ·exact aD.one h1 u hu
  ·exact aD.one h2 u hu
 |.one k,x,_,h=>by simp only[aD]at h;exact aD.one (k:=k) h
 |.mp _ _,_,_,h=>by simp only[aD]at h;obtain⟨A,rfl,_⟩:=h;simp[Value.oneCell']
theorem Ej.imp{α β:Type}{ra ra':α→List Value→Prop}{rb rb':β→List Value→Prop}{pa pb:Bool}(ha:∀x vs,ra x vs→ra' x vs)(hb:∀x vs,rb x vs→rb' x vs){es:List (α×β)}{bU:List MapEntry}(h:Ej ra rb pa pb es bU):Ej ra' rb' pa pb es bU :=⟨h.1,fun i x e h1 h2=>by obtain⟨⟨a,b⟩,c,d⟩:=h.2 i x e h1 h2;exact⟨⟨ha _ _ a,b⟩,hb _ _ c,d⟩⟩
theorem aD.mono(hz:∀b,Z b→Z' b)(hs:cp Z w w'):∀{k:K} {x:k.T} {vs:List Value},aD Z w k x vs→aD Z' w' k x vs
 |.int _,_,_,h=>h
 |.bool,_,_,h=>h
 |.str,_,_,h=>h
 |.sl k,xs,_,h=>by simp only[aD]at h ⊢;obtain⟨v,rfl,A,c,rfl,hl,hn,he⟩:=h;refine⟨_,rfl,A,c,rfl,hl,hn,fun i x hx=>?_⟩;obtain⟨a,us,ha,YJ,hr,hc⟩:=he i x hx;refine⟨a,us,ha,hz _ YJ,aD.mono hz hs hr,fun j u hu=>?_⟩;rw[hs.cell (by rw[eT];exact YJ)];exact hc j u hu
 |.pair a b,x,_,h=>by simp only[aD]at h ⊢;obtain⟨us,ws,rfl,h1,h2⟩:=h;exact⟨us,ws,rfl,aD.mono hz hs h1,aD.mono hz hs h2⟩
 |.one k,x,_,h=>by simp only[aD]at h ⊢;exact aD.mono hz hs (k:=k) h
 |.mp kk vk,es,_,h=>by simp only[aD]at h ⊢;obtain⟨A,rfl,h⟩:=h;refine⟨A,rfl,h.imp (fun h=>h) fun⟨m,bU,clock,h1,h2,h3,h4⟩=>⟨m,bU,clock,h1,hz _ h2,(hs m h2).trans h3,h4.imp (fun _ _ h=>aD.mono hz hs h) (fun _ _ h=>aD.mono hz hs h)⟩⟩
def SV:Value→Nat
 |.pointer (some a)=>a.block
 |.slice (some a) _ _=>a.block
 |_=>0
def ob:Value→Option Nat
 |.pointer (some a)=>some a.block
 |.slice (some a) _ c=>if c=0 then none else some a.block
 |.map (some m)=>some m
 |_=>none
mutual
def av(Z:Nat→Prop)(ψ:Nat→Value)(h:Nat→Option Ob)(w:World):AV→Value→Prop
 |.no,_=>True
 |.bool b,v=>v=.bool b
 |.int k n,v=>v=.int k n
 |.str s,v=>v=.string s
 |.kI,v=>v=.pointer none
 |.fK,v=>v=.slice none 0 0
 |.ref id s i off,v=>∃a,v=.pointer (some a)∧(h id≠none→a=⟨SV (ψ id),i*s+off,none⟩)
 |.fp k x off,v=>∃a us,v=.pointer (some a)∧Z a.block∧aD Z w k x us∧∀(j:Nat) u,us[off+j]? = some u→w.cell? (a.add j)=some u
 |.sl ex k xs,v=>aD Z w (.sl k) xs [v]∧(ex=true→∃A c,v=.slice A c c)
 |.mp kk vk es,v=>aD Z w (.mp kk vk) es [v]
 |.bF id,v=>(v.cells=#[v]∧v.oneCell'=true)∧(h id≠none→v=ψ id)
 |.fn f cap,v=>∃vs,v=.func (.func f) #[] vs∧ak Z ψ h w cap vs.toList
 |.agg cs,v=>∃vs,v=.agg vs∧ak Z ψ h w cs vs.toList
 |.mG cs,v=>∃vs,v=.tuple vs∧ak Z ψ h w cs vs.toList
def ak(Z:Nat→Prop)(ψ:Nat→Value)(h:Nat→Option Ob)(w:World):List AV→List Value→Prop
 |[],vs=>vs=[]
 |a::r,vs=>∃v us,vs=v::us∧av Z ψ h w a v∧ak Z ψ h w r us
end
mutual
def aE(p:Nat→Prop):AV→Prop
 |.ref id _ _ _=>p id
 |.bF id=>p id
 |.fn _ cap=>ax p cap
 |.agg cs=>ax p cs
 |.mG vs=>ax p vs
 |.no=>True
 |.bool _=>True
 |.int _ _=>True
 |.str _=>True
 |.kI=>True
 |.fK=>True
 |.fp _ _ _=>True
 |.sl _ _ _=>True
 |.mp _ _ _=>True
def ax(p:Nat→Prop):List AV→Prop
 |[]=>True
 |v::r=>aE p v∧ax p r
end
section
variable {Z Z':Nat→Prop} {w w':World} {ψ ψ':Nat→Value} {h h':Nat→Option Ob} {p:Nat→Prop}
mutual
theorem av.move(hz:∀b,Z b→Z' b)(hs:cp Z w w')(hh:∀id,p id→h' id≠none→h id≠none∧ψ' id=ψ id):∀{a:AV} {v:Value},aE p a→av Z ψ h w a v→av Z' ψ' h' w' a v
 |.no,_,_,_=>by simp only[av]
 |.bool b,_,_,hr=>by simpa only[av] using hr
 |.int k n,_,_,hr=>by simpa only[av] using hr
 |.str s,_,_,hr=>by simpa only[av] using hr
 |.kI,_,_,hr=>by simpa only[av] using hr
 |.fK,_,_,hr=>by simpa only[av] using hr
 |.ref id s i off,_,hm,hr=>by simp only[av,aE]at hr hm ⊢;obtain⟨a,rfl,ha⟩:=hr;refine⟨a,rfl,fun hn=>?_⟩;obtain⟨h1,h2⟩:=hh id hm hn;rw[h2];exact ha h1
 |.fp k x off,_,_,hr=>by simp only[av]at hr ⊢;obtain⟨a,us,rfl,YJ,hk,hc⟩:=hr;refine⟨a,us,rfl,hz _ YJ,hk.mono hz hs,fun j u hu=>?_⟩;rw[hs.cell (by rw[eT];exact YJ)];exact hc j u hu
 |.sl ex k xs,_,_,hr=>by simp only[av]at hr ⊢;exact⟨aD.mono hz hs hr.1,hr.2⟩
 |.mp kk vk es,_,_,hr=>by simp only[av]at hr ⊢;exact aD.mono hz hs hr
 |.bF id,_,hm,hr=>by simp only[av,aE]at hr hm ⊢;refine⟨hr.1,fun hn=>?_⟩;obtain⟨h1,h2⟩:=hh id hm hn;rw[h2];exact hr.2 h1
 |.fn f cap,_,hm,hr=>by simp only[av,aE]at hr hm ⊢;obtain⟨vs,rfl,hl⟩:=hr;exact⟨vs,rfl,ak.move hz hs hh hm hl⟩
 |.agg cs,_,hm,hr=>by simp only[av,aE]at hr hm ⊢;obtain⟨vs,rfl,hl⟩:=hr;exact⟨vs,rfl,ak.move hz hs hh hm hl⟩
 |.mG cs,_,hm,hr=>by simp only[av,aE]at hr hm ⊢;obtain⟨vs,rfl,hl⟩:=hr;exact⟨vs,rfl,ak.move hz hs hh hm hl⟩
theorem ak.move(hz:∀b,Z b→Z' b)(hs:cp Z w w')(hh:∀id,p id→h' id≠none→h id≠none∧ψ' id=ψ id):∀{a:List AV} {v:List Value},ax p a→ak Z ψ h w a v→ak Z' ψ' h' w' a v
 |[],_,_,hr=>by simpa only[ak] using hr
 |a::r,_,hm,hr=>by simp only[ak,ax]at hr hm ⊢;obtain⟨v,us,rfl,h1,h2⟩:=hr;exact⟨v,us,rfl,av.move hz hs hh hm.1 h1,ak.move hz hs hh hm.2 h2⟩
end
mutual
theorem aE.top:∀a:AV,aE (fun _=>True) a
 |.no=>by simp only[aE]
 |.bool b=>by simp only[aE]
 |.int k n=>by simp only[aE]
 |.str s=>by simp only[aE]
 |.kI=>by simp only[aE]
 |.fK=>by simp only[aE]
 |.ref id s i off=>by simp only[aE]
 |.fp k x off=>by simp only[aE]
 |.sl ex k xs=>by simp only[aE]
 |.mp kk vk es=>by simp only[aE]
 |.bF id=>by simp only[aE]
 |.fn f cap=>by simp only[aE];exact ax.top cap
 |.agg cs=>by simp only[aE];exact ax.top cs
 |.mG cs=>by simp only[aE];exact ax.top cs
theorem ax.top:∀a:List AV,ax (fun _=>True) a
 |[]=>by simp only[ax]
 |a::r=>by simp only[ax];exact⟨aE.top a,ax.top r⟩
end
theorem av.less(hz:∀b,Z b→Z' b)(hs:cp Z w w')(hh:∀id,h' id≠none→h id≠none∧ψ' id=ψ id){a:AV}{v:Value}(hr:av Z ψ h w a v):av Z' ψ' h' w' a v :=av.move (p:=fun _=>True) hz hs (fun id _ hn=>hh id hn) (aE.top a) hr
theorem ak.less(hz:∀b,Z b→Z' b)(hs:cp Z w w')(hh:∀id,h' id≠none→h id≠none∧ψ' id=ψ id){a:List AV}{v:List Value}(hr:ak Z ψ h w a v):ak Z' ψ' h' w' a v :=ak.move (p:=fun _=>True) hz hs (fun id _ hn=>hh id hn) (ax.top a) hr
theorem ak.length:∀{a:List AV} {v:List Value},ak Z ψ h w a v→a.length=v.length
 |[],_,hr=>by simp only[ak]at hr;subst hr;rfl
 |a::r,_,hr=>by simp only[ak]at hr;obtain⟨v,us,rfl,_,h2⟩:=hr;simp[ak.length h2]
theorem ak.get:∀{a:List AV} {v:List Value} (i:Nat) {x:AV},ak Z ψ h w a v→a[i]? = some x→∃u,v[i]? = some u∧av Z ψ h w x u
 |[],_,i,x,_,hx=>by simp at hx
 |a::r,_,0,x,hr,hx=>by simp only[ak]at hr;obtain⟨v,us,rfl,h1,h2⟩:=hr;simp only[List.getElem?_cons_zero,Option.some.injEq]at hx;subst hx;exact⟨v,rfl,h1⟩
 |a::r,_,i+1,x,hr,hx=>by simp only[ak]at hr;obtain⟨v,us,rfl,h1,h2⟩:=hr;obtain⟨u,hu,hr⟩:=ak.get i h2 (by simpa using hx);exact⟨u,by simpa using hu,hr⟩
theorem ak.append:∀{a b:List AV} {v u:List Value},ak Z ψ h w a v→ak Z ψ h w b u→ak Z ψ h w (a++b) (v++u)
 |[],b,_,u,hr,hb=>by simp only[ak]at hr;subst hr;exact hb
 |a::r,b,_,u,hr,hb=>by simp only[ak]at hr;obtain⟨v,us,rfl,h1,h2⟩:=hr;simp only[List.cons_append,ak];exact⟨v,us++u,rfl,h1,ak.append h2 hb⟩
theorem ak.split:∀{a b:List AV} {v:List Value},ak Z ψ h w (a++b) v→∃us ws,v=us++ws∧ak Z ψ h w a us∧ak Z ψ h w b ws
 |[],b,v,hr=>⟨[],v,rfl,by simp only[ak],hr⟩
 |a::r,b,v,hr=>by simp only[List.cons_append,ak]at hr;obtain⟨x,us,rfl,h1,h2⟩:=hr;obtain⟨iq,ws,rfl,h3,h4⟩:=ak.split h2;exact⟨x::iq,ws,rfl,by simp only[ak];exact⟨x,iq,rfl,h1,h3⟩,h4⟩
theorem ak.drop(n:Nat){a:List AV}{v:List Value}(hr:ak Z ψ h w a v):ak Z ψ h w (a.drop n) (v.drop n):=by
 by_cases hn:n≤a.length
 ·have q7:ak Z ψ h w (a.take n++a.drop n) v:=by rw[List.take_append_drop];exact hr
  obtain⟨us,ws,rfl,h1,h2⟩:=ak.split q7;have hl:=h1.length;rw[List.length_take,Nat.min_eq_left hn]at hl;rw[hl,List.drop_left];rw[←hl];exact h2
 ·have:=hr.length;rw[List.drop_eq_nil_of_le (by omega),List.drop_eq_nil_of_le (by omega)];simp only[ak]
theorem ak.take(n:Nat){a:List AV}{v:List Value}(hr:ak Z ψ h w a v):ak Z ψ h w (a.take n) (v.take n):=by
 by_cases hn:n≤a.length
 ·have q7:ak Z ψ h w (a.take n++a.drop n) v:=by rw[List.take_append_drop];exact hr
  obtain⟨us,ws,rfl,h1,h2⟩:=ak.split q7;have hl:=h1.length;rw[List.length_take,Nat.min_eq_left hn]at hl
  conv=>rhs;rw[hl,List.take_left]
  exact h1
 ·have:=hr.length;rw[List.take_of_length_le (by omega),List.take_of_length_le (by omega)];exact hr
theorem ak.set:∀{a:List AV} {v:List Value} (i:Nat) {x:AV} {u:Value},ak Z ψ h w a v→av Z ψ h w x u→ak Z ψ h w (a.set i x) (v.set i u)
 |[],_,i,x,u,hr,_=>by simp only[ak]at hr;subst hr;simp only[List.set_nil,ak]
 |a::r,_,0,x,u,hr,hx=>by simp only[ak]at hr;obtain⟨v,us,rfl,h1,h2⟩:=hr;simp only[List.set_cons_zero,ak];exact⟨u,us,rfl,hx,h2⟩
 |a::r,_,i+1,x,u,hr,hx=>by simp only[ak]at hr;obtain⟨v,us,rfl,h1,h2⟩:=hr;simp only[List.set_cons_succ,ak];exact⟨v,_,rfl,h1,ak.set i h2 hx⟩
theorem fH:∀{k:K} {x:k.T} {vs:List Value},aD Z w k x vs→ak Z ψ h w (enc k x) vs
 |.int _,_,_,hr=>by simp only[aD]at hr;subst hr;simp[enc,ak,av]
 |.bool,_,_,hr=>by simp only[aD]at hr;subst hr;simp[enc,ak,av]
 |.str,_,_,hr=>by simp only[aD]at hr;subst hr;simp[enc,ak,av]
 |.sl k,xs,_,hr=>by have q7:=hr;simp only[aD]at q7;obtain⟨v,rfl,_⟩:=q7;simp only[enc,ak,av];exact⟨v,[],rfl,⟨hr,by simp⟩,rfl⟩
 |.pair a b,x,_,hr=>by simp only[aD]at hr;obtain⟨us,ws,rfl,h1,h2⟩:=hr;simp only[enc];exact ak.append (fH h1) (fH h2)
 |.one k,x,_,hr=>by simp only[aD]at hr;simp only[enc];exact fH (k:=k) hr
 |.mp kk vk,es,_,hr=>by have q7:=hr;simp only[aD]at q7;obtain⟨A,rfl,_⟩:=q7;simp only[enc,ak,av];exact⟨_,[],rfl,hr,rfl⟩
theorem Om{k:K}{v:Value}(hr:av Z ψ h w .fK v):aD Z w (.sl k) [] [v]:=by simp only[av]at hr;subst hr;simp only[aD];exact⟨_,rfl,none,0,rfl,adg _,fun _=>rfl,fun i x hx=>by simp at hx⟩
theorem yE:∀{k:K} {cs:List AV} {x:k.T} {r:List AV} {vs:List Value},dec k cs=some (x,r)→ak Z ψ h w cs vs→∃us ws,vs=us++ws∧aD Z w k x us∧ak Z ψ h w r ws
 |.int ik,cs,x,r,vs,hd,hr=>by
  simp only[dec]at hd;unfold Ee at hd
  split at hd
  ·split at hd
   ·rename_i he;subst he
    cases hd
    simp only[ak,av]at hr;obtain⟨v,us,rfl,rfl,h2⟩:=hr;exact⟨[_],us,rfl,by simp only[aD],h2⟩
   ·cases hd
  ·cases hd
 |.bool,cs,x,r,vs,hd,hr=>by
  simp only[dec]at hd;unfold yy at hd
  split at hd
  ·cases hd
   simp only[ak,av]at hr;obtain⟨v,us,rfl,rfl,h2⟩:=hr;exact⟨[_],us,rfl,by simp only[aD],h2⟩
  ·cases hd
 |.str,cs,x,r,vs,hd,hr=>by
  simp only[dec]at hd;unfold Ef at hd
  split at hd
  ·cases hd
   simp only[ak,av]at hr;obtain⟨v,us,rfl,rfl,h2⟩:=hr;exact⟨[_],us,rfl,by simp only[aD],h2⟩
  ·cases hd
 |.sl k,cs,x,r,vs,hd,hr=>by
  simp only[dec]at hd;unfold KI at hd
  split at hd
  ·split at hd
   ·rename_i he;subst he
    cases hd
    simp only[ak]at hr;obtain⟨v,us,rfl,h1,h2⟩:=hr;simp only[av]at h1;exact⟨[_],us,rfl,h1.1,h2⟩
   ·cases hd
  ·cases hd
   simp only[ak]at hr;obtain⟨v,us,rfl,h1,h2⟩:=hr;exact⟨[_],us,rfl,Om h1,h2⟩
  ·cases hd
 |.pair a b,cs,x,r,vs,hd,hr=>by
  simp only[dec]at hd
  split at hd
  ·rename_i x1 r1 h1
   split at hd
   ·rename_i y1 r2 h2
    cases hd
    obtain⟨us,ws,rfl,k1,k2⟩:=yE h1 hr;obtain⟨iq,ws',rfl,k3,k4⟩:=yE h2 k2;exact⟨us++iq,ws',by rw[List.append_assoc],by simp only[aD];exact⟨us,iq,rfl,k1,k3⟩,k4⟩
   ·cases hd
  ·cases hd
 |.one k,cs,x,r,vs,hd,hr=>by simp only[dec]at hd;obtain⟨us,ws,e,k1,k2⟩:=yE (k:=k) hd hr;exact⟨us,ws,e,by simp only[aD];exact k1,k2⟩
 |.mp kk vk,cs,x,r,vs,hd,hr=>by
  simp only[dec]at hd;unfold KJ at hd
  split at hd
  ·split at hd
   ·rename_i he;obtain⟨rfl,rfl⟩:=he
    cases hd
    simp only[ak]at hr;obtain⟨v,us,rfl,h1,h2⟩:=hr;simp only[av]at h1;exact⟨[_],us,rfl,h1,h2⟩
   ·cases hd
  ·cases hd
theorem c9{k:K}{cs:List AV}{x:k.T}{vs:List Value}(hd:c8 k cs=some x)(hr:ak Z ψ h w cs vs):aD Z w k x vs:=by
 unfold c8 at hd
 split at hd
 ·rename_i x' h1
  cases hd
  obtain⟨us,ws,rfl,k1,k2⟩:=yE h1 hr;simp only[ak]at k2;subst k2;rw[List.append_nil];exact k1
 ·cases hd
theorem lq{k:K}{x:k.T}{v:Value}(hr:aD Z w k x v.cells.toList)(hp:k.isAgg=true→∃vs,v=.agg vs)(hn:k.isAgg=false→v.cells=#[v]):av Z ψ h w (cc k x) v:=by
 cases k with
 |int ik=>rw[hn rfl]at hr;simp only[aD]at hr;simp only[cc,av];simpa using hr
 |bool=>rw[hn rfl]at hr;simp only[aD]at hr;simp only[cc,av];simpa using hr
 |str=>rw[hn rfl]at hr;simp only[aD]at hr;simp only[cc,av];simpa using hr
 |sl k=>rw[hn rfl]at hr;simp only[cc,av];exact⟨hr,by simp⟩
 |mp kk vk=>rw[hn rfl]at hr;simp only[cc,av];exact hr
 |pair a b =>obtain⟨vs,rfl⟩:=hp rfl;simp only[cc,av];exact⟨vs,rfl,fH hr⟩
 |one k =>obtain⟨vs,rfl⟩:=hp rfl;simp only[cc,av];exact⟨vs,rfl,fH hr⟩
end
end Go.Vs
namespace Go.Vs
theorem Heap.hP{n m:Nat}(bq:m≠n):∀h:Heap,(h.del n).get m=h.get m
 |[]=>rfl
 |(i,o)::r=>by
  simp only[Heap.del]
  split
  ·rename_i hi;rw[Heap.hP bq r];simp only[Heap.get];rw[if_neg (by omega)]
  ·simp only[Heap.get]
   split
   ·rfl
   ·exact Heap.hP bq r
theorem Heap.gh(n:Nat):∀h:Heap,(h.del n).get n=none
 |[]=>rfl
 |(i,o)::r=>by
  simp only[Heap.del]
  split
  ·exact Heap.gh n r
  ·rename_i hi;simp only[Heap.get];rw[if_neg hi];exact Heap.gh n r
theorem Heap.Ek(h:Heap)(n:Nat)(o:Ob):(h.set n o).get n=some o:=by simp[Heap.set,Heap.get]
theorem Heap.I6{n m:Nat}(bq:m≠n)(h:Heap)(o:Ob):(h.set n o).get m=h.get m:=by simp only[Heap.set,Heap.get];rw[if_neg (by omega)];exact Heap.hP bq h
theorem Heap.tW{n m:Nat}{h:Heap}{o:Ob}(hg:(h.del n).get m=some o):h.get m=some o∧m≠n:=by
 by_cases bq:m=n
 ·subst bq;rw[Heap.gh]at hg;cases hg
 ·rw[Heap.hP bq]at hg;exact⟨hg,bq⟩
theorem Heap.get_append(a b:Heap)(n:Nat):(a++b).get n=(match a.get n with|some o=>some o|none=>b.get n):=by
 induction a with
 |nil=>rfl
 |cons p r ih =>
  obtain⟨i,o⟩:=p;simp only[List.cons_append,Heap.get]
  split
  ·rfl
  ·exact ih
def mK(Z:Nat→Prop)(w:World)(k:K)(xs:List k.T)(vs:List Value):Prop :=∀(i:Nat) (x:k.T),xs[i]? = some x→aD Z w k x ((vs.drop (i*k.sz)).take k.sz)
abbrev Hp:=Nat→Option Ob
def dS(w:World)(e:TypeId)(size:Nat)(v:Value)(n:Nat)(vs:List Value):Prop :=vs.length=n*size ∧((n=0∧∃A,v=.slice A 0 0) ∨ ∃g cap cur,v=.slice (some ⟨g,0,none⟩) n cap∧0<cap∧w.heap[g]? = some (.cells cur e (0,0))∧n≤cap∧cap≤maxLen∧cur.size=cap*size∧cur.toList.take (n*size)=vs)
theorem dS.of{w:World}{base e size n:Nat}{v:Value}{vs:List Value}(h:w.ownsRow base e size v n vs):dS w e size v n vs:=by
 obtain⟨h1,h2⟩:=h;refine⟨h1,?_⟩;rcases h2 with⟨rfl,h2⟩|⟨g,cap,cur,rfl,_,h3,h4,h5,h6,h7⟩
 ·exact .inl ⟨h2,none,rfl⟩
 ·by_cases hc:cap=0
  ·subst hc;have:n=0:=by omega
   subst this;exact .inl ⟨rfl,_,rfl⟩
  ·exact .inr ⟨g,cap,cur,rfl,by omega,h3,h4,h5,h6,h7⟩
theorem dS.slice{w:World}{e size n:Nat}{v:Value}{vs:List Value}(h:dS w e size v n vs):∃A c,v=.slice A n c:=by
 rcases h.2 with⟨h0,A,rfl⟩|⟨g,cap,cur,rfl,_⟩
 ·subst h0;exact⟨A,0,rfl⟩
 ·exact⟨_,_,rfl⟩
theorem dS.one{w:World}{e size n:Nat}{v:Value}{vs:List Value}(h:dS w e size v n vs):v.cells=#[v]∧v.oneCell'=true:=by obtain⟨A,c,rfl⟩:=h.slice;exact⟨rfl,by simp[Value.oneCell']⟩
theorem dS.kept{w w':World}{e size n:Nat}{v:Value}{vs:List Value}(ho:dS w e size v n vs)(hk:∀g,ob v=some g→w'.heap[g]? = w.heap[g]?):dS w' e size v n vs:=by
 obtain⟨h1,h2⟩:=ho;refine⟨h1,?_⟩;rcases h2 with h2|⟨g,cap,cur,rfl,hc,hh,r⟩
 ·exact .inl h2
 ·exact .inr ⟨g,cap,cur,rfl,hc,(hk g (by simp only[ob];rw[if_neg (by omega)])).trans hh,r⟩
def jm(Z:Nat→Prop)(w:World):(ok:OK)→Value→ok.T→Prop
 |.row ty k,v,xs=>∃vs,dS w ty k.sz v xs.length vs∧mK Z w k xs vs
 |.map kk vk,v,es=>∃m bU clock,v=.map (some m)∧w.heap[m]? = some (.map bU clock)∧Ej (aD Z w kk) (aD Z w vk) kk.isAgg vk.isAgg es bU.toList∧bU.toList.Pairwise (fun a b=>a.born≠b.born)∧∀e∈bU.toList,e.born<clock
 |.iter kk vk,v,x=>∃r m since seen bU clock,v=.pointer (some ⟨r,0,none⟩)∧w.heap[r]? = some (.mapIter (some m) since seen clock)∧Z m∧w.heap[m]? = some (.map bU clock) ∧ bU.toList.Pairwise (fun a b=>a.born≠b.born)∧since=clock∧(∀e∈bU.toList,e.born<clock)∧Ej (aD Z w kk) (aD Z w vk) kk.isAgg vk.isAgg x.2 (bU.toList.filter fun e => !seen.contains e.born) ∧(match x.1 with|none=>True|some c=>∃e∈bU.toList,seen.back? = some e.born∧Ej (aD Z w kk) (aD Z w vk) kk.isAgg vk.isAgg [c] [e])
 |.nc,v,x=>∃r,v=.pointer (some ⟨r,0,none⟩)∧w.heap[r]? = some (.stringIter x.1 x.2)
theorem jm.lt{Z:Nat→Prop}{w:World}:∀{ok:OK} {v:Value} {x:ok.T} {b:Nat},jm Z w ok v x→ob v=some b→b<w.heap.size
 |.row ty k,v,xs,b,h,hb=>by
  obtain⟨vs,⟨_,h⟩,_⟩:=h;rcases h with⟨_,A,rfl⟩|⟨g,cap,cur,rfl,hc,h2,_⟩
  ·cases A<;>simp[ob]at hb
  ·simp only[ob]at hb;rw[if_neg (by omega)]at hb
   cases hb
   exact(acV.1 h2).1
 |.map _ _,v,_,b,h,hb=>by obtain⟨m,bU,clock,rfl,h2,_⟩:=h;simp only[ob,Option.some.injEq]at hb;subst hb;exact(acV.1 h2).1
 |.iter _ _,v,_,b,h,hb=>by obtain⟨r,m,since,seen,bU,clock,rfl,h2,_⟩:=h;simp only[ob,Option.some.injEq]at hb;subst hb;exact(acV.1 h2).1
 |.nc,v,_,b,h,hb=>by obtain⟨r,rfl,h2⟩:=h;simp only[ob,Option.some.injEq]at hb;subst hb;exact(acV.1 h2).1
theorem jm.one{Z:Nat→Prop}{w:World}:∀{ok:OK} {v:Value} {x:ok.T},jm Z w ok v x→v.cells=#[v]∧v.oneCell'=true
 |.row ty k,v,xs,h=>by obtain⟨vs,h,_⟩:=h;obtain⟨A,c,rfl⟩:=h.slice;exact⟨rfl,by simp[Value.oneCell']⟩
 |.map _ _,v,_,h=>by obtain⟨m,bU,clock,rfl,_⟩:=h;exact⟨rfl,by simp[Value.oneCell']⟩
 |.iter _ _,v,_,h=>by obtain⟨r,m,since,seen,bU,clock,rfl,_⟩:=h;exact⟨rfl,by simp[Value.oneCell']⟩
 |.nc,v,_,h=>by obtain⟨r,rfl,_⟩:=h;exact⟨rfl,by simp[Value.oneCell']⟩
theorem jm.kept{Z Z':Nat→Prop}{w w':World}(hz:∀b,Z b→Z' b)(sm:cp Z w w'):∀{ok:OK} {v:Value} {x:ok.T},(∀g,ob v=some g→w'.heap[g]? = w.heap[g]?)→jm Z w ok v x→jm Z' w' ok v x
 |.row ty k,v,xs,hk,h=>by obtain⟨vs,h1,h2⟩:=h;exact⟨vs,h1.kept hk,fun i x hx=>(h2 i x hx).mono hz sm⟩
 |.map _ _,v,_,hk,h=>by obtain⟨m,bU,clock,rfl,h2,h3,h4⟩:=h;exact⟨m,bU,clock,rfl,(hk m rfl).trans h2,h3.imp (fun _ _ h=>h.mono hz sm) (fun _ _ h=>h.mono hz sm),h4⟩
 |.iter _ _,v,x,hk,h=>by
  obtain⟨r,m,since,seen,bU,clock,rfl,h2,h3,h4,h5,h6,h7,h8,h9⟩:=h;refine⟨r,m,since,seen,bU,clock,rfl,(hk r rfl).trans h2,hz _ h3,(sm m h3).trans h4,h5,h6,h7,h8.imp (fun _ _ h=>h.mono hz sm) (fun _ _ h=>h.mono hz sm),?_⟩
  split
  ·trivial
  ·rename_i c hc;rw[hc]at h9;obtain⟨e,he,mL,yi⟩:=h9;exact⟨e,he,mL,yi.imp (fun _ _ h=>h.mono hz sm) (fun _ _ h=>h.mono hz sm)⟩
 |.nc,v,_,hk,h=>by obtain⟨r,rfl,h2⟩:=h;exact⟨r,rfl,(hk r rfl).trans h2⟩
structure Good(Z:Nat→Prop)(ψ:Nat→Value)(h:Hp)(w:World)(B0:Nat)(O:Nat→Prop):Prop where
 box:∀id ty cs,h id=some (.box ty cs)→∃g vs,ψ id=.pointer (some ⟨g,0,none⟩)∧w.heap[g]? = some (.cells vs ty (0,0))∧ak Z ψ h w cs vs.toList∧∀u∈vs.toList,u.oneCell'=true
 row:∀id ok x,h id=some (.own ok x)→jm Z w ok (ψ id) x
 live:∀id g,h id≠none→ob (ψ id)=some g→¬Z g∧(B0≤g∨O g)
 apart:∀id l9 g,h id≠none→h l9≠none→ob (ψ id)=some g→ob (ψ l9)=some g→id=l9
 ju:∀b,Z b→b<w.heap.size
variable {Z Z':Nat→Prop} {ψ ψ':Nat→Value} {h h':Hp} {w w':World} {B0:Nat} {O:Nat→Prop}
theorem Good.sub(g:Good Z ψ h w B0 O)(hs:∀id o,h' id=some o→h id=some o):Good Z ψ h' w B0 O:=by
 have hn:∀id,h' id≠none→h id≠none:=fun id hn=>by obtain⟨o,ho⟩:=ade.1 hn;rw[hs id o ho];simp
 refine⟨fun id ty cs hb=>?_,fun id ok x hb=>g.row id ok x (hs _ _ hb),fun id b h1 h2=>g.live id b (hn id h1) h2,fun id l9 b h1 h2 h3 h4=>g.apart id l9 b (hn _ h1) (hn _ h2) h3 h4,g.ju⟩;obtain⟨b,vs,h1,h2,h3,h4⟩:=g.box id ty cs (hs _ _ hb);exact⟨b,vs,h1,h2,ak.less (fun _ h=>h) (cp.refl _ _) (fun id bL=>⟨hn id bL,rfl⟩) h3,h4⟩
theorem Good.freeze(g:Good Z ψ h w B0 O)(hs:∀id o,h' id=some o→h id=some o)(hz:∀b,Z b→Z' b) (NY:∀b,Z' b→Z b∨∃id,h id≠none∧h' id=none∧ob (ψ id)=some b):Good Z' ψ h' w B0 O:=by
 have hn:∀id,h' id≠none→h id≠none:=fun id hn=>by obtain⟨o,ho⟩:=ade.1 hn;rw[hs id o ho];simp
 have lt:∀id b,h id≠none→ob (ψ id)=some b→b<w.heap.size:=by
  intro id b h1 h2;obtain⟨o,ho⟩:=ade.1 h1
  cases o with
  |box ty cs =>obtain⟨gg,vs,e1,e2,_⟩:=g.box id ty cs ho;rw[e1]at h2;simp only[ob,Option.some.injEq]at h2;subst h2;exact(acV.1 e2).1
  |own ok x=>exact(g.row id ok x ho).lt h2
 refine⟨fun id ty cs hb=>?_,fun id ok x hb=>?_,fun id b h1 h2=>⟨fun YK=>?_,(g.live id b (hn id h1) h2).2⟩,fun id l9 b h1 h2 h3 h4=>g.apart id l9 b (hn _ h1) (hn _ h2) h3 h4,fun b hb=>?_⟩
 ·obtain⟨b,vs,h1,h2,h3,h4⟩:=g.box id ty cs (hs _ _ hb);exact⟨b,vs,h1,h2,ak.less hz (cp.refl _ _) (fun id bL=>⟨hn id bL,rfl⟩) h3,h4⟩
 ·exact(g.row id ok x (hs _ _ hb)).kept hz (cp.refl _ _) (fun _ _=>rfl)
 ·rcases NY b YK with h3|⟨l9,h3,h4,h5⟩
  ·exact(g.live id b (hn id h1) h2).1 h3
  ·have:=g.apart id l9 b (hn id h1) h3 h2 h5;subst this;exact h1 h4
 ·rcases NY b hb with h3|⟨l9,h3,h4,h5⟩
  ·exact g.ju b h3
  ·exact lt l9 b h3 h5
theorem tX{ty:TypeId}{k:K}{xs:List k.T}{v:Value}{vs:List Value}(ho:dS w ty k.sz v xs.length vs)(hv:mK Z w k xs vs)(hz:∀b,Z b→Z' b)(hb:∀b,ob v=some b→Z' b) :
  aD Z' w (.sl k) xs [v]:=by
 simp only[aD];refine⟨v,rfl,?_⟩;obtain⟨hl,e⟩:=ho;rcases e with⟨h0,A,rfl⟩|⟨g,cap,cur,rfl,I7,hh,hc,_,hs,ad5⟩
 ·have:xs=[]:=adh h0;subst this;exact⟨A,0,rfl,adg _,fun _=>rfl,fun i x hx=>by simp at hx⟩
 ·refine⟨some ⟨g,0,none⟩,cap,rfl,hc,fun e=>(by cases e),fun i x hx=>?_⟩;have hi:i<xs.length:=(ack.1 hx).1;refine⟨⟨g,0,none⟩,_,rfl,hb g (by simp only[ob];rw[if_neg (by omega)]),(hv i x hx).mono hz (cp.refl _ _),fun j u hu=>?_⟩;rw[cG,Nat.zero_add];simp only[World.cell?,hh];rw[List.getElem?_take]at hu
  split at hu
  ·rename_i hj;rw[List.getElem?_drop]at hu;rw[←ad5,List.getElem?_take]at hu
   split at hu
   ·simpa using hu
   ·cases hu
  ·cases hu
theorem C0{hh:Heap}{a:AV}{v:Value}(g:Good Z ψ hh.get w B0 O)(hz:∀b,Z b→Z' b)(hb:∀id b,a=.bF id→hh.get id≠none→ob (ψ id)=some b→Z' b)(hr:av Z ψ hh.get w a v):av Z' ψ hh.get w (cE hh a) v:=by
 unfold cE
 split
 ·rename_i id
  split
  ·rename_i ty k xs hg;simp only[av]at hr;have hv:=hr.2 (by rw[hg];simp);subst hv;obtain⟨vs,h1,h2⟩:=g.row id (.row ty k) xs hg;simp only[av];exact⟨tX h1 h2 hz (fun b Wi=>hb id b rfl (by rw[hg];simp) Wi),by simp⟩
  ·rename_i kk vk es hg;simp only[av]at hr;have hv:=hr.2 (by rw[hg];simp);subst hv;obtain⟨m,bU,clock,h1,h2,h3,_⟩:=g.row id (.map kk vk) es hg;simp only[av,aD];refine⟨some m,by rw[h1],.inr ⟨m,bU,clock,rfl,hb id m rfl (by rw[hg];simp) (by rw[h1];rfl),h2,h3.imp (fun _ _ h=>h.mono hz (cp.refl _ _)) (fun _ _ h=>h.mono hz (cp.refl _ _))⟩⟩
  ·simp only[av]
 ·exact hr.less hz (cp.refl _ _) (fun id bL=>⟨bL,rfl⟩)
theorem nq{hh:Heap}(g:Good Z ψ hh.get w B0 O)(hz:∀b,Z b→Z' b):∀{cs:List AV} {vs:List Value},(∀id b,AV.bF id∈cs→hh.get id≠none→ob (ψ id)=some b→Z' b)→ak Z ψ hh.get w cs vs→ak Z' ψ hh.get w (cs.map (cE hh)) vs
 |[],_,_,hr=>by simpa only[ak,List.map_nil] using hr
 |a::r,_,hb,hr=>by simp only[ak,List.map_cons]at hr ⊢;obtain⟨v,us,rfl,h1,h2⟩:=hr;exact⟨v,us,rfl,C0 g hz (fun id b e=>hb id b (by rw[e];simp)) h1,nq g hz (fun id b e=>hb id b (acm _ e)) h2⟩
theorem L7(hh:Heap)(a:AV):∀id o,(drop1 hh a).get id=some o→hh.get id=some o:=by
 intro id o hg;unfold drop1 at hg
 split at hg
 ·exact(Heap.tW hg).1
 ·exact hg
theorem dP:∀(cs:List AV) (hh:Heap),∀id o,(cy hh cs).get id=some o→hh.get id=some o
 |[],_,_,_,hg=>hg
 |c::r,hh,id,o,hg=>L7 hh c id o (dP r (drop1 hh c) id o hg)
theorem zH:∀(cs:List AV) (hh:Heap) (id:Nat),AV.bF id∈cs→(cy hh cs).get id=none
 |[],_,_,hm=>by simp at hm
 |c::r,hh,id,hm=>by
  simp only[cy];rcases acn.1 hm with rfl|hm
  ·cases hg:(cy (drop1 hh (.bF id)) r).get id with
   |none=>rfl
   |some o =>have:=dP r _ id o hg;simp only[drop1,Heap.gh]at this;cases this
  ·exact zH r _ id hm
theorem oq:∀(cs:List AV) (hh:Heap) (id:Nat),AV.bF id∉cs→(cy hh cs).get id=hh.get id
 |[],_,_,_=>rfl
 |c::r,hh,id,hm=>by
  simp only[cy];rw[oq r _ id (fun h=>hm (List.mem_cons_of_mem _ h))];unfold drop1
  split
  ·rename_i l9;exact Heap.hP (fun e=>hm (by rw[e];simp)) hh
  ·rfl
def pT(Z:Nat→Prop)(ψ:Nat→Value)(h:Hp)(cs:List AV):Nat→Prop:=fun b=>Z b∨∃id,AV.bF id∈cs∧h id≠none∧ob (ψ id)=some b
theorem hY{hh:Heap}(g:Good Z ψ hh.get w B0 O)(cs:List AV):Good (pT Z ψ hh.get cs) ψ (cy hh cs).get w B0 O :=g.freeze (dP cs hh) (fun _ hb=>.inl hb) (fun b hb=>by
  rcases hb with hb|⟨id,h1,h2,h3⟩
  ·exact .inl hb
  ·exact .inr ⟨id,h2,zH cs hh id h1,h3⟩)
end Go.Vs
namespace Go.Vs
def Own(ψ:Nat→Value)(h:Hp)(b:Nat):Prop:=∃id,h id≠none∧ob (ψ id)=some b
structure cV(ψ:Nat→Value)(h:Hp)(w w':World):Prop where
 os:w'.os=w.os
 tape:w'.tape=w.tape
 output:w'.output=w.output
 size:w.heap.size≤w'.heap.size
 block:∀b,b<w.heap.size→¬Own ψ h b→w'.heap[b]? = w.heap[b]?
structure Next(Z:Nat→Prop)(ψ:Nat→Value)(h:Hp)(w:World)(B0:Nat)(O:Nat→Prop)(N:Nat→Prop)(Z':Nat→Prop)(ψ':Nat→Value)(h':Hp)(w':World):Prop where
 fC:∀b,Z b→Z' b
 dY:∀b,Z' b→Z b∨Own ψ h b∨w.heap.size≤b
 keep:cV ψ h w w'
 ids:∀id,h' id≠none→(h id≠none∧ψ' id=ψ id)∨N id
 dB:Good Z' ψ' h' w' B0 O
variable {Z Z':Nat→Prop} {ψ ψ':Nat→Value} {h h':Hp} {w w':World} {B0:Nat} {O:Nat→Prop} {N:Nat→Prop}
theorem cV.refl(ψ:Nat→Value)(h:Hp)(w:World):cV ψ h w w:=⟨rfl,rfl,rfl,adg _,fun _ _ _=>rfl⟩
theorem cV.same(k:cV ψ h w w')(g:Good Z ψ h w B0 O):cp Z w w':=fun b hb=>k.block b (g.ju b hb) (fun⟨id,h1,h2⟩=>(g.live id b h1 h2).1 hb)
theorem Next.same(n:Next Z ψ h w B0 O N Z' ψ' h' w')(g:Good Z ψ h w B0 O):cp Z w w':=n.keep.same g
theorem Next.refl(g:Good Z ψ h w B0 O):Next Z ψ h w B0 O N Z ψ h w :=⟨fun _ h=>h,fun _ h=>.inl h,cV.refl _ _ _,fun _ bL=>.inl ⟨bL,rfl⟩,g⟩
theorem Next.rep(n:Next Z ψ h w B0 O N Z' ψ' h' w')(g:Good Z ψ h w B0 O){a:AV}{v:Value}(hm:aE (fun id=>¬N id) a)(hr:av Z ψ h w a v):av Z' ψ' h' w' a v :=hr.move n.fC (n.same g) (fun id hp bL=>(n.ids id bL).resolve_right hp) hm
theorem Good.bM(g:Good Z ψ h w B0 O){b:Nat}(ho:Own ψ h b):b<w.heap.size:=by
 obtain⟨id,h1,h2⟩:=ho;obtain⟨o,ho⟩:=ade.1 h1
 cases o with
 |box ty cs =>obtain⟨gg,vs,e1,e2,_⟩:=g.box id ty cs ho;rw[e1]at h2;simp only[ob,Option.some.injEq]at h2;subst h2;exact(acV.1 e2).1
 |own ok x=>exact(g.row id ok x ho).lt h2
theorem Good.more(g:Good Z ψ h w B0 O)(k:cV ψ h w w')(r9:∀b,Own ψ h b→w'.heap[b]? = w.heap[b]?) (hold:∀id,¬N id→h' id=h id∧ψ' id=ψ id) (bf:∀id ty cs,h id=some (.box ty cs)→ax (fun i=>¬N i) cs) (On:∀id ty cs,N id→h' id=some (.box ty cs)→∃g vs,ψ' id=.pointer (some ⟨g,0,none⟩)∧w'.heap[g]? = some (.cells vs ty (0,0))∧ak Z ψ' h' w' cs vs.toList∧∀u∈vs.toList,u.oneCell'=true) (nr:∀id ok x,N id→h' id=some (.own ok x)→jm Z w' ok (ψ' id) x) (zJ:∀id b,N id→h' id≠none→ob (ψ' id)=some b→w.heap.size≤b) (I8:∀id l9 b,N id→N l9→h' id≠none→h' l9≠none→ob (ψ' id)=some b→ob (ψ' l9)=some b→id=l9) (hB:B0≤w.heap.size) :
  Next Z ψ h w B0 O N Z ψ' h' w':=by
 have rT:∀id,h' id≠none→(h id≠none∧ψ' id=ψ id)∨N id:=fun id bL=>by
  by_cases hn:N id
  ·exact .inr hn
  ·obtain⟨e1,e2⟩:=hold id hn;exact .inl ⟨by rwa [e1]at bL,e2⟩
 have sm:cp Z w w':=k.same g;have xe:∀id b,¬N id→h' id≠none→ob (ψ' id)=some b→Own ψ h b:=fun id b hn h1 h2=>by obtain⟨e1,e2⟩:=hold id hn;exact⟨id,by rwa [e1]at h1,by rwa [e2]at h2⟩
 refine⟨fun _ h=>h,fun _ h=>.inl h,k,rT,⟨fun id ty cs hb=>?_,fun id ok x hb=>?_,fun id b h1 h2=>?_,fun id l9 b h1 h2 h3 h4=>?_,fun b hb=>ady (g.ju b hb) k.size⟩⟩
 ·by_cases hn:N id
  ·exact On id ty cs hn hb
  ·obtain⟨e1,e2⟩:=hold id hn;rw[e1]at hb;obtain⟨gg,vs,h1,h2,h3,h4⟩:=g.box id ty cs hb;have ho:Own ψ h gg:=⟨id,by rw[hb];simp,by rw[h1];rfl⟩;exact⟨gg,vs,by rw[e2,h1],(r9 gg ho).trans h2,h3.move (fun _ h=>h) sm (fun i hp bL=>(rT i bL).resolve_right hp) (bf id ty cs hb),h4⟩
 ·by_cases hn:N id
  ·exact nr id ok x hn hb
  ·obtain⟨e1,e2⟩:=hold id hn;rw[e1]at hb;rw[e2];exact(g.row id ok x hb).kept (fun _ h=>h) sm (fun gg L8=>r9 gg ⟨id,by rw[hb];simp,L8⟩)
 ·by_cases hn:N id
  ·have:=zJ id b hn h1 h2;exact⟨fun hz=>by have:=g.ju b hz;omega,.inl (by omega)⟩
  ·obtain⟨e1,e2⟩:=hold id hn;rw[e1]at h1;rw[e2]at h2;exact g.live id b h1 h2
 ·by_cases hn:N id<;>by_cases I9:N l9
  ·exact I8 id l9 b hn I9 h1 h2 h3 h4
  ·have:=zJ id b hn h1 h3;have:=g.bM (xe l9 b I9 h2 h4);omega
  ·have:=zJ l9 b I9 h2 h4;have:=g.bM (xe id b hn h1 h3);omega
  ·obtain⟨e1,e2⟩:=hold id hn;obtain⟨e3,e4⟩:=hold l9 I9;rw[e1]at h1;rw[e2]at h3;rw[e3]at h2;rw[e4]at h4;exact g.apart id l9 b h1 h2 h3 h4
end Go.Vs
namespace Go.Vs
variable {P:Program} {Z Z':Nat→Prop} {ψ ψ':Nat→Value} {h h':Hp} {w w':World} {B0:Nat} {O:Nat→Prop} {N:Nat→Prop}
theorem q8{α:Type}:∀(vs cs:List α) (off:Nat),off+vs.length≤cs.length→dM cs off vs=cs.take off++vs++cs.drop (off+vs.length)
 |[],cs,off,_=>by simp[dM]
 |v::r,cs,off,hl=>by
  simp only[List.length_cons]at hl;simp only[dM];rw[q8 r (cs.set off v) (off+1) (by rw[List.length_set];omega)];have h1:(cs.set off v).take (off+1)=cs.take off++[v]:=by rw[List.take_set,List.take_succ_eq_append_getElem (by omega),List.set_append_right _ _ (by rw[List.length_take];omega)];rw[List.length_take,Nat.min_eq_left (by omega)];simp
  have h2:(cs.set off v).drop (off+1+r.length)=cs.drop (off+(r.length+1)):=by rw[List.drop_set_of_lt (by omega)];congr 1;omega
  rw[h1,h2,List.append_assoc,List.append_assoc,List.append_assoc];rfl
theorem fP{t:TypeId}{b:Bool}(hb:CV P t=some b):(isAgg t).run P w=.ok b w:=by
 unfold CV at hb;obtain⟨d,hd,rfl⟩:=ads.1 hb;simp only[isAgg,Sem.run_bind,run_underlying hd,Result.andThen_ok]
 cases d<;>rfl
theorem sd{t:TypeId}{d:TypeDesc}(hd:P.underlying t=some d):∃i,P.info? t=some i:=by
 unfold Program.underlying at hd
 split at hd
 ·rename_i heq;exact⟨_,heq⟩
 ·rename_i heq;exact⟨_,heq⟩
 ·cases hd
theorem du{t:TypeId}{i:TypeInfo}(hi:P.info? t=some i):(sizeOf t).run P w=.ok (P.cellsOf t) w:=by simp[sizeOf,typeInfo,hi,Program.cellsOf]
theorem xf{t:TypeId}{b:Bool}(hb:CV P t=some b):∃i,P.info? t=some i:=by unfold CV at hb;obtain⟨d,hd,rfl⟩:=ads.1 hb;exact sd hd
theorem jv{t:TypeId}{cs:List AV}{us:List Value}{a:Addr}{x:AV}(hr:ak Z ψ h w cs us)(hc:∀(j:Nat) u,us[j]? = some u→w.cell? (a.add j)=some u)(hx:dO P t cs=some x) :
  ∃V,(Instr.loadAt t (.pointer (some a))).run P w=.ok V w∧av Z ψ h w x V:=by
 unfold dO at hx;have hlen:=hr.length
 split at hx
 ·rename_i hb
  split at hx
  ·rename_i hl
   cases hx
   obtain⟨i,hi⟩:=xf hb;refine⟨.agg (us.take (P.cellsOf t)).toArray,?_,by simp only[av];exact⟨_,rfl,by simpa using hr.take (P.cellsOf t)⟩⟩;have aF:(us.take (P.cellsOf t)).length=P.cellsOf t:=by rw[List.length_take];omega
   have hld:=run_loadCells_list (P:=P) w a (us.take (P.cellsOf t)) (fun j v hv=>hc j v (by
    rw[List.getElem?_take]at hv;split at hv
    ·exact hv
    ·cases hv))
   rw[aF]at hld;simp[Instr.loadAt,Instr.sureAddr,loadVar,fP hb,du hi,hld]
  ·cases hx
 ·rename_i hb
  split at hx
  ·rename_i c r
   cases hx
   simp only[ak]at hr;obtain⟨v,iq,rfl,h1,h2⟩:=hr;refine⟨v,?_,h1⟩;have:=hc 0 v rfl;rw[CZ]at this;simp[Instr.loadAt,Instr.sureAddr,loadVar,fP hb,this]
  ·cases hx
 ·cases hx
theorem kt{t:TypeId}{i:TypeInfo}(hi:P.info? t=some i)(g off:Nat)(V:Value)(cur:Array Value)(ty:TypeId)(hg:w.heap[g]? = some (.cells cur ty (0,0)))(hs:V.cells.size=P.cellsOf t) (hl:off+V.cells.size≤cur.size) (h1:∀v∈V.cells.toList,v.oneCell'=true) :
  (Instr.storeAt t (.pointer (some ⟨g,off,none⟩)) V).run P w=.ok () (w.setRow g (cur.toList.take off++V.cells.toList++cur.toList.drop (off+V.cells.size)).toArray):=by
 have tY:=run_storeCells_at P g off ty V.cells.toList 0 cur w hg (by simpa using hl) h1;simp only[Nat.add_zero,Array.length_toList]at tY;simp[Instr.storeAt,Instr.sureAddr,storeVar,du hi,hs,tY]
def dA{α:Type}(f:Nat→α)(i:Nat)(v:α):Nat→α:=fun j=>if j=i then v else f j
theorem bg{α:Type}(f:Nat→α)(i:Nat)(v:α):dA f i v i=v:=by simp[dA]
theorem cX{α:Type}(f:Nat→α){i j:Nat}(v:α)(bq:j≠i):dA f i v j=f j:=by simp[dA,bq]
theorem cV.alloc(ψ:Nat→Value)(h:Hp)(w:World)(o:Obj):cV ψ h w (w.alloc o) :=⟨rfl,rfl,rfl,by rw[World.size_alloc];omega,fun b hb _=>heap_alloc_old w o hb⟩
theorem qi(g:Good Z ψ h w B0 O)(hB:B0≤w.heap.size)(id:Nat)(ty:TypeId){cs:List AV}{vs:Array Value}(hN:N id)(hr:ak Z ψ h w cs vs.toList)(h1:∀u∈vs.toList,u.oneCell'=true) (bf:∀i ty cs,h i=some (.box ty cs)→ax (fun i=>i≠id) cs) (hm:ax (fun i=>i≠id) cs) :
  Next Z ψ h w B0 O N Z (dA ψ id (.pointer (some ⟨w.heap.size,0,none⟩))) (dA h id (some (.box ty cs))) (w.alloc (.cells vs ty)):=by
 have n:Next Z ψ h w B0 O (·=id) Z (dA ψ id (.pointer (some ⟨w.heap.size,0,none⟩))) (dA h id (some (.box ty cs))) (w.alloc (.cells vs ty)):=by
  refine g.more (cV.alloc _ _ _ _) (fun b hb=>heap_alloc_old w _ (g.bM hb)) (fun i hi=>⟨cX _ _ hi,cX _ _ hi⟩) (fun i yf cs' hb=>?_) (fun i yf cs' hi hb=>?_) (fun i ok x hi hb=>?_) (fun i b hi bq hb=>?_) (fun i i' b hi sX _ _ _ _=>by subst hi;exact sX.symm) hB
  ·exact bf i yf cs' hb
  ·subst hi;rw[bg]at hb;cases hb;refine⟨w.heap.size,vs,bg _ _ _,heap_alloc_new _ _,?_,h1⟩;refine hr.move (fun _ h=>h) ((cV.alloc ψ h w _).same g) (fun j hj bq=>?_) hm;rw[cX _ _ hj]at bq;exact⟨bq,cX _ _ hj⟩
  ·subst hi;rw[bg]at hb;cases hb
  ·subst hi;rw[bg]at hb;simp only[ob,Option.some.injEq]at hb;omega
 exact⟨n.fC,n.dY,n.keep,fun i hi=>(n.ids i hi).imp (fun h=>h) (fun e=>by subst e;exact hN),n.dB⟩
theorem Oo{h:Hp}{id:Nat}{o:Ob}(bL:h id≠none):∀i,dA h id (some o) i≠none→h i≠none:=fun i hi=>by
 by_cases e:i=id
 ·subst e;exact bL
 ·rwa [cX _ _ e]at hi
theorem Good.write(g:Good Z ψ h w B0 O)(id:Nat)(bL:h id≠none)(k:cV ψ h w w')(Oq:∀b,ob (ψ id)≠some b→b<w.heap.size→w'.heap[b]? = w.heap[b]?)(o':Ob) (On:∀ty cs,o'=.box ty cs→∃gg vs,ψ id=.pointer (some ⟨gg,0,none⟩)∧w'.heap[gg]? = some (.cells vs ty (0,0))∧ak Z ψ h w' cs vs.toList∧∀u∈vs.toList,u.oneCell'=true) (nr:∀ok x,o'=.own ok x→jm Z w' ok (ψ id) x) :
  Next Z ψ h w B0 O N Z ψ (dA h id (some o')) w':=by
 have hs:=Oo (o:=o') bL;have sm:=k.same g;refine⟨fun _ h=>h,fun _ h=>.inl h,k,fun i hi=>.inl ⟨hs i hi,rfl⟩,⟨fun i ty cs hb=>?_,fun i ok x hb=>?_,fun i b h1 h2=>g.live i b (hs i h1) h2,fun i i' b h1 h2 h3 h4=>g.apart i i' b (hs i h1) (hs i' h2) h3 h4,fun b hb=>ady (g.ju b hb) k.size⟩⟩
 ·by_cases e:i=id
  ·subst e;rw[bg]at hb;cases hb;obtain⟨gg,vs,h1,h2,h3,h4⟩:=On _ _ rfl;exact⟨gg,vs,h1,h2,h3.less (fun _ h=>h) (cp.refl _ _) (fun j hj=>⟨hs j hj,rfl⟩),h4⟩
  ·rw[cX _ _ e]at hb;obtain⟨gg,vs,h1,h2,h3,h4⟩:=g.box i ty cs hb;refine⟨gg,vs,h1,?_,h3.less (fun _ h=>h) sm (fun j hj=>⟨hs j hj,rfl⟩),h4⟩;rw[Oq gg (fun hh=>e (g.apart i id gg (by rw[hb];simp) bL (by rw[h1];rfl) hh)) (Array.getElem?_eq_some_iff.1 h2).1];exact h2
 ·by_cases e:i=id
  ·subst e;rw[bg]at hb;cases hb;exact nr _ _ rfl
  ·rw[cX _ _ e]at hb;exact(g.row i ok x hb).kept (fun _ h=>h) sm (fun gg L8=>Oq gg (fun hh=>e (g.apart i id gg (by rw[hb];simp) bL L8 hh)) (g.bM ⟨i,by rw[hb];simp,L8⟩))
theorem cV.setRow{gg:Nat}(ho:Own ψ h gg)(arr:Array Value):cV ψ h w (w.setRow gg arr) :=⟨rfl,rfl,rfl,by simp[World.setRow],fun b _ hb=>by have:gg≠b:=fun e=>hb (e▸ho);simp[World.setRow,Array.getElem?_modify,this]⟩
theorem setRow_other{gg b:Nat}(arr:Array Value)(bq:gg≠b):(w.setRow gg arr).heap[b]? = w.heap[b]? := by simp[World.setRow,Array.getElem?_modify,bq]
theorem zK(g:Good Z ψ h w B0 O){id:Nat}{ty:TypeId}{cs vs:List AV}(hb:h id=some (.box ty cs)){t:TypeId}{i:TypeInfo}(hi:P.info? t=some i){off:Nat}{V:Value} (hv:ak Z ψ h w vs V.cells.toList) (h1:∀u∈V.cells.toList,u.oneCell'=true) (hs:V.cells.size=P.cellsOf t) (hl:off+vs.length≤cs.length) {a:Addr} (ha:a=⟨SV (ψ id),off,none⟩) :
  ∃w',(Instr.storeAt t (.pointer (some a)) V).run P w=.ok () w'∧Next Z ψ h w B0 O N Z ψ (dA h id (some (.box ty (dM cs off vs)))) w':=by
 obtain⟨gg,arr,e1,e2,e3,e4⟩:=g.box id ty cs hb;have hlen:=hv.length;have Ot:=e3.length;simp only[Array.length_toList]at hlen Ot;have bL:h id≠none:=by rw[hb];simp
 have ho:Own ψ h gg:=⟨id,bL,by rw[e1];rfl⟩;rw[e1]at ha;simp only[SV]at ha;subst ha;refine⟨_,kt hi gg off V arr ty e2 hs (by omega) h1,?_⟩;have kk:=cV.setRow (w:=w) ho ((arr.toList.take off++V.cells.toList++arr.toList.drop (off+V.cells.size)).toArray);refine g.write id bL kk (fun b hb _=>setRow_other _ (fun e=>hb (by rw[e1];simp[ob,e]))) _ (fun yf cs' he=>?_) (fun _ _ he=>by cases he)
 cases he
 refine⟨gg,_,e1,setRow_heap w gg arr _ ty _ e2,?_,?_⟩
 ·rw[q8 _ _ _ hl];have h5:ak Z ψ h w (cs.take off++vs++cs.drop (off+vs.length)) (arr.toList.take off++V.cells.toList++arr.toList.drop (off+V.cells.size)):=by rw[←hlen];exact((e3.take off).append hv).append (e3.drop (off+vs.length))
  exact h5.less (fun _ h=>h) (kk.same g) (fun j hj=>⟨hj,rfl⟩)
 ·intro u hu;rw[List.toList_toArray]at hu;rcases adb.1 hu with hu|hu
  ·rcases adb.1 hu with hu|hu
   ·exact e4 u (adZ hu)
   ·exact h1 u hu
  ·exact e4 u (adF hu)
theorem Wj{α:Type}(cur V:List α)(m off sz L:Nat)(h:off+V.length≤sz)(h1:m+sz≤L)(h2:L≤cur.length) :
  ((cur.take (m+off)++V++cur.drop (m+off+V.length)).take L |>.drop m |>.take sz)=((cur.drop m).take sz).take off++V++((cur.drop m).take sz).drop (off+V.length):=by
 apply adK;intro q;simp only[List.getElem?_take,List.getElem?_drop,List.getElem?_append,List.length_append,List.length_take,List.length_drop];rw[Nat.min_eq_left (show m+off≤cur.length by omega),Nat.min_eq_left (show off≤min sz (cur.length-m) by omega)]
 repeat' split
 all_goals first|rfl|(exfalso;omega)|(congr 1;omega)|(rw[List.getElem?_eq_none (by omega)])
theorem SW{α:Type}(cur V:List α)(m off sz L p:Nat)(h:off+V.length≤sz)(h1:m+sz≤L)(h2:L≤cur.length)(h3:p+sz≤L)(h4:p+sz≤m∨m+sz≤p) :
  ((cur.take (m+off)++V++cur.drop (m+off+V.length)).take L |>.drop p |>.take sz)=(cur.drop p).take sz:=by
 apply adK;intro q;simp only[List.getElem?_take,List.getElem?_drop,List.getElem?_append,List.length_append,List.length_take];rw[Nat.min_eq_left (show m+off≤cur.length by omega)]
 repeat' split
 all_goals first|rfl|(exfalso;omega)|(congr 1;omega)|(rw[List.getElem?_eq_none (by omega)])
theorem aD.zL{k:K}{x:k.T}{vs us:List Value}(e:vs=us)(hr:aD Z w k x vs):aD Z w k x us:=e▸hr
theorem zM(g:Good Z ψ h w B0 O){id:Nat}{ty:TypeId}{kk:K}{xs:List kk.T}(hb:h id=some (.own (.row ty kk) xs)){t:TypeId}{i:TypeInfo}(hi:P.info? t=some i){n off:Nat}{x y:kk.T}{V:Value} (hx:xs[n]? = some x) (hs:V.cells.size=P.cellsOf t) (hl:off+V.cells.size≤kk.sz) {a:Addr} (ha:a=⟨SV (ψ id),n*kk.sz+off,none⟩) (hy:∀us,aD Z w kk x us→aD Z w kk y (us.take off++V.cells.toList++us.drop (off+V.cells.size))) (h1:∀u∈V.cells.toList,u.oneCell'=true) :
  ∃w',(Instr.storeAt t (.pointer (some a)) V).run P w=.ok () w'∧Next Z ψ h w B0 O N Z ψ (dA h id (some (.own (.row ty kk) (xs.set n y)))) w':=by
 obtain⟨vs,ho,hv⟩:=g.row id (.row ty kk) xs hb;have bL:h id≠none:=by rw[hb];simp
 have hn:n<xs.length:=(ack.1 hx).1;have I7:=kk.hM;have hmul:n*kk.sz+kk.sz≤xs.length*kk.sz:=by rw[←Nat.succ_mul];exact adm _ hn
 obtain⟨hl1,e⟩:=ho;rcases e with⟨h0,_⟩|⟨gg,cap,cur,e1,e2,e3,e4,e5,e6,e7⟩
 ·omega
 have Wl:xs.length*kk.sz≤cap*kk.sz:=adm _ e4;have mb:ob (ψ id)=some gg:=by rw[e1];simp only[ob];rw[if_neg (by omega)]
 have ho:Own ψ h gg:=⟨id,bL,mb⟩;have FY:a=⟨gg,n*kk.sz+off,none⟩:=by rw[ha,e1];rfl
 subst FY;refine⟨_,kt hi gg (n*kk.sz+off) V cur ty e3 hs (by omega) h1,?_⟩;have hk:=cV.setRow (w:=w) ho ((cur.toList.take (n*kk.sz+off)++V.cells.toList++cur.toList.drop (n*kk.sz+off+V.cells.size)).toArray);have sm:=hk.same g;refine g.write id bL hk (fun b hb _=>setRow_other _ (fun e=>hb (by rw[mb,e]))) _ (fun _ _ he=>by cases he) (fun Yf x' he=>?_)
 cases he
 have rU:cur.toList.length=cap*kk.sz:=by rw[Array.length_toList];exact e6
 have hVl:V.cells.toList.length=V.cells.size:=Array.length_toList
 let iM:=cur.toList.take (n*kk.sz+off)++V.cells.toList++cur.toList.drop (n*kk.sz+off+V.cells.size)
 have Ja:iM.length=cap*kk.sz:=by simp only[iM,List.length_append,List.length_take,List.length_drop,rU,hVl];omega
 have SX:(xs.set n y).length=xs.length:=List.length_set;have ns:vs=cur.toList.take (xs.length*kk.sz):=e7.symm;refine⟨iM.take (xs.length*kk.sz),⟨by rw[List.length_take,Ja,SX];omega,.inr ⟨gg,cap,iM.toArray,by rw[SX];exact e1,e2,setRow_heap w gg cur _ ty _ e3,by rw[SX];exact e4,e5,by simpa using Ja,by rw[SX]⟩⟩,fun j z hz=>?_⟩;have hj:j<xs.length:=by have:=(ack.1 hz).1;rwa [SX]at this
 have hmj:j*kk.sz+kk.sz≤xs.length*kk.sz:=by rw[←Nat.succ_mul];exact adm _ hj
 have YL:∀p,p+kk.sz≤xs.length*kk.sz→(vs.drop p).take kk.sz=(cur.toList.drop p).take kk.sz:=fun p hp=>by rw[ns,List.drop_take,List.take_take,Nat.min_eq_left (by omega)]
 by_cases NZ:j=n
 ·subst NZ;rw[List.getElem?_set_self hn]at hz;cases hz;have hu:=hy _ (hv j x hx);rw[YL _ hmj,←hVl]at hu;refine aD.mono (fun _ h=>h) sm (aD.zL ?_ hu);have:=Wj cur.toList V.cells.toList (j*kk.sz) off kk.sz (xs.length*kk.sz) (by omega) hmj (by omega);rw[←this,hVl]
 ·rw[List.getElem?_set_ne (fun e=>NZ e.symm)]at hz;have hu:=hv j z hz;rw[YL _ hmj]at hu;refine aD.mono (fun _ h=>h) sm (aD.zL ?_ hu);have h4:j*kk.sz+kk.sz≤n*kk.sz∨n*kk.sz+kk.sz≤j*kk.sz:=by
   rcases adQ j n with h|h
   ·left;rw[←Nat.succ_mul];exact adm _ h
   ·right;rw[←Nat.succ_mul];exact adm _ (by omega)
  have:=SW cur.toList V.cells.toList (n*kk.sz) off kk.sz (xs.length*kk.sz) (j*kk.sz) (by omega) hmul (by omega) hmj h4;rw[←this,hVl]
theorem sY{k:K}{ys:List k.T}{u:Value}(hr:aD Z w (.sl k) ys [u]) :
  (u=.slice none 0 0∧ys=[])∨∃a c news,u=.slice (some a) ys.length c∧ys.length≤c∧news.length=ys.length*k.sz∧(∀(j:Nat) q,news[j]? = some q→w.cell? (a.add j)=some q)∧(∀q∈news,q.oneCell'=true)∧mK Z w k ys news:=by
 simp only[aD]at hr;obtain⟨v,hv,A,c,rfl,hl,hn,he⟩:=hr
 cases hv
 cases A with
 |none =>
  left
  cases ys with
  |nil=>exact⟨by rw[hn rfl];rfl,rfl⟩
  |cons y r=>obtain⟨a,us,h1,_⟩:=he 0 y rfl;cases h1
 |some a =>
  right;have Wm:∀i (hi:i<ys.length),∃us,aD Z w k ys[i] us∧∀(j:Nat) u,us[j]? = some u→w.cell? (a.add (i*k.sz+j))=some u:=fun i hi=>by
   obtain⟨a',us,h1,_,h3,h4⟩:=he i _ (aci hi)
   cases h1
   exact⟨us,h3,h4⟩
  have I7:=k.hM
  let news:=(List.range (ys.length*k.sz)).map fun j=>(w.cell? (a.add j)).getD default
  have C1:∀j,j<ys.length*k.sz→∃q,w.cell? (a.add j)=some q∧q.oneCell'=true:=fun j hj=>by
   have hi:j / k.sz<ys.length:=Nat.div_lt_of_lt_mul (by rw[Nat.mul_comm];exact hj);obtain⟨us,h3,h4⟩:=Wm (j / k.sz) hi;have hm:j%k.sz<us.length:=by rw[h3.len];exact adU _ I7
   refine⟨us[j%k.sz],?_,h3.one _ (adr hm)⟩;have:=h4 (j%k.sz) _ (aci hm)
   rwa [Nat.mul_comm,Nat.div_add_mod]at this
  have mM:∀j,j<ys.length*k.sz→∃q,news[j]? = some q∧w.cell? (a.add j)=some q:=fun j hj=>by obtain⟨q,hq,_⟩:=C1 j hj;exact⟨q,by simp[news,List.getElem?_map,List.getElem?_range hj,hq],hq⟩
  have hlen:news.length=ys.length*k.sz:=by simp[news]
  refine⟨a,c,news,rfl,hl,hlen,fun j q hq=>?_,fun q hq=>?_,fun i x hx=>?_⟩
  ·have hj:j<ys.length*k.sz:=by rw[←hlen];exact(ack.1 hq).1
   obtain⟨q',h1,h2⟩:=mM j hj;rw[h1]at hq;cases hq;exact h2
  ·obtain⟨j,hj,rfl⟩:=List.mem_iff_getElem.1 hq;obtain⟨q',h1,h2⟩:=mM j (by omega);obtain⟨q2,h3,h4⟩:=C1 j (by omega);rw[List.getElem?_eq_getElem hj]at h1;cases h1;rw[h2]at h3;cases h3;exact h4
  ·have hi:i<ys.length:=(ack.1 hx).1;obtain⟨us,h3,h4⟩:=Wm i hi;rw[List.getElem?_eq_getElem hi]at hx;cases hx;refine aD.zL ?_ h3;have hul:=h3.len;have hmul:i*k.sz+k.sz≤ys.length*k.sz:=by rw[←Nat.succ_mul];exact adm _ hi
   apply adK;intro q;rw[List.getElem?_take,List.getElem?_drop];by_cases hq:q<k.sz
   ·rw[if_pos hq];obtain⟨q',h5,h6⟩:=mM (i*k.sz+q) (by omega);rw[h5];have h7:=h4 q _ (aci (by omega));rw[List.getElem?_eq_getElem (by omega)];rw[h6]at h7;cases h7;rfl
   ·rw[if_neg hq,List.getElem?_eq_none (by omega)]
theorem L9{hh:Heap}(g:Good Z ψ hh.get w B0 O){x:AV}{u:Value}{k:K}{ys:List k.T}(hx:rowOf hh x k=some ys)(hr:av Z ψ hh.get w x u) :
  (u=.slice none 0 0∧ys=[])∨∃a c news,u=.slice (some a) ys.length c∧ys.length≤c∧news.length=ys.length*k.sz∧(∀(j:Nat) q,news[j]? = some q→w.cell? (a.add j)=some q)∧(∀q∈news,q.oneCell'=true)∧mK Z w k ys news:=by
 unfold rowOf at hx
 split at hx
 ·rename_i ex k' xs heq
  split at hx
  ·rename_i e;subst e
   cases hx
   cases x with
   |sl ex' k'' YM =>
    simp only[cE]at heq
    cases heq
    simp only[av]at hr;exact sY hr.1
   |bF id =>
    simp only[cE]at heq
    split at heq
    ·rename_i ty kk zs hg
     cases heq
     simp only[av]at hr;have hv:=hr.2 (by rw[hg];simp);subst hv;obtain⟨vs,ho,hv⟩:=g.row id (.row ty _) _ hg;have h1:=sY (tX (Z':=fun b=>Z b∨ob (ψ id)=some b) ho hv (fun b hb=>.inl hb) (fun b hb=>.inr hb));rcases h1 with h1|⟨a,c,news,h1,h2,h3,h4,h5,_⟩
     ·exact .inl h1
     ·right;refine⟨a,c,news,h1,h2,h3,h4,h5,?_⟩;have SY:news=vs:=by
       obtain⟨hl,e⟩:=ho;rcases e with⟨e,_⟩|⟨gg,cap,cur,e,_,e3,_,_,_,e7⟩
       ·rw[e,Nat.zero_mul]at h3 hl;rw[List.eq_nil_of_length_eq_zero h3,List.eq_nil_of_length_eq_zero hl]
       ·rw[e]at h1;cases h1;apply adK;intro j;by_cases hj:j<xs.length*k'.sz
        ·have hn:=h4 j _ (aci (by omega));rw[cG,Nat.zero_add]at hn;simp only[World.cell?,e3]at hn;have xg:vs[j]? = cur.toList[j]? := by rw[←e7,List.getElem?_take,if_pos hj]
         rw[xg,List.getElem?_eq_getElem (by omega)];simpa using hn.symm
        ·rw[List.getElem?_eq_none (by omega),List.getElem?_eq_none (by omega)]
      rw[SY];exact hv
    ·cases heq
    ·cases heq
   |_=>simp only[cE]at heq<;>cases heq
  ·cases hx
 ·rename_i heq
  cases hx
  cases x with
  |fK=>simp only[av]at hr;exact .inl ⟨hr,rfl⟩
  |bF id=>simp only[cE]at heq;split at heq<;>cases heq
  |_=>simp only[cE]at heq<;>cases heq
 ·cases hx
structure mN(P:Program)(e:TypeId)(k:K)(i:TypeInfo)(z:Value):Prop where
 info:P.info? e=some i
 zero:i.zero=some z
 size:i.size=k.sz
 xh:z.cells.size=k.sz
 bytes:i.bytes≤65536
theorem ct{e:TypeId}{k:K}(he:Eg P e k=true):∃i z,mN P e k i z:=by
 unfold Eg at he
 split at he
 ·rename_i i hi
  split at he
  ·rename_i z hz;simp only[Bool.and_eq_true,decide_eq_true_eq]at he;exact⟨i,z,hi,hz,he.1,he.2.1,he.2.2⟩
  ·cases he
 ·cases he
theorem mK.append{k:K}{xs ys:List k.T}{vs us:List Value}(h1:mK Z w k xs vs)(h2:mK Z w k ys us)(hl:vs.length=xs.length*k.sz):mK Z w k (xs++ys) (vs++us):=fun i x hx=>by
 by_cases hi:i<xs.length
 ·rw[List.getElem?_append_left hi]at hx;have hm:i*k.sz+k.sz≤xs.length*k.sz:=by rw[←Nat.succ_mul];exact adm _ hi
  have h3:=h1 i x hx;rw[List.drop_append_of_le_length (by omega),List.take_append_of_le_length (by rw[List.length_drop];omega)];exact h3
 ·rw[List.getElem?_append_right (by omega)]at hx;have h3:=h2 (i-xs.length) x hx;have e:i*k.sz=vs.length+(i-xs.length)*k.sz:=by rw[hl,←Nat.add_mul];congr 1;omega
  rw[e,List.drop_append,List.drop_eq_nil_of_le (by omega),List.nil_append,Nat.add_sub_cancel_left];exact h3
theorem mK.FZ{k:K}{xs:List k.T}{vs:List Value}(h:mK Z w k xs vs)(sm:cp Z w w'):mK Z w' k xs vs:=fun i x hx=>(h i x hx).mono (fun _ h=>h) sm
theorem F2(g:Good Z ψ h w B0 O)(hB:B0≤w.heap.size)(id:Nat)(hN:N id){ok:OK}{x:ok.T}{v:Value}(kk:cV ψ h w w')(r9:∀b,Own ψ h b→w'.heap[b]? = w.heap[b]?) (ho:jm Z w' ok v x) (hb:∀b,ob v=some b→w.heap.size≤b) (bf:∀i ty cs,h i=some (.box ty cs)→ax (fun i=>i≠id) cs) :
  Next Z ψ h w B0 O N Z (dA ψ id v) (dA h id (some (.own ok x))) w':=by
 have n:Next Z ψ h w B0 O (·=id) Z (dA ψ id v) (dA h id (some (.own ok x))) w':=by
  refine g.more kk r9 (fun i hi=>⟨cX _ _ hi,cX _ _ hi⟩) (fun i yf cs' hb=>bf i yf cs' hb) (fun i yf cs' hi hb=>?_) (fun i ok x hi hb=>?_) (fun i b hi bq Wi=>?_) (fun i i' b hi sX _ _ _ _=>by subst hi;exact sX.symm) hB
  ·subst hi;rw[bg]at hb;cases hb
  ·subst hi;rw[bg]at hb;cases hb;rw[bg];exact ho
  ·subst hi;rw[bg]at Wi;exact hb b Wi
 exact⟨n.fC,n.dY,n.keep,fun i hi=>(n.ids i hi).imp (fun h=>h) (fun e=>by subst e;exact hN),n.dB⟩
theorem qj(g:Good Z ψ h w B0 O)(hB:B0≤w.heap.size)(id:Nat)(ty:TypeId)(hN:N id){k:K}{xs:List k.T}{vs:List Value}{v:Value}(kk:cV ψ h w w')(r9:∀b,Own ψ h b→w'.heap[b]? = w.heap[b]?) (ho:dS w' ty k.sz v xs.length vs) (hv:mK Z w' k xs vs) (hb:∀b,ob v=some b→w.heap.size≤b) (bf:∀i ty cs,h i=some (.box ty cs)→ax (fun i=>i≠id) cs) :
  Next Z ψ h w B0 O N Z (dA ψ id v) (dA h id (some (.own (.row ty k) xs))) w':=F2 g hB id hN (ok:=.row ty k) kk r9 ⟨vs,ho,hv⟩ hb bf
theorem cV.grown{row:Option Nat}(hg:w.grownBy w' row)(hr:∀b,row=some b→Own ψ h b):cV ψ h w w' :=⟨hg.os,hg.tape,hg.output,hg.size,fun b hb hn=>hg.block b hb (fun e=>hn (hr b e.symm))⟩
theorem qk(g:Good Z ψ h w B0 O)(hB:B0≤w.heap.size)(id cK:Nat)(hN:N id){ok:OK}{x y:ok.T}(ho:h cK=some (.own ok x))(bq:cK≠id) (hg:w.grownBy w' (ob (ψ cK))) {v:Value} (hv:jm Z w' ok v y) (hb:ob v=ob (ψ cK)∨∀b,ob v=some b→w.heap.size≤b) (bf:∀i ty cs,h i=some (.box ty cs)→ax (fun i=>i≠id) cs) :
  Next Z ψ h w B0 O N Z (dA ψ id v) (dA (dA h cK none) id (some (.own ok y))) w':=by
 have hold:h cK≠none:=by rw[ho];simp
 have mb:∀b,ob (ψ cK)=some b→ob (ψ cK)=some b:=fun _ h=>h;have kk:cV ψ h w w':=cV.grown hg (fun b e=>⟨cK,hold,mb b e⟩);have sm:=kk.same g;have other:∀i b,h i≠none→i≠cK→ob (ψ i)=some b→w'.heap[b]? = w.heap[b]? := fun i b h1 h2 h3 =>hg.block b (g.bM ⟨i,h1,h3⟩) (fun e=>h2 (g.apart i cK b h1 hold h3 (mb b e.symm)));have at_:∀i,i≠id→dA (dA h cK none) id (some (.own ok y)) i≠none→h i≠none∧i≠cK:=fun i hi h1=>by
  rw[cX _ _ hi]at h1;by_cases e:i=cK
  ·subst e;rw[bg]at h1;exact absurd rfl h1
  ·rw[cX _ _ e]at h1;exact⟨h1,e⟩
 have ids:∀i,dA (dA h cK none) id (some (.own ok y)) i≠none→(h i≠none∧dA ψ id v i=ψ i)∨i=id:=fun i h1=>by
  by_cases e:i=id
  ·exact .inr e
  ·exact .inl ⟨(at_ i e h1).1,cX _ _ e⟩
 have vob:∀b,ob v=some b→ob (ψ cK)=some b∨w.heap.size≤b:=fun b Wi=>by
  rcases hb with hb|hb
  ·left;rw[←hb];exact Wi
  ·right;exact hb b Wi
 refine⟨fun _ h=>h,fun _ h=>.inl h,kk,fun i h1=>(ids i h1).imp (fun h=>h) (fun e=>by subst e;exact hN),⟨fun i yf cs pK=>?_,fun i Yf z pK=>?_,fun i b h1 h2=>?_,fun i i' b h1 h2 h3 h4=>?_,fun b hz=>ady (g.ju b hz) kk.size⟩⟩
 ·by_cases e:i=id
  ·subst e;rw[bg]at pK;cases pK
  ·have El:=at_ i e (by rw[pK];simp);rw[cX _ _ e,cX _ _ El.2]at pK;obtain⟨gg,us,h1,h2,h3,h4⟩:=g.box i yf cs pK;refine⟨gg,us,by rw[cX _ _ e];exact h1,(other i gg El.1 El.2 (by rw[h1];rfl)).trans h2,?_,h4⟩;exact h3.move (fun _ h=>h) sm (fun j hj hn=>(ids j hn).resolve_right hj) (bf i yf cs pK)
 ·by_cases e:i=id
  ·subst e;rw[bg]at pK;cases pK;rw[bg];exact hv
  ·have El:=at_ i e (by rw[pK];simp);rw[cX _ _ e,cX _ _ El.2]at pK;rw[cX _ _ e];exact(g.row i Yf z pK).kept (fun _ h=>h) sm (fun gg L8=>other i gg El.1 El.2 L8)
 ·by_cases e:i=id
  ·subst e;rw[bg]at h2;rcases vob b h2 with h3|h3
   ·exact g.live cK b hold h3
   ·exact⟨fun hz=>by have:=g.ju b hz;omega,.inl (by omega)⟩
  ·rw[cX _ _ e]at h2;exact g.live i b (at_ i e h1).1 h2
 ·have key:∀j,j≠id→dA (dA h cK none) id (some (.own ok y)) j≠none→ob (ψ j)=some b→ob v=some b→False:=fun j hj h5 h6 h7=>by
   obtain⟨h8,h9⟩:=at_ j hj h5;rcases vob b h7 with mL|mL
   ·exact h9 (g.apart j cK b h8 hold h6 mL)
   ·have:=g.bM ⟨j,h8,h6⟩;omega
  by_cases e:i=id<;>by_cases e':i'=id
  ·rw[e,e']
  ·subst e;rw[bg]at h3;rw[cX _ _ e']at h4;exact(key i' e' h2 h4 h3).elim
  ·subst e';rw[bg]at h4;rw[cX _ _ e]at h3;exact(key i e h1 h3 h4).elim
  ·rw[cX _ _ e]at h3;rw[cX _ _ e']at h4;exact g.apart i i' b (at_ i e h1).1 (at_ i' e' h2).1 h3 h4
def SZ(w:World)(sz:Nat)(u:Value)(m:Nat)(news:List Value):Prop :=news.length=m*sz∧(∀q∈news,q.oneCell'=true)∧((u=.slice none 0 0∧m=0)∨∃a c,u=.slice (some a) m c∧∀(j:Nat) q,news[j]? = some q→w.cell? (a.add j)=some q)
theorem Em{hh:Heap}(g:Good Z ψ hh.get w B0 O){x:AV}{u:Value}{k:K}{ys:List k.T}(hx:rowOf hh x k=some ys)(hr:av Z ψ hh.get w x u):∃news,SZ w k.sz u ys.length news∧mK Z w k ys news:=by
 rcases L9 g hx hr with⟨rfl,rfl⟩|⟨a,c,news,h1,_,h2,h3,h4,h5⟩
 ·exact⟨[],⟨by simp,by simp,.inl ⟨rfl,rfl⟩⟩,fun i x hx=>by simp at hx⟩
 ·exact⟨news,⟨h2,h4,.inr ⟨a,c,h1,h3⟩⟩,h5⟩
theorem eU{t ty e:TypeId}{i:TypeInfo}(ht:P.underlying t=some (.slice e))(hi:P.info? e=some i)(A:Option Addr)(n c:Nat)(hc:n≤c)(A':Option Addr)(c':Nat) :
  (Builtin.append_ #[t,t] ty #[.slice A n c,.slice A' 0 c']).run P w=.ok (.slice A n c) w:=by
 cases A<;>cases A'<;>simp[Builtin.append_,run_underlying ht,sizeOf,typeInfo,hi,Builtin.lenOf,Builtin.firstCells,hc,storeCells,loadCells,loadCellsFrom]
theorem dC{t ty e:TypeId}{k:K}{i:TypeInfo}{z:Value}(ht:P.underlying t=some (.slice e))(he:mN P e k i z){v:Value}{n:Nat}{xs:List Value}(ho:dS w e k.sz v n xs) {u:Value} {m:Nat} {news:List Value} (hu:SZ w k.sz u m news) (hm:n+m≤fz) :
  ∃v' w',(Builtin.append_ #[t,t] ty #[v,u]).run P w=.ok v' w'∧dS w' e k.sz v' (n+m) (xs++news)∧w.grownBy w' (ob v)∧(ob v'=ob v∨∀b,ob v'=some b→w.heap.size≤b):=by
 obtain⟨h1,h3,hu⟩:=hu;obtain⟨A0,c0,Wn⟩:=ho.slice;by_cases hm0:m=0
 ·subst hm0;have YN:news=[]:=adh (by rw[h1,Nat.zero_mul]);subst YN;have xi:n≤c0:=by
   rcases ho.2 with⟨h0,A,e⟩|⟨g,cap,cur,e,hc,h2,h3,_⟩
   ·omega
   ·rw[Wn]at e;cases e;exact h3
  refine⟨v,w,?_,by simpa using ho,World.grownBy.refl w _,.inl rfl⟩;subst Wn;rcases hu with⟨rfl,_⟩|⟨a,c,rfl,_⟩<;>exact eU ht he.info A0 n c0 xi _ _
 ·rcases hu with⟨_,h0⟩|⟨a,c,rfl,h2⟩
  ·exact absurd h0 hm0
  have hb:=he.bytes;unfold fz at hm;have ot:(n+m)*i.bytes≤140737488355328:=adk (Nat.mul_le_mul hm hb) (by decide);have new:∀v',w.heap.size≤w.heap.size→∀(w':World),w'.ownsRow w.heap.size e k.sz v' (n+m) (xs++news)→∀b,ob v'=some b→w.heap.size≤b:=fun v' _ w' mO b hb=>by
   rcases mO.2 with⟨rfl,_⟩|⟨g,cap,cur,rfl,h5,_⟩
   ·simp[ob]at hb
   ·simp only[ob]at hb
    split at hb
    ·cases hb
    ·cases hb;exact h5
  rcases ho.2 with⟨rfl,A,rfl⟩|⟨g,cap,cur,rfl,Wl,h4,h5,h6,h7,h8⟩
  ·have xj:xs=[]:=adh (by rw[ho.1,Nat.zero_mul]);subst xj;have mb:ob (.slice A 0 0)=none:=by cases A<;>simp[ob]
   cases A with
   |none =>obtain⟨v',w',hr,h4,h5,_,h6⟩:=run_append_own_at (P:=P) w w.heap.size t ty e i z k.sz i.bytes ht he.info he.zero he.size rfl he.xh k.hM (.slice none 0 0) 0 [] ⟨by simp,.inl ⟨rfl,rfl⟩⟩ a m c news h1 h2 h3 (by simp only[maxLen];omega) ot (adg _);exact⟨v',w',hr,dS.of h4,by rw[mb];exact h5,.inr (new v' (adg _) w' h4)⟩
   |some b0 =>obtain⟨v',w',hr,h4,h5⟩:=run_append_arg_grows (P:=P) w t ty e i z k.sz i.bytes ht he.info he.zero he.size rfl he.xh k.hM b0 0 0 [] (by simp) (by simp) a m c news h1 h2 (by omega) (by simp only[maxLen];omega) ot;exact⟨v',w',hr,dS.of h4,by rw[mb];exact h5,.inr (new v' (adg _) w' h4)⟩
  ·have sZ:w.ownsRow 0 e k.sz (.slice (some ⟨g,0,none⟩) n cap) n xs:=⟨ho.1,.inr ⟨g,cap,cur,rfl,adD _,h4,h5,h6,h7,h8⟩⟩;have mb:ob (.slice (some ⟨g,0,none⟩) n cap)=some g:=by simp only[ob];rw[if_neg (by omega)]
   obtain⟨v',w',hr,h4,h5,_,h6⟩:=run_append_own_at (P:=P) w 0 t ty e i z k.sz i.bytes ht he.info he.zero he.size rfl he.xh k.hM _ n xs sZ a m c news h1 h2 h3 (by simp only[maxLen];omega) ot (adD _);refine⟨v',w',hr,dS.of h4,by rw[mb];exact h5,?_⟩;rw[mb];rcases h4.2 with⟨rfl,h0⟩|⟨g',ad6,iM,rfl,_,_,h9,_⟩
   ·omega
   ·have S4:ob (.slice (some ⟨g',0,none⟩) (n+m) ad6)=some g':=by simp only[ob];rw[if_neg (by omega)]
    rw[S4];simp only[Value.ownBlock,Option.some.injEq]at h6;rcases h6 with h6|h6
    ·left;rw[h6]
    ·right;intro b hb;cases hb;omega
theorem av.pM{h h':Hp}(hs:∀id o,h' id=some o→h id=some o){a:AV}{v:Value}(hr:av Z ψ h w a v):av Z ψ h' w a v :=hr.less (fun _ h=>h) (cp.refl _ _) (fun id bL=>by obtain⟨o,ho⟩:=ade.1 bL;exact⟨by rw[hs id o ho];simp,rfl⟩)
theorem ak.pM{h h':Hp}(hs:∀id o,h' id=some o→h id=some o){a:List AV}{v:List Value}(hr:ak Z ψ h w a v):ak Z ψ h' w a v :=hr.less (fun _ h=>h) (cp.refl _ _) (fun id bL=>by obtain⟨o,ho⟩:=ade.1 bL;exact⟨by rw[hs id o ho];simp,rfl⟩)
theorem pj{hh:Heap}(g:Good Z ψ h w B0 O)(bu:∀id o,hh.get id=some o→h id=some o)(hB:B0≤w.heap.size){id:Nat}(hN:N id){t ty e:TypeId}{k:K}{i:TypeInfo}{z:Value}(ht:P.underlying t=some (.slice e))(he:mN P e k i z) {x:AV} {u:Value} {ys:List k.T} (hx:rowOf hh x k=some ys) (hr:av Z ψ h w x u) (hm:ys.length≤fz) (bf:∀i ty cs,h i=some (.box ty cs)→ax (fun i=>i≠id) cs) :
  ∃v' w',(Builtin.append_ #[t,t] ty #[.slice none 0 0,u]).run P w=.ok v' w'∧Next Z ψ h w B0 O N Z (dA ψ id v') (dA h id (some (.own (.row e k) ys))) w'∧v'.cells=#[v']∧v'.oneCell'=true:=by
 obtain⟨news,vP,hv⟩:=Em (g.sub bu) hx (hr.pM bu);have F3:dS w e k.sz (.slice none 0 0) 0 []:=⟨by simp,.inl ⟨rfl,none,rfl⟩⟩;obtain⟨v',w',dn,h4,h5,h6⟩:=dC (ty:=ty) ht he F3 vP (by omega);have hg:w.grownBy w' none:=h5;have kk:cV ψ h w w':=cV.grown hg (fun b e=>by cases e);have sm:=kk.same g;refine⟨v',w',dn,qj g hB id e hN (vs:=news) kk (fun b hb=>hg.block b (g.bM hb) (by simp)) (by simpa using h4) (fun i x hx=>(hv i x hx).mono (fun _ h=>h) sm) (fun b hb=>?_) bf,h4.one⟩;rcases h6 with h6|h6
 ·rw[h6]at hb;simp[ob]at hb
 ·exact h6 b hb
theorem yj{hh:Heap}(g:Good Z ψ h w B0 O)(bu:∀id o,hh.get id=some o→h id=some o)(hB:B0≤w.heap.size){id cK:Nat}(hN:N id)(bq:cK≠id){t ty e:TypeId}{k:K}{i:TypeInfo}{z:Value}(ht:P.underlying t=some (.slice e))(he:mN P e k i z) {xs:List k.T} (ho:h cK=some (.own (.row e k) xs)) {x:AV} {u:Value} {ys:List k.T} (hx:rowOf hh x k=some ys) (hr:av Z ψ h w x u) (hm:xs.length+ys.length≤fz) (bf:∀i ty cs,h i=some (.box ty cs)→ax (fun i=>i≠id) cs) :
  ∃v' w',(Builtin.append_ #[t,t] ty #[ψ cK,u]).run P w=.ok v' w'∧Next Z ψ h w B0 O N Z (dA ψ id v') (dA (dA h cK none) id (some (.own (.row e k) (xs++ys)))) w'∧v'.cells=#[v']∧v'.oneCell'=true:=by
 obtain⟨news,vP,hv⟩:=Em (g.sub bu) hx (hr.pM bu);obtain⟨vs,ho0,Wn⟩:=g.row cK (.row e k) xs ho;obtain⟨v',w',dn,h4,h5,h6⟩:=dC (ty:=ty) ht he ho0 vP hm;have hold:h cK≠none:=by rw[ho];simp
 have kk:cV ψ h w w':=cV.grown h5 (fun b e=>⟨cK,hold,e⟩);have sm:=kk.same g;refine⟨v',w',dn,qk g hB id cK hN ho bq h5 (ok:=.row e k) (y:=xs++ys) ⟨_,by rw[List.length_append];exact h4,(Wn.append hv ho0.1).FZ sm⟩ h6 bf,h4.one⟩
theorem zN{hh:Heap}(g:Good Z ψ h w B0 O)(bu:∀id o,hh.get id=some o→h id=some o)(hB:B0≤w.heap.size){id:Nat}(hN:N id){t ty e:TypeId}{k:K}{i:TypeInfo}{z:Value}(ht:P.underlying t=some (.slice e))(he:mN P e k i z) {xs:List k.T} {v:Value} (hd:av Z ψ h w (.sl true k xs) v) {x:AV} {u:Value} {ys:List k.T} (hx:rowOf hh x k=some ys) (hr:av Z ψ h w x u) (I7:0<ys.length∨xs=[]) (hm:xs.length+ys.length≤fz) (bf:∀i ty cs,h i=some (.box ty cs)→ax (fun i=>i≠id) cs) :
  ∃v' w',(Builtin.append_ #[t,t] ty #[v,u]).run P w=.ok v' w'∧Next Z ψ h w B0 O N Z (dA ψ id v') (dA h id (some (.own (.row e k) (xs++ys)))) w'∧v'.cells=#[v']∧v'.oneCell'=true:=by
 simp only[av]at hd;obtain⟨hd,hex⟩:=hd;obtain⟨A,c,N0⟩:=hex trivial;rcases sY hd with⟨rfl,rfl⟩|⟨a,c',YO,h1,_,h2,h3,h4,h5⟩
 ·have:=pj (ty:=ty) (N:=N) g bu hB hN ht he hx hr (by omega) bf;simpa using this
 ·rw[h1]at N0;cases N0;obtain⟨news,⟨h6,h7,hu⟩,hv⟩:=Em (g.sub bu) hx (hr.pM bu);by_cases hy0:ys.length=0
  ·have hy:ys=[]:=adh hy0;have xj:xs=[]:=I7.resolve_left (by omega);subst xj;have F3:dS w e k.sz (.slice (some a) 0 0) 0 []:=⟨by simp,.inl ⟨rfl,_,rfl⟩⟩;refine⟨v,w,?_,qj g hB id e hN (vs:=[]) (cV.refl _ _ _) (fun _ _=>rfl) (by rw[hy,h1];exact F3) (fun i x hx=>by rw[hy]at hx;simp at hx) (fun b hb=>by rw[h1]at hb;simp[ob]at hb) bf,by rw[h1];exact F3.one⟩;rw[h1];rw[hy0]at hu;rcases hu with⟨rfl,_⟩|⟨b,cu,rfl,_⟩<;>exact eU ht he.info _ _ _ (adg _) _ _
  rcases hu with⟨_,h0⟩|⟨b,cu,rfl,h8⟩
  ·omega
  ·have hb:=he.bytes;unfold fz at hm;have ot:(xs.length+ys.length)*i.bytes≤140737488355328:=adk (Nat.mul_le_mul hm hb) (by decide);obtain⟨v',w',dn,h9,mL⟩:=run_append_arg_grows (P:=P) w t ty e i z k.sz i.bytes ht he.info he.zero he.size rfl he.xh k.hM a xs.length xs.length YO h2 h3 b ys.length cu news h6 h8 (by omega) (by simp only[maxLen];omega) ot;have kk:cV ψ h w w':=cV.grown mL (fun b e=>by cases e);have sm:=kk.same g;have h9':dS w' e k.sz v' (xs++ys).length (YO++news):=by rw[List.length_append];exact dS.of h9
   subst h1;refine⟨v',w',dn,qj g hB id e hN kk (fun b hb=>mL.block b (g.bM hb) (by simp)) h9' ((h5.append hv h2).FZ sm) (fun b hb=>?_) bf,h9'.one⟩;rcases h9.2 with⟨e1,_⟩|⟨gg,cap,cur,e1,e2,_⟩
   ·rw[e1]at hb;simp[ob]at hb
   ·rw[e1]at hb;simp only[ob]at hb
    split at hb
    ·cases hb
    ·cases hb;omega
theorem tZ:∀(vs:List Value) (k off:Nat) (cells:Array Value),(vs.zipIdx k).foldl (fun cs (p:Value×Nat)=>cs.setIfInBounds (off+p.2) p.1) cells=(dM cells.toList (off+k) vs).toArray
 |[],k,off,cells=>by simp[dM]
 |v::r,k,off,cells=>by simp only[List.zipIdx_cons,List.foldl_cons,dM];rw[tZ r (k+1) off];simp[Nat.add_assoc]
theorem xk(V:Array Value)(off:Nat)(cells:Array Value) :
  V.zipIdx.foldl (fun cs (p:Value×Nat)=>cs.setIfInBounds (off+p.2) p.1) cells=(dM cells.toList off V.toList).toArray:=by
 rw[←Array.foldl_toList,Array.toList_zipIdx];exact tZ V.toList 0 off cells
theorem sf{α:Type}:∀(vs cs:List α) (off:Nat),(dM cs off vs).length=cs.length
 |[],_,_=>rfl
 |v::r,cs,off=>by simp only[dM];rw[sf r];simp
theorem ak.dM:∀{vs cs:List AV} {us ds:List Value} (off:Nat),ak Z ψ h w vs us→ak Z ψ h w cs ds→ak Z ψ h w (dM cs off vs) (dM ds off us)
 |[],cs,us,ds,off,h1,h2=>by simp only[ak]at h1;subst h1;exact h2
 |v::r,cs,us,ds,off,h1,h2=>by simp only[ak]at h1;obtain⟨u,iq,rfl,h3,h4⟩:=h1;simp only[Vs.dM];exact ak.dM (off+1) h4 (h2.set off h3)
theorem av.cells{a:AV}{v:Value}(hk:a≠.no)(hr:av Z ψ h w a v):ak Z ψ h w a.cells v.cells.toList:=by
 cases a with
 |no=>exact absurd rfl hk
 |agg cs=>simp only[av]at hr;obtain⟨vs,rfl,hr⟩:=hr;simpa[AV.cells,Value.cells] using hr
 |bool b=>simp only[av]at hr;subst hr;simp[AV.cells,Value.cells,ak,av]
 |int k n=>simp only[av]at hr;subst hr;simp[AV.cells,Value.cells,ak,av]
 |str s=>simp only[av]at hr;subst hr;simp[AV.cells,Value.cells,ak,av]
 |kI=>simp only[av]at hr;subst hr;simp[AV.cells,Value.cells,ak,av]
 |fK=>simp only[av]at hr;subst hr;simp[AV.cells,Value.cells,ak,av]
 |ref id s i off=>obtain⟨a,rfl,h2⟩:=(by simpa only[av] using hr:∃a,v=.pointer (some a)∧_);simp only[AV.cells,Value.cells,ak];exact⟨_,[],by simp,hr,rfl⟩
 |fp k x off=>obtain⟨a,us,rfl,h2⟩:=(by simpa only[av] using hr:∃a us,v=.pointer (some a)∧_);simp only[AV.cells,Value.cells,ak];exact⟨_,[],by simp,hr,rfl⟩
 |sl ex k xs =>
  have q7:=hr;simp only[av,aD]at q7;obtain⟨⟨v',hv,A,c,rfl,_⟩,_⟩:=q7
  cases hv
  simp only[AV.cells,Value.cells,ak];exact⟨_,[],by simp,hr,rfl⟩
 |bF id =>have q7:=hr;simp only[av]at q7;obtain⟨⟨hc,_⟩,_⟩:=q7;simp only[AV.cells,ak,hc];exact⟨_,[],by simp,hr,rfl⟩
 |mp kk vk es =>
  have q7:=hr;simp only[av,aD]at q7;obtain⟨A,hv,_⟩:=q7
  cases hv
  simp only[AV.cells,Value.cells,ak];exact⟨_,[],by simp,hr,rfl⟩
 |fn f cap =>have q7:=hr;simp only[av]at q7;obtain⟨vs,rfl,_⟩:=q7;simp only[AV.cells,Value.cells,ak];exact⟨_,[],by simp,hr,rfl⟩
 |mG vs =>have q7:=hr;simp only[av]at q7;obtain⟨us,rfl,_⟩:=q7;simp only[AV.cells,Value.cells,ak];exact⟨_,[],by simp,hr,rfl⟩
def si(Z:Nat→Prop)(ψ:Nat→Value)(h:Hp)(w:World):List (Nat×AV)→List (Nat×Value)→Prop
 |[],[]=>True
 |p::r,q::s=>p.1=q.1∧p.2≠.no∧av Z ψ h w p.2 q.2∧si Z ψ h w r s
 |_,_=>False
theorem F4{place:Nat→Option (Nat×Nat)}:∀{ps:List (Nat×AV)} {qs:List (Nat×Value)} {cs cs':List AV} {cells:Array Value},si Z ψ h w ps qs→ak Z ψ h w cs cells.toList→CW place cs ps=some cs' → ∃fD,Instr.fill place cells qs=some fD∧ak Z ψ h w cs' fD.toList
 |[],[],cs,cs',cells,_,hr,hf=>by simp only[CW]at hf;cases hf;exact⟨cells,rfl,hr⟩
 |[],_::_,_,_,_,hp,_,_=>hp.elim
 |_::_,[],_,_,_,hp,_,_=>hp.elim
 |(i,a)::ps,(j,v)::qs,cs,cs',cells,hp,hr,hf=>by
  obtain⟨rfl,ql,hv,hp⟩:=hp;simp only[CW]at hf;simp only at ql hv;have N0:=hv.cells ql;have hl:=N0.length;have vQ:=hr.length;simp only[Array.length_toList]at hl vQ;simp only[Instr.fill]
  split at hf
  ·cases hf
  ·rename_i off size hpl;simp only[hpl]
   split at hf
   ·cases hf
   ·rename_i hc;have Wo:a.cells.length=size:=Decidable.not_not.1 (fun e=>hc (.inl e));have oa:¬off+a.cells.length>cs.length:=fun e=>hc (.inr e);rw[if_neg (by simp only[Bool.or_eq_true,decide_eq_true_eq];omega)];refine F4 hp ?_ hf;rw[xk,List.toList_toArray];exact N0.dM off hr
theorem Ou(fs:Array Field)(hi:∀f∈fs.toList,∃i,P.info? f.type=some i):(fs.mapM fun f=>do pure (f.offset,←sizeOf f.type):Sem (Array (Nat×Nat))).run P w=.ok (fs.map fun f=>(f.offset,P.cellsOf f.type)) w:=by
 rw[←Array.toArray_toList (xs:=fs)];generalize fs.toList=l at hi;have key:∀(l:List Field) (acc:Array (Nat×Nat)),(∀f∈l,∃i,P.info? f.type=some i) →(l.foldlM (fun(bs:Array (Nat×Nat)) f=>do let y ←(do pure (f.offset,←sizeOf f.type):Sem (Nat×Nat));pure (bs.push y)) acc:Sem (Array (Nat×Nat))).run P w=.ok (acc++(l.map fun f=>(f.offset,P.cellsOf f.type)).toArray) w:=by
  intro l
  induction l with
  |nil=>intro acc _;simp
  |cons f r ih =>intro acc hl;obtain⟨i,hi⟩:=hl f (by simp);simp only[List.foldlM_cons,Sem.run_bind,du hi,Result.andThen_ok,Sem.run_pure];rw[ih _ (fun f hf=>hl f (List.mem_cons_of_mem _ hf))];simp
 have:=key l #[] hi;simp only[Array.mapM_eq_foldlM,List.size_toArray,List.foldlM_toArray'];simpa using this
theorem En(v:Value):av Z ψ h w (vG v) v:=by
 cases v with
 |bool b=>simp only[vG,av]
 |int k n=>simp only[vG,av]
 |string s=>simp only[vG,av]
 |pointer a =>
  simp only[vG];split
  ·rename_i e;subst e;simp only[av]
  ·simp only[av]
 |slice a n c =>
  simp only[vG];split
  ·rename_i e;obtain⟨rfl,rfl,rfl⟩:=e;simp only[av]
  ·simp only[av]
 |func fn first cap =>
  cases fn with
  |func f =>
   simp only[vG];split
   ·rename_i e;have h1:first=#[]:=adH e.1
    have h2:cap=#[]:=adH e.2;subst h1;subst h2;simp only[av];exact⟨#[],rfl,by simp[ak]⟩
   ·simp only[av]
  |_=>simp only[vG,av]
 |_=>simp only[vG,av]
theorem zO:∀vs:List Value,ak Z ψ h w (vs.map vG) vs
 |[]=>by simp[ak]
 |v::r=>by simp only[List.map_cons,ak];exact⟨v,r,rfl,En v,zO r⟩
theorem F5(v:Value):av Z ψ h w (sQ v) v:=by
 cases v with
 |agg cs=>simp only[sQ,av];exact⟨cs,rfl,zO _⟩
 |_=>simp only[sQ];exact En _
theorem C2(v:Value):(vG v).cells=[vG v]:=by
 cases v with
 |pointer a=>simp only[vG];split<;>rfl
 |slice a n c=>simp only[vG];split<;>rfl
 |func fn first cap =>
  cases fn with
  |func f=>simp only[vG];split<;>rfl
  |_=>rfl
 |_=>rfl
theorem zP(v:Value):ak Z ψ h w (sQ v).cells v.cells.toList:=by
 cases v with
 |agg cs=>simp only[sQ,AV.cells,Value.cells];exact zO _
 |_ =>simp only[sQ];rw[C2];simp only[ak];exact⟨_,[],rfl,En _,rfl⟩
theorem ou{t:TypeId}{zs:List AV}(hz:zr P t=some zs):∃i z,P.info? t=some i∧i.zero=some z∧zs=(sQ z).cells∧∀u∈z.cells.toList,u.oneCell'=true:=by
 unfold zr at hz;obtain⟨i,hi,xl⟩:=adp.1 hz;obtain⟨z,Cm,IK⟩:=adp.1 xl
 split at IK
 ·rename_i fe
  cases IK
  exact⟨i,z,hi,Cm,rfl,fun u hu=>ado.1 fe u hu⟩
 ·cases IK
theorem uc{t:TypeId}{i:TypeInfo}{z:Value}(hi:P.info? t=some i)(hz:i.zero=some z):(zeroValue t).run P w=.ok z w:=by simp[zeroValue,typeInfo,hi,hz]
theorem Ma{t:TypeId}{fs:Array Field}{zs cs:List AV}{ps:List (Nat×AV)}{qs:Array (Nat×Value)}(hz:zr P t=some zs)(ht:P.underlying t=some (.struct fs))(fe:fs.toList.all (fun f=>(P.info? f.type).isSome)=true) (hp:si Z ψ h w ps qs.toList) (hf:CW (fun i=>(fs[i]?).map fun f=>(f.offset,P.cellsOf f.type)) zs ps=some cs) :
  ∃V,(Instr.build t qs).run P w=.ok V w∧av Z ψ h w (.agg cs) V:=by
 obtain⟨i,z,hi,YP,rfl,_⟩:=ou hz;obtain⟨fD,h1,h2⟩:=F4 hp (zP z) hf;have hpl:=Ou (P:=P) (w:=w) fs (fun f hf=>adi.1 (ado.1 fe f hf));refine⟨.agg fD,?_,by simp only[av];exact⟨_,rfl,h2⟩⟩;have Su:Instr.fill (fun x=>(fs.map fun f=>(f.offset,P.cellsOf f.type))[x]?) z.cells qs.toList=some fD:=by rw[←h1];congr 1;funext x;simp
 simp only[Instr.build,Sem.run_bind,uc hi YP,run_underlying ht,Result.andThen_ok,hpl,Su];rfl
theorem Jb:∀(k:K) (cs:List AV) (x:k.T) (r:List AV),dec k cs=some (x,r)→cs.head?≠some .no
 |.int ik,cs,x,r,h,hc=>by
  cases cs with
  |nil=>simp at hc
  |cons a s=>simp at hc;subst hc;simp[dec,Ee]at h
 |.bool,cs,x,r,h,hc=>by
  cases cs with
  |nil=>simp at hc
  |cons a s=>simp at hc;subst hc;simp[dec,yy]at h
 |.str,cs,x,r,h,hc=>by
  cases cs with
  |nil=>simp at hc
  |cons a s=>simp at hc;subst hc;simp[dec,Ef]at h
 |.sl k,cs,x,r,h,hc=>by
  cases cs with
  |nil=>simp at hc
  |cons a s=>simp at hc;subst hc;simp[dec,KI]at h
 |.pair a b,cs,x,r,h,hc=>by
  simp only[dec]at h
  split at h
  ·rename_i x1 r1 h1;exact Jb a cs x1 r1 h1 hc
  ·cases h
 |.one k,cs,x,r,h,hc=>by simp only[dec]at h;exact Jb k cs x r h hc
 |.mp kk vk,cs,x,r,h,hc=>by
  cases cs with
  |nil=>simp at hc
  |cons a s=>simp at hc;subst hc;simp[dec,KJ]at h
theorem C3{k:K}{hh:Heap}{a:AV}{x:k.T}(h:c8 k (a.cells.map (cE hh))=some x):a≠.no:=by
 rintro rfl;unfold c8 at h
 split at h
 ·rename_i x' h1;exact Jb k _ _ _ h1 (by simp[AV.cells,cE])
 ·cases h
theorem F6{k:K}{hh:Heap}(g:Good Z ψ hh.get w B0 O)(hz:∀b,Z b→Z' b):∀{ps:List (Nat×AV)} {qs:List (Nat×Value)} {xs:List k.T} {i:Nat} {cells:Array Value},(∀p∈ps,∀id b,AV.bF id∈p.2.cells→hh.get id≠none→ob (ψ id)=some b→Z' b)→si Z ψ hh.get w ps qs→p7 k hh i ps=some xs→(i+ps.length)*k.sz≤cells.size → ∃fD flat,Instr.fill (fun i=>some (i*k.sz,k.sz)) cells qs=some fD∧fD.toList=cells.toList.take (i*k.sz)++flat++cells.toList.drop ((i+ps.length)*k.sz)∧flat.length=ps.length*k.sz∧mK Z' w k xs flat∧(∀q∈flat,q.oneCell'=true)∧xs.length=ps.length
 |[],[],xs,i,cells,_,_,hl,_=>by simp only[p7]at hl;cases hl;exact⟨cells,[],rfl,by simp,by simp,fun i x hx=>by simp at hx,by simp,rfl⟩
 |[],_::_,_,_,_,_,hp,_,_=>hp.elim
 |_::_,[],_,_,_,_,hp,_,_=>hp.elim
 |(j,a)::ps,(j',v)::qs,xs,i,cells,hb,hp,hl,hs=>by
  obtain⟨hjj,ql,hv,hp⟩:=hp;simp only at hjj ql hv;subst hjj;simp only[p7]at hl
  split at hl
  ·rename_i e;subst e
   split at hl
   ·rename_i y ys h1 h2
    cases hl
    simp only[List.length_cons]at hs;have N0:=hv.cells ql;have hvw:=nq g hz (hb (j,a) (by simp)) N0;have hk:=c9 h1 hvw;have Ov:=hk.len;rw[Array.length_toList]at Ov;have iF:j*k.sz+k.sz≤cells.size:=by have:(j+1)*k.sz≤(j+(ps.length+1))*k.sz:=adm _ (by omega);rw[Nat.succ_mul]at this;omega
    simp only[Instr.fill];rw[if_neg (by simp only[Bool.or_eq_true,decide_eq_true_eq];omega),xk];obtain⟨fD,flat,h3,h4,h5,h6,h7,h8⟩:=F6 g hz (ps:=ps) (qs:=qs) (xs:=ys) (i:=j+1) (cells:=(dM cells.toList (j*k.sz) v.cells.toList).toArray) (fun p hp=>hb p (acm _ hp)) hp h2 (by rw[List.size_toArray,sf];have e9:cells.toList.length=cells.size:=Array.length_toList;rw[e9,show j+1+ps.length=j+(ps.length+1) by omega];exact hs);refine⟨fD,v.cells.toList++flat,h3,?_,?_,?_,?_,by simp[h8]⟩
    ·rw[h4,List.toList_toArray,q8 _ _ _ (by rw[Array.length_toList,Array.length_toList];omega)];have e1:(j+1)*k.sz=j*k.sz+k.sz:=ad4 _ _;have e2:(j+1+ps.length)*k.sz=(j+(ps.length+1))*k.sz:=by congr 1;omega
     rw[List.length_cons,e1,e2];have l1:(cells.toList.take (j*k.sz)++v.cells.toList).length=j*k.sz+k.sz:=by rw[List.length_append,List.length_take,Array.length_toList,Array.length_toList];omega
     rw[←l1,List.take_left];have l2:(j+(ps.length+1))*k.sz=(cells.toList.take (j*k.sz)++v.cells.toList).length+(ps.length*k.sz):=by rw[l1,Nat.add_mul,Nat.add_mul];omega
     have hd:(cells.toList.take (j*k.sz)++v.cells.toList++cells.toList.drop (j*k.sz+v.cells.toList.length)).drop ((j+(ps.length+1))*k.sz)=cells.toList.drop ((j+(ps.length+1))*k.sz):=by rw[l2,List.drop_append,List.drop_eq_nil_of_le (by omega),List.nil_append,Nat.add_sub_cancel_left,List.drop_drop];congr 1;rw[l1,Array.length_toList];omega
     rw[hd];simp[List.append_assoc]
    ·rw[List.length_append,h5,Array.length_toList,Ov,List.length_cons,Nat.succ_mul];omega
    ·intro n x hx
     cases n with
     |zero =>
      simp only[List.getElem?_cons_zero,Option.some.injEq]at hx;subst hx;have Wp:v.cells.toList.length=k.sz:=by rw[Array.length_toList];exact Ov
      rw[Nat.zero_mul,List.drop_zero,←Wp,List.take_left];exact hk
     |succ n =>
      have:=h6 n x (by simpa using hx);have Wp:v.cells.toList.length=k.sz:=by rw[Array.length_toList];exact Ov
      have e:(n+1)*k.sz=v.cells.toList.length+n*k.sz:=by rw[Wp,Nat.succ_mul];omega
      rw[e,List.drop_append,List.drop_eq_nil_of_le (by omega),List.nil_append,Nat.add_sub_cancel_left];exact this
    ·intro q hq;rcases adb.1 hq with hq|hq
     ·exact hk.one q hq
     ·exact h7 q hq
   ·cases hl
  ·cases hl
theorem Next.drop{Z1:Nat→Prop}{h1:Hp}(n:Next Z1 ψ h1 w B0 O N Z' ψ' h' w')(hz:∀b,Z b→Z1 b)(xl:∀b,Z1 b→Z b∨Own ψ h b)(bu:∀id o,h1 id=some o→h id=some o):Next Z ψ h w B0 O N Z' ψ' h' w':=by
 have hn:∀id,h1 id≠none→h id≠none:=fun id hn=>by obtain⟨o,ho⟩:=ade.1 hn;rw[bu id o ho];simp
 have ho:∀b,Own ψ h1 b→Own ψ h b:=fun b ⟨id,h2,h3⟩=>⟨id,hn id h2,h3⟩;refine⟨fun b hb=>n.fC b (hz b hb),fun b hb=>?_,⟨n.keep.os,n.keep.tape,n.keep.output,n.keep.size,fun b hb ql=>n.keep.block b hb (fun h=>ql (ho b h))⟩,fun id bL=>(n.ids id bL).imp (fun⟨h2,h3⟩=>⟨hn id h2,h3⟩) (fun h=>h),n.dB⟩;rcases n.dY b hb with h2|h2|h2
 ·exact(xl b h2).imp (fun h=>h) (fun h=>.inl h)
 ·exact .inr (.inl (ho b h2))
 ·exact .inr (.inr h2)
theorem si.pM{h h':Hp}(hs:∀id o,h' id=some o→h id=some o):∀{ps:List (Nat×AV)} {qs:List (Nat×Value)},si Z ψ h w ps qs→si Z ψ h' w ps qs:=by
 intro ps
 induction ps with
 |nil=>intro qs hp;cases qs with
  |nil=>trivial
  |cons q r=>exact hp.elim
 |cons p r ih=>intro qs hp;cases qs with
  |nil=>exact hp.elim
  |cons q s=>exact⟨hp.1,hp.2.1,hp.2.2.1.pM hs,ih hp.2.2.2⟩
theorem F7{hh:Heap}{Z1:Nat→Prop}(g:Good Z1 ψ h w B0 O)(g0:Good Z ψ hh.get w B0 O)(hz:∀b,Z b→Z1 b)(hB:B0≤w.heap.size){id:Nat}(hN:N id){t e:TypeId}{k:K}{i:TypeInfo}{z:Value}(ht:P.underlying t=some (.slice e))(he:mN P e k i z) {ps:List (Nat×AV)} {qs:Array (Nat×Value)} {xs:List k.T} (N1:∀p∈ps,∀id b,AV.bF id∈p.2.cells→hh.get id≠none→ob (ψ id)=some b→Z1 b) (hp:si Z ψ hh.get w ps qs.toList) (hl:p7 k hh 0 ps=some xs) (hn:ps.length*k.sz≤1048576) (bf:∀i ty cs,h i=some (.box ty cs)→ax (fun i=>i≠id) cs) :
  ∃v' w',(Instr.buildSlice t ps.length qs).run P w=.ok v' w'∧Next Z1 ψ h w B0 O N Z1 (dA ψ id v') (dA h id (some (.own (.row e k) xs))) w'∧(v'.cells=#[v']∧v'.oneCell'=true)∧(∀b,Own ψ h b→w'.heap[b]? = w.heap[b]?)∧(∀b,ob v'=some b→w.heap.size≤b)∧∃A c,v'=.slice A c c:=by
 let F8:Array Value:=(Array.range (ps.length*k.sz)).map (z.cells[· % z.cells.size]!)
 have yF:F8.size=ps.length*k.sz:=by simp[F8]
 obtain⟨fD,flat,h1,h2,h3,h4,h5,h6⟩:=F6 (Z':=Z1) g0 hz (ps:=ps) (qs:=qs.toList) (xs:=xs) (i:=0) (cells:=F8) N1 hp hl (by rw[Nat.zero_add,yF];exact adg _);have UW:fD.toList=flat:=by rw[h2,Nat.zero_mul,List.take_zero,List.nil_append,Nat.zero_add,List.drop_eq_nil_of_le (by rw[Array.length_toList,yF];exact Nat.le_refl _),List.append_nil]
 have Mb:fD.size=ps.length*k.sz:=by rw[←Array.length_toList,UW];exact h3
 have I7:=k.hM;have hlen:ps.length≤1048576:=adk (Nat.le_mul_of_pos_right _ I7) hn;have sZ:(w.alloc (.cells fD e)).ownsRow 0 e k.sz (.slice (some ⟨w.heap.size,0,none⟩) ps.length ps.length) xs.length flat:=by have:=World.ownsRow_lit (base:=0) (e:=e) (size:=k.sz) w fD ps.length (adD _) (by simp only[maxLen];omega) Mb;rw[h6,←UW];exact this
 refine⟨.slice (some ⟨w.heap.size,0,none⟩) ps.length ps.length,w.alloc (.cells fD e),?_,qj g hB id e hN (vs:=flat) (cV.alloc _ _ _ _) (fun b hb=>heap_alloc_old w _ (g.bM hb)) (dS.of sZ) (h4.FZ ((cV.alloc ψ h w _).same g)) (fun b hb=>by simp only[ob]at hb;split at hb<;>cases hb;exact adg _) bf,(dS.of sZ).one,fun b hb=>heap_alloc_old w _ (g.bM hb),fun b hb=>by simp only[ob]at hb;split at hb<;>cases hb;exact adg _,_,_,rfl⟩
 ·show _=Result.ok (Value.slice (some ⟨w.heap.size,0,none⟩) ps.length ps.length) _;have zQ:¬ps.length*k.sz>2 ^ 24:=by omega
  have hc:P.cellsOf e=k.sz:=by simp[Program.cellsOf,he.info,he.size]
  simp only[Instr.buildSlice,Sem.run_bind,run_underlying ht,Result.andThen_ok,du he.info,hc];rw[if_neg zQ];have Cw:(newRow e fD).run P w=.ok ⟨w.heap.size,0,none⟩ (w.alloc (.cells fD e)):=rfl;by_cases h0:ps.length*k.sz=0
  ·have S5:F8=#[]:=adH (by rw[yF,h0]);have xl:(Array.range (ps.length*k.sz)).map (fun x=>(#[]:Array Value)[x%(#[]:Array Value).size]!)=#[]:=adH (by simp[h0]);rw[if_pos h0];rw[S5]at h1;simp only[Sem.run_pure,Result.andThen_ok,xl,h1,Sem.run_bind,Cw]
  ·rw[if_neg h0];simp only[Sem.run_bind,uc he.info he.zero,Result.andThen_ok,Sem.run_pure];rw[show(Array.range (ps.length*k.sz)).map (fun x=>z.cells[x%z.cells.size]!)=F8 from rfl,h1];simp only[Sem.run_bind,Cw,Result.andThen_ok,Sem.run_pure]
theorem Ow(g:Good Z ψ h w B0 O)(hB:B0≤w.heap.size){id:Nat}{e:TypeId}{k:K}{xs:List k.T}{v':Value}(n:Next Z ψ h w B0 O N Z (dA ψ id v') (dA h id (some (.own (.row e k) xs))) w') (r9:∀b,Own ψ h b→w'.heap[b]? = w.heap[b]?) (Cw:∀b,ob v'=some b→w.heap.size≤b) (hex:∃A c,v'=.slice A c c) :
  Next Z ψ h w B0 O N (fun b=>Z b∨ob v'=some b) ψ h w'∧av (fun b=>Z b∨ob v'=some b) ψ h w' (.sl true k xs) v':=by
 have nr:jm Z w' (.row e k) v' xs:=by
  have:=n.dB.row id (.row e k) xs (bg _ _ _)
  rwa [bg]at this
 obtain⟨vs,ho,hv⟩:=nr;have m:Next Z ψ h w B0 O (fun _=>False) Z ψ h w':=g.more n.keep r9 (fun _ _=>⟨rfl,rfl⟩) (fun i ty cs hb=>by
  have e:(fun _:Nat=>¬False)=fun _=>True:=by funext i;simp
  rw[e];exact ax.top cs) (fun _ _ _ h=>h.elim) (fun _ _ _ h=>h.elim) (fun _ _ h=>h.elim) (fun _ _ _ h=>h.elim) hB
 have hz:∀b,Z b→Z b∨ob v'=some b:=fun b h=>.inl h;refine⟨⟨hz,fun b hb=>hb.imp (fun h=>h) fun h=>.inr (Cw b h),m.keep,fun i hi=>.inl ((m.ids i hi).resolve_right (fun h=>h)),⟨fun i ty cs hb=>?_,fun i ok x hb=>?_,fun i b h1 h2=>?_,m.dB.apart,fun b hb=>?_⟩⟩,?_⟩
 ·obtain⟨gg,vs,f1,f2,f3,f4⟩:=m.dB.box i ty cs hb;exact⟨gg,vs,f1,f2,ak.less hz (cp.refl _ _) (fun _ h=>⟨h,rfl⟩) f3,f4⟩
 ·exact(m.dB.row i ok x hb).kept hz (cp.refl _ _) (fun _ _=>rfl)
 ·obtain⟨k1,k2⟩:=m.dB.live i b h1 h2;refine⟨fun hb=>hb.elim k1 fun hb=>?_,k2⟩;have:=g.bM ⟨i,h1,h2⟩;have:=Cw b hb;omega
 ·rcases hb with hb|hb
  ·exact m.dB.ju b hb
  ·exact jm.lt (ok:=.row e k) ⟨vs,ho,hv⟩ hb
 ·simp only[av];exact⟨tX ho hv (fun b h=>.inl h) (fun b h=>.inr h),fun _=>hex⟩
end Go.Vs
