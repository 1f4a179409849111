/- The value semantics of the -/
import Derived.Control
import Derived.Calls
import Derived.Orders
import GoSem.Machine.Frame
import Derived.Laws.AppendOwn
import GoSem.Core.Utf8
import Derived.Below
import Derived.Laws.OwnMore
import Derived.Laws.Rows
import Derived.Deep.Draws
import Derived.Laws.CopyRow
import Derived.Laws.Cells
import Derived.Laws.Sem
import Derived.Maps.AppendAt
import Derived.ArgAppend
import Derived.WalkKit
namespace Go
abbrev aa1:=@List.mem_cons_of_mem
abbrev aa2:=@List.getElem?_eq_some_iff
abbrev aa4:=@List.getElem?_eq_getElem
abbrev abd:=@List.mem_cons
abbrev abg:=@List.mem_append_right
abbrev abi:=@List.mem_append_left
abbrev abp:=@List.mem_cons_self
abbrev abq:=@Array.getElem?_eq_some_iff
abbrev abv:=@List.nodup_cons
abbrev abw:=@List.mem_append
abbrev aby:=@Option.some.inj
abbrev abC:=@Option.isSome_iff_exists
abbrev abN:=@Option.ne_none_iff_exists'
abbrev ab6:=@List.mem_of_getElem?
abbrev aca:=@List.mem_map
abbrev acg:=@List.eq_nil_of_length_eq_zero
abbrev ack:=@Nat.le_refl
abbrev acm:=@List.getElem_mem
abbrev acn:=@Array.getElem?_eq_getElem
abbrev acq:=@List.mem_of_find?_eq_some
abbrev acF:=@List.rel_of_pairwise_cons
abbrev acM:=@Nat.mul_le_mul_right
abbrev acN:=@Nat.le_trans
abbrev ac2:=@List.map_congr_left
abbrev ac3:=@List.all_eq_true
abbrev ac4:=@Option.bind_eq_some_iff
abbrev ac5:=@Option.map_eq_some_iff
abbrev ac6:=@List.nodup_append
abbrev ac7:=@List.Perm.append_right
abbrev ac8:=@List.drop_eq_getElem_cons
abbrev ac9:=@List.length_filter_le
abbrev ada:=@List.append_of_mem
abbrev adb:=@List.mem_range
abbrev ade:=@List.mem_flatten
abbrev adf:=@Nat.lt_of_lt_of_le
abbrev adg:=@List.mem_filter
abbrev adh:=@List.mem_iff_getElem?
abbrev adi:=@List.getElem?_of_mem
abbrev adj:=@List.perm_middle
abbrev adk:=@List.perm_append_comm
abbrev adl:=@List.ext_getElem?
abbrev adm:=@List.find?_some
abbrev adn:=@List.length_pos_of_mem
abbrev ado:=@List.getElem_of_mem
abbrev adp:=@Array.mem_of_getElem?
abbrev adq:=@Nat.zero_le
abbrev adr:=@List.mem_of_mem_drop
abbrev ads:=@Array.all_eq_true_iff_forall_mem
abbrev adt:=@Array.eq_empty_of_size_eq_zero
abbrev adu:=@List.countP_le_length
abbrev adv:=@Nat.mod_lt
abbrev adw:=@List.filter_eq_self
abbrev adx:=@List.pairwise_iff_getElem
abbrev ady:=@Nat.lt_or_ge
abbrev adB:=@List.drop_eq_nil_of_le
abbrev adC:=@List.mem_of_mem_take
abbrev adE:=@List.Perm.refl
abbrev adH:=@List.ne_nil_of_mem
abbrev adI:=@List.Pairwise.of_cons
abbrev adV:=@List.mem_of_mem_erase
abbrev adW:=@Nat.mod_eq_of_lt
abbrev adZ:=@List.mem_of_mem_tail
abbrev ad3:=@List.mem_erase_of_ne
abbrev ad5:=@Nat.succ_mul
abbrev ad8:=@List.mem_filterMap
abbrev aea:=@Nat.mul_le_mul
abbrev aeb:=@List.pairwise_map
end Go
namespace Go.Vs
inductive K where
 |int (k:IntKind)|bool|str|sl (k:K)|pair (a b:K)|one (k:K)|mp (kk vk:K)
 deriving DecidableEq
def K.T:K→Type
 |.int _=>Int
 |.bool=>Bool
 |.str=>ByteArray
 |.sl k=>List k.T
 |.pair a b=>a.T×b.T
 |.one k=>k.T
 |.mp kk vk=>List (kk.T×vk.T)
def K.sz:K→Nat
 |.pair a b=>a.sz+b.sz
 |.one k=>k.sz
 |_=>1
def sI(P:Program):Nat→TypeId→Option K
 |0,_=>none
 |d+1,t =>
  match P.underlying t with
  |some (.int k)=>some (.int k)
  |some .bool=>some .bool
  |some .string=>some .str
  |some (.slice e)=>(sI P d e).map .sl
  |some (.map a b)=>match sI P d a,sI P d b with
   |some x,some y=>some (.mp x y)
   |_,_=>none
  |some (.struct fs) =>
   match (fs.toList.map fun f=>sI P d f.type).reverse with
   |[]=>none
   |[k]=>k.map .one
   |last::rest=>rest.foldl (fun acc k=>match k,acc with|some k,some a=>some (.pair k a)|_,_=>none) last
  |_=>none
def K.flat:K→Bool
 |.sl _=>false
 |.mp _ _=>false
 |.pair a b=>a.flat&&b.flat
 |.one k=>k.flat
 |_=>true
def K.isAgg:K→Bool
 |.pair _ _=>true
 |.one _=>true
 |_=>false
inductive AV where
 |no
 |bool (b:Bool)
 |int (k:IntKind) (n:Int)
 |str (s:ByteArray)
 |mC
 |ib
 |ref (id s i off:Nat)
 |fp (k:K) (x:k.T) (off:Nat)
 |sl (ex:Bool) (k:K) (xs:List k.T)
 |mp (kk vk:K) (es:List (kk.T×vk.T))
 |bV (id:Nat)
 |fn (f:FuncId) (cap:List AV)
 |agg (cs:List AV)
 |pe (vs:List AV)
def AV.isAgg:AV→Bool
 |.agg _=>true
 |_=>false
def AV.cells:AV→List AV
 |.agg cs=>cs
 |v=>[v]
def enc:(k:K)→k.T→List AV
 |.int ik,n=>[.int ik n]
 |.bool,b=>[.bool b]
 |.str,s=>[.str s]
 |.sl k,xs=>[.sl false k xs]
 |.mp kk vk,es=>[.mp kk vk es]
 |.pair a b,x=>enc a x.1++enc b x.2
 |.one k,x=>enc k x
def Ib(ik:IntKind):List AV→Option (Int×List AV)
 |.int ik' n::r=>if ik'=ik then some (n,r) else none
 |_=>none
def Ce:List AV→Option (Bool×List AV)
 |.bool b::r=>some (b,r)
 |_=>none
def Ic:List AV→Option (ByteArray×List AV)
 |.str s::r=>some (s,r)
 |_=>none
def OX(k:K):List AV→Option (List k.T×List AV)
 |.sl _ k' xs::r=>if h:k'=k then some (h▸xs,r) else none
 |.ib::r=>some ([],r)
 |_=>none
def OY(kk vk:K):List AV→Option (List (kk.T×vk.T)×List AV)
 |.mp OZ XW es::r=>if h:OZ=kk∧XW=vk then some (h.1▸h.2▸es,r) else none
 |_=>none
def dec:(k:K)→List AV→Option (k.T×List AV)
 |.int ik,cs=>Ib ik cs
 |.bool,cs=>Ce cs
 |.str,cs=>Ic cs
 |.sl k,cs=>OX k cs
 |.mp kk vk,cs=>OY kk vk cs
 |.pair a b,cs =>
  match dec a cs with
  |some (x,r)=>match dec b r with
   |some (y,r')=>some ((x,y),r')
   |none=>none
  |none=>none
 |.one k,cs=>dec k cs
def dZ(k:K)(cs:List AV):Option k.T :=match dec k cs with
 |some (x,[])=>some x
 |_=>none
def cJ:(k:K)→k.T→AV
 |.pair a b,x=>.agg (enc (.pair a b) x)
 |.one k,x=>.agg (enc (.one k) x)
 |.int ik,n=>.int ik n
 |.bool,b=>.bool b
 |.str,s=>.str s
 |.sl k,xs=>.sl false k xs
 |.mp kk vk,es=>.mp kk vk es
inductive OK where
 |row (ty:TypeId) (k:K)|map (kk vk:K)|iter (kk vk:K)|pZ
 deriving DecidableEq
abbrev OK.T:OK→Type
 |.row _ k=>List k.T
 |.map kk vk=>List (kk.T×vk.T)
 |.iter kk vk=>Option (kk.T×vk.T)×List (kk.T×vk.T)
 |.pZ=>ByteArray×Nat
inductive Ob where
 |box (ty:TypeId) (cs:List AV)
 |own (ok:OK) (x:ok.T)
abbrev Heap:=List (Nat×Ob)
def Heap.get:Heap→Nat→Option Ob
 |[],_=>none
 |(i,o)::r,n=>if i=n then some o else Heap.get r n
def Heap.del:Heap→Nat→Heap
 |[],_=>[]
 |(i,o)::r,n=>if i=n then Heap.del r n else(i,o)::Heap.del r n
def Heap.set(h:Heap)(n:Nat)(o:Ob):Heap:=(n,o)::h.del n
def di(h:Heap):AV→AV
 |.bV id=>match h.get id with
  |some (.own (.row _ k) xs)=>.sl false k xs
  |some (.own (.map kk vk) es)=>.mp kk vk es
  |_=>.no
 |v=>v
def drop1(h:Heap):AV→Heap
 |.bV id=>h.del id
 |_=>h
def dg(h:Heap):List AV→Heap
 |[]=>h
 |c::r=>dg (drop1 h c) r
structure St where
 tmps:List (Nat×AV)
 heap:Heap
def look:List (Nat×AV)→Nat→AV
 |[],_=>.no
 |(i,v)::r,n=>if i=n then v else look r n
def St.put(s:St)(d:Option Tmp)(v:AV):St :=match d with
 |some d=>{ s with tmps:=(d,v)::s.tmps }
 |none=>s
def y0:Value→AV
 |.bool b=>.bool b
 |.int k n=>.int k n
 |.string s=>.str s
 |.pointer a=>if a=none then .mC else .no
 |.slice a n c=>if a=none∧n=0∧c=0 then .ib else .no
 |.func fn first cap=>match fn with
  |.func f=>if first.size=0∧cap.size=0 then .fn f [] else .no
  |_=>.no
 |_=>.no
def vO(v:Value):AV :=match v with
 |.agg cs=>.agg (cs.toList.map y0)
 |v=>y0 v
def ρ(s:List (Nat×AV)):Operand→AV
 |.tmp t=>look s t
 |.const v=>vO v
 |.global _=>.no
 |.func f=>.fn f []
inductive bW where
 |val (v:AV)
 |new (v:AV) (os:Heap)
 |wr (v:AV) (h:Heap)
def bW.v:bW→AV
 |.val v=>v
 |.new v _=>v
 |.wr v _=>v
def bW.h(h:Heap):bW→Heap
 |.val _=>h
 |.new _ os=>os++h
 |.wr _ h'=>h'
inductive CK where
 |val (k:K)
 |own (ok:OK)
inductive PK where
 |val (k:K)
 |ref
 |own
 |JZ (f:FuncId) (n:Nat)
 |agg (n:Nat)
inductive RK where
 |val (k:K)
 |own (ok:OK)
 |fW (b:Nat) (alts:List (Nat×Nat×Nat))
 |agg (c:List CK)
inductive BK where
 |box (ty:TypeId) (dW:List CK)
 |own (ok:OK)
def BK.dW:BK→List CK
 |.box _ c=>c
 |.own _=>[]
def CK.T:CK→Type
 |.val k=>k.T
 |.own ok=>ok.T
def sJ:List CK→Type
 |[]=>Unit
 |c::r=>c.T×sJ r
abbrev BK.T:BK→Type
 |.box _ c=>sJ c
 |.own ok=>ok.T
def zc:List BK→Type
 |[]=>Unit
 |b::r=>b.T×zc r
def J6:List K→Type
 |[]=>Unit
 |k::r=>k.T×J6 r
def RK.T:RK→Type
 |.val k=>k.T
 |.own ok=>ok.T
 |.fW _ alts=>Option (Fin alts.length×Nat)
 |.agg c=>sJ c
def nq:List RK→Type
 |[]=>Unit
 |r::l=>r.T×nq l
def mn:List PK→List K
 |[]=>[]
 |.val k::r=>k::mn r
 |_::r=>mn r
structure aX where
 ps:List PK
 bs:List BK
 rs:List RK
 x:Option (Heap→Nat→List AV→Option (Bool×bW)):=none
abbrev aX.A(g:aX):Type:=J6 (mn g.ps)×zc g.bs
abbrev aX.B(g:aX):Type:=nq g.rs×zc g.bs
def RK.plain:RK→Bool
 |.val _=>true
 |.own ..=>true
 |.fW ..=>false
 |.agg c=>decide (c.length≤16)
def RK.flat:RK→Bool
 |.val k=>k.flat
 |.own ..=>false
 |.fW ..=>true
 |.agg _=>false
section
variable (P:Program)
def MV:TypeDesc→Bool
 |.struct _=>true
 |.array _ _=>true
 |_=>false
def GF(t:TypeId):Option Bool:=(P.underlying t).map MV
def iW(t:TypeId)(f:Nat):Option (Nat×TypeId) :=match P.underlying t with
 |some (.struct fs)=>(fs[f]?).map fun x=>(x.offset,x.type)
 |_=>none
def AX(t:TypeId):Option TypeId :=match P.underlying t with
 |some (.slice e)=>some e
 |_=>none
def CZ(t:TypeId):Option (List AV):=(P.info? t).bind fun i=>i.zero.bind fun z=>if z.cells.toList.all (·.oneCell') then some (vO z).cells else none
def fk(t:TypeId)(cs:List AV):Option AV :=match GF P t with
 |some true=>if P.cellsOf t≤cs.length then some (.agg (cs.take (P.cellsOf t))) else none
 |some false=>match cs with
  |c::_=>some c
  |[]=>none
 |none=>none
def fh{α:Type}(cs:List α):Nat→List α→List α
 |_,[]=>cs
 |off,v::r=>fh (cs.set off v) (off+1) r
def GG(place:Nat→Option (Nat×Nat))(cs:List AV):List (Nat×AV)→Option (List AV)
 |[]=>some cs
 |(i,v)::r =>
  match place i with
  |none=>none
  |some (off,size)=>if v.cells.length≠size∨off+v.cells.length>cs.length then none else GG place (fh cs off v.cells) r
def dv(op:BinOp)(k:IntKind)(a b:Int):Int :=k.wrap ((match op with
  |.and=>BitVec.ofInt k.bits a &&& BitVec.ofInt k.bits b
  |.or=>BitVec.ofInt k.bits a ||| BitVec.ofInt k.bits b
  |.xor=>BitVec.ofInt k.bits a ^^^ BitVec.ofInt k.bits b
  |_=>BitVec.ofInt k.bits a &&& ~~~(BitVec.ofInt k.bits b)).toNat:Int)
def J7(k:IntKind)(a b:Int):Int:=k.wrap (a*2 ^ (min b.toNat k.bits))
def mD(k:IntKind)(a b:Int):Int:=a.fdiv (2 ^ (min b.toNat k.bits))
def aa9(op:BinOp)(k:IntKind)(a b:Int):Option AV :=match op with
 |.add=>some (.int k (k.wrap (a+b)))
 |.sub=>some (.int k (k.wrap (a-b)))
 |.mul=>some (.int k (k.wrap (a*b)))
 |.eql=>some (.bool (a==b))
 |.neq=>some (.bool (a != b))
 |.lss=>some (.bool (decide (a<b)))
 |.leq=>some (.bool (decide (a≤b)))
 |.gtr=>some (.bool (decide (a>b)))
 |.geq=>some (.bool (decide (a≥b)))
 |.and=>some (.int k (dv .and k a b))
 |.or=>some (.int k (dv .or k a b))
 |.xor=>some (.int k (dv .xor k a b))
 |.andNot=>some (.int k (dv .andNot k a b))
 |_=>none
def adz(op:BinOp)(a b:ByteArray):Option AV :=match op with
 |.eql=>some (.bool (a==b))
 |.neq=>some (.bool (!(a==b)))
 |_=>none
def tV:(k:K)→k.T→k.T→Bool
 |.int _,x,y=>(show Int from x)==y
 |.bool,x,y=>(show Bool from x)==y
 |.str,x,y=>(show ByteArray from x)==y
 |.sl _,_,_=>false
 |.mp _ _,_,_=>false
 |.pair a b,x,y=>tV a x.1 y.1&&tV b x.2 y.2
 |.one k,x,y=>tV k x y
def vR(kk:K){α:Type}(x:kk.T)(es:List (kk.T×α)):Option Nat:=es.findIdx? fun e=>tV kk x e.1
def j7(kk:K){α:Type}(x:kk.T)(es:List (kk.T×α)):Option α:=(vR kk x es).bind fun i=>(es[i]?).map (·.2)
def oG(kk:K){α:Type}(x:kk.T)(v:α)(es:List (kk.T×α)):List (kk.T×α):=match vR kk x es with
 |some i=>es.set i (x,v)
 |none=>es++[(x,v)]
def Th(kk:K){α:Type}(x:kk.T)(es:List (kk.T×α)):List (kk.T×α):=match vR kk x es with
 |some i=>es.eraseIdx i
 |none=>es
def p4:(k:K)→k.T
 |.int _=>(0:Int)
 |.bool=>false
 |.str=>ByteArray.empty
 |.sl k=>([]:List k.T)
 |.pair a b=>(p4 a,p4 b)
 |.one k=>p4 k
 |.mp kk vk=>([]:List (kk.T×vk.T))
def Ti:K→Value→Bool
 |.int ik,.int ik' n=>decide (ik'=ik∧n=0)
 |.bool,.bool b => !b
 |.str,.string s=>decide (s=ByteArray.empty)
 |.sl _,.slice a n c=>decide (a=none∧n=0∧c=0)
 |_,_=>false
def O0(t:TypeId)(k:K):Bool:=match P.info? t with
 |some i=>match i.zero with
  |some z=>Ti k z
  |none=>false
 |none=>false
def O2(Eqs:TypeId→Option K)(t:TypeId)(k:K):Bool:=k.flat&&(match k,P.underlying t with
 |.int ik,some (.int ik')=>decide (ik'=ik)
 |.bool,some .bool=>true
 |.str,some .string=>true
 |k,_=>k.isAgg&&decide (Eqs t=some k))
def mapOf(Eqs:TypeId→Option K)(t:TypeId):Option (K×K):=match P.underlying t with
 |some (.map a b)=>match sI P 8 a,sI P 8 b with
  |some kk,some vk=>if O2 P Eqs a kk&&O0 P b vk then some (kk,vk) else none
  |_,_=>none
 |_=>none
def bh{α:Type}(xs:List α)(i:Int):Option α:=if 0≤i then xs[i.toNat]? else none
def gy:Nat:=1073741824
def aU(n m:Nat):Bool:=decide (n+m≤gy)
def p6(n:Nat)(lo hi:Option AV):Option (Int×Int) :=match lo,hi with
 |none,none=>some (0,(n:Int))
 |some (.int .i64 l),none=>some (l,(n:Int))
 |none,some (.int .i64 h)=>some (0,h)
 |some (.int .i64 l),some (.int .i64 h)=>some (l,h)
 |_,_=>none
def bu(n:Nat)(l h:Int):Bool:=decide (0≤l)&&(decide (l≤h)&&decide (h≤(n:Int)))
def cut{α:Type}(xs:List α)(l h:Int):List α:=(xs.take h.toNat).drop l.toNat
def aba(s:ByteArray)(l h:Int):ByteArray:=s.extract l.toNat h.toNat
variable {R:Type}
def hZ(k:K)(h:Heap)(v:AV):Option k.T:=if k.isAgg=v.isAgg then dZ k (v.cells.map (di h)) else none
def rowOf(h:Heap)(v:AV)(k:K):Option (List k.T) :=match di h v with
 |.sl _ k' xs=>if e:k'=k then some (e▸xs) else none
 |.ib=>some []
 |_=>none
def Ie(e:TypeId)(k:K):Bool :=match P.info? e with
 |some i=>(match i.zero with
  |some z=>decide (i.size=k.sz)&&(decide (z.cells.size=k.sz)&&decide (i.bytes≤65536))
  |none=>false)
 |none=>false
def p7(h:Heap)(id:Nat)(t:TypeId)(s x:AV)(K:bW→Option R):Option R :=match AX P t with
 |none=>none
 |some e =>
  match sI P 8 e with
  |none=>none
  |some kk =>
   match rowOf h x kk,Ie P e kk with
   |some ys,true =>
    match s with
    |.ib=>cond (aU 0 ys.length) (K (.new (.bV id) [(id,.own (.row e kk) ys)])) none
    |.bV dr =>
     match h.get dr with
     |some (.own (.row e' k') xs) =>
      if c:e'=e∧k'=kk then cond (aU xs.length ys.length) (K (.wr (.bV id) ((h.del dr).set id (.own (.row e kk) (c.2▸xs++ys))))) none else none
     |_=>none
    |.sl ex k' xs =>
     if c:k'=kk then cond (ex&&((!ys.isEmpty || xs.isEmpty)&&aU xs.length ys.length)) (K (.new (.bV id) [(id,.own (.row e kk) (c▸xs++ys))])) none else none
    |_=>none
   |_,_=>none
def ze:AV→Bool
 |.no=>false
 |.agg _=>false
 |.pe _=>false
 |_=>true
def MW(id:Nat):List AV→Bool
 |[]=>true
 |.bV i::r => !(i==id)&&MW id r
 |_::r=>MW id r
def stored(h:Heap)(vs:List AV):List AV×Heap:=(vs.map (di h),dg h vs)
def tW(h:Heap)(t:TypeId)(a v:AV)(K:bW→Option R):Option R :=if v.cells.length=P.cellsOf t∧(P.info? t).isSome∧v.cells.all ze then
  match a with
  |.ref id s i off =>
   match h.get id with
   |some (.box ty cs)=>if i=0∧off+v.cells.length≤cs.length then K (.wr .no (h.set id (.box ty (fh cs off v.cells)))) else none
   |some (.own (.row ty kk) xs) =>
    (xs[i]?).bind fun x =>if s=kk.sz∧off+v.cells.length≤kk.sz∧MW id v.cells then
      match dZ kk (fh (enc kk x) off (stored h v.cells).1) with
      |some y=>K (.wr .no ((stored h v.cells).2.set id (.own (.row ty kk) (xs.set i y))))
      |none=>none
     else none
   |_=>none
  |_=>none
 else none
def nr(h:Heap)(t:TypeId)(a:AV)(K:bW→Option R):Option R :=match a with
 |.ref id s i off =>
  match h.get id with
  |some (.box _ cs)=>if i=0 then(match fk P t (cs.drop off) with|some v=>K (.val v)|none=>none) else none
  |some (.own (.row _ kk) xs)=>if s=kk.sz then(xs[i]?).bind fun x=>match fk P t ((enc kk x).drop off) with|some v=>K (.val v)|none=>none else none
  |_=>none
 |.fp kk x off=>match fk P t ((enc kk x).drop off) with|some v=>K (.val v)|none=>none
 |_=>none
def eC(h:Heap)(t:TypeId)(x i:AV)(K:bW→Option R):Option R :=match AX P t with
 |none=>none
 |some e =>
  match x,i with
  |.sl _ kk xs,.int _ n=>if P.cellsOf e=kk.sz then(bh xs n).bind fun y=>K (.val (.fp kk y 0)) else none
  |.bV id,.int _ n =>
   match h.get id with
   |some (.own (.row _ kk) xs)=>if P.cellsOf e=kk.sz then cond (decide (0≤n)&&decide (n<(xs.length:Int))) (K (.val (.ref id kk.sz n.toNat 0))) none else none
   |_=>none
  |_,_=>none
def zg(x:AV)(lo hi mx:Option AV)(K:bW→Option R):Option R :=match x,mx with
 |.str s,none =>
  match p6 s.size lo hi with
  |some (l,u)=>cond (bu s.size l u) (K (.val (.str (aba s l u)))) none
  |none=>none
 |_,_=>none
def qU(_:Heap)(sz:Nat)(x:AV)(lo hi mx:Option AV)(K:bW→Option R):Option R :=match x with
 |.ib =>
  match p6 0 lo hi,mx with
  |some (l,u),none=>cond (bu 0 l u) (K (.val .ib)) none
  |_,_=>none
 |.sl _ kk xs =>
  if sz=kk.sz then
   match p6 xs.length lo hi with
   |some (l,u) =>
    match mx with
    |none=>cond (bu xs.length l u) (K (.val (.sl false kk (cut xs l u)))) none
    |some (.int .i64 m)=>cond (bu xs.length l u&&(hi.isSome&&decide (m=u))) (K (.val (.sl true kk (cut xs l u)))) none
    |_=>none
   |none=>none
  else none
 |_=>none
def abb(t:TypeId)(x:AV):Bool :=match P.underlying t,x with
 |some .string,.str _=>true
 |some (.slice _),.str _=>false
 |some (.slice _),_=>true
 |_,_=>false
def MX(t:TypeId):Bool :=match P.underlying t with
 |some (.map _ _)=>true
 |_=>false
def GH(h:Heap)(x:AV)(K:bW→Option R):Option R :=match di h x with
 |.str s=>K (.val (.int .i64 (s.size:Int)))
 |.sl _ _ xs=>K (.val (.int .i64 (xs.length:Int)))
 |.ib=>K (.val (.int .i64 0))
 |_=>none
def zh(h:Heap)(x:AV)(K:bW→Option R):Option R :=match di h x with
 |.mp _ _ es=>K (.val (.int .i64 (es.length:Int)))
 |_=>none
def mT(Eqs:TypeId→Option K)(id:Nat)(t:TypeId)(K:bW→Option R):Option R :=match mapOf P Eqs t with
 |some (kk,vk)=>K (.new (.bV id) [(id,.own (.map kk vk) [])])
 |none=>none
def qa(Eqs:TypeId→Option K)(h:Heap)(t:TypeId)(m i:AV)(ok:Bool)(K:bW→Option R):Option R :=match mapOf P Eqs t,di h m with
 |some (kk,vk),.mp OZ XW es =>
  if c:OZ=kk∧XW=vk then
   match hZ kk h i with
   |some x=>K (.val (cond ok (.pe [cJ vk ((j7 kk x (c.1▸c.2▸es:List (kk.T×vk.T))).getD (p4 vk)),.bool (j7 kk x (c.1▸c.2▸es:List (kk.T×vk.T))).isSome]) (cJ vk ((j7 kk x (c.1▸c.2▸es:List (kk.T×vk.T))).getD (p4 vk)))))
   |none=>none
  else none
 |_,_=>none
def jK(Eqs:TypeId→Option K)(h:Heap)(t:TypeId)(m i v:AV)(K:bW→Option R):Option R :=match mapOf P Eqs t,m with
 |some (kk,vk),.bV id =>
  match h.get id with
  |some (.own (.map OZ XW) es) =>
   if c:OZ=kk∧XW=vk then
    match hZ kk h i,hZ vk h v,(v.cells.all fun c=>match c with | .bV j => !(j==id)|_=>true) with
    |some x,some y,true=>K (.wr (.pe []) ((dg h v.cells).set id (.own (.map kk vk) (oG kk x y (c.1▸c.2▸es:List (kk.T×vk.T))))))
    |_,_,_=>none
   else none
  |_=>none
 |_,_=>none
def qb(Eqs:TypeId→Option K)(h:Heap)(t:TypeId)(m i:AV)(K:bW→Option R):Option R :=match mapOf P Eqs t,m with
 |some (kk,vk),.bV id =>
  match h.get id with
  |some (.own (.map OZ XW) es) =>
   if c:OZ=kk∧XW=vk then
    match hZ kk h i with
    |some x=>K (.wr (.pe []) (h.set id (.own (.map kk vk) (Th kk x (c.1▸c.2▸es:List (kk.T×vk.T))))))
    |none=>none
   else none
  |_=>none
 |_,_=>none
def qc(id:Nat)(t:TypeId)(x:AV)(K:bW→Option R):Option R :=match P.underlying t,x with
 |some .string,.str s=>K (.new (.bV id) [(id,.own .pZ (s,0))])
 |_,_=>none
def qV(s:ByteArray)(p:Nat):Int:=(Utf8.decode s p).1
def C0(s:ByteArray)(p:Nat):Nat:=(Utf8.decode s p).2
def tX(h:Heap)(x:AV)(K:bW→Option R):Option R :=match x with
 |.bV id=>match h.get id with
  |some (.own .pZ x)=>cond (decide (x.2<x.1.size)) (K (.wr (.pe [.bool true,.int .i64 (x.2:Int),.int .i32 (qV x.1 x.2)]) (h.set id (.own .pZ (x.1,x.2+C0 x.1 x.2))))) (K (.val (.pe [.bool false])))
  |_=>none
 |_=>none
def tY(h:Heap)(x:AV)(K:bW→Option R):Option R :=match x with
 |.bV id=>match h.get id with
  |some (.own (.iter kk vk) (some c,_))=>K (.val (.pe [cJ kk c.1,cJ vk c.2]))
  |_=>none
 |_=>none
def Ig:TypeDesc→Bool
 |.bool=>true
 |_=>false
def zi:TypeDesc→Bool
 |.pointer _=>true
 |_=>false
def AY(Eqs:TypeId→Option K)(op:BinOp)(t:TypeId)(x y:AV)(K:bW→Option R):Option R :=match x,y with
 |.int k a,.int k' b =>
  match op with
  |.shl=>cond (decide (b<0)) none (K (.val (.int k (J7 k a b))))
  |.shr=>cond (decide (b<0)) none (K (.val (.int k (mD k a b))))
  |op =>
  if k=k' then
   match op with
   |.quo=>cond (b==0) none (K (.val (.int k (k.wrap (a.tdiv b)))))
   |.rem=>cond (b==0) none (K (.val (.int k (a.tmod b))))
   |op=>match aa9 op k a b with
    |some v=>K (.val v)
    |none=>none
  else none
 |.str a,.str b=>match adz op a b with
  |some v=>K (.val v)
  |none=>none
 |.bool a,.bool b =>
  match op,(P.underlying t).map Ig with
  |.eql,some true=>K (.val (.bool (a==b)))
  |.neq,some true=>K (.val (.bool (!(a==b))))
  |_,_=>none
 |.agg a,.agg b =>
  match Eqs t with
  |none=>none
  |some k =>
   match op,dZ k a,dZ k b with
   |.eql,some x,some y=>K (.val (.bool (tV k x y)))
   |.neq,some x,some y=>K (.val (.bool (!(tV k x y))))
   |_,_,_=>none
 |.mC,.mC =>
  match op,(P.underlying t).map zi with
  |.eql,some true=>K (.val (.bool true))
  |.neq,some true=>K (.val (.bool false))
  |_,_=>none
 |.ref ..,.mC =>
  match op,(P.underlying t).map zi with
  |.eql,some true=>K (.val (.bool false))
  |.neq,some true=>K (.val (.bool true))
  |_,_=>none
 |_,_=>none
def ZQ(b:Bool)(x y:AV):AV :=match x,y with
 |.bool p,.bool q=>.bool (cond b p q)
 |x,y=>cond b x y
end
def fg(h:Heap)(ok:OK)(c:AV):Option ok.T :=match c with
 |.ib=>match ok with
  |.row _ _=>some []
  |_=>none
 |.bV id=>match h.get id with
  |some (.own ok' x)=>if e:ok'=ok then some (e▸x) else none
  |_=>none
 |_=>none
def qW:AV→List Nat
 |.bV id=>[id]
 |_=>[]
def dk:(dW:List CK)→Heap→List AV→Option (sJ dW)
 |[],_,[]=>some ()
 |.val k::r,h,cs =>
  match dZ k ((cs.take k.sz).map (di h)),dk r h (cs.drop k.sz) with
  |some x,some y=>some (x,y)
  |_,_=>none
 |.own ok::r,h,c::cs =>
  match fg h ok c,dk r h cs with
  |some x,some y=>some (x,y)
  |_,_=>none
 |_,_,_=>none
def rY:List CK→List AV→List AV
 |.val k::r,cs=>cs.take k.sz++rY r (cs.drop k.sz)
 |.own _::r,_::cs=>rY r cs
 |_,_=>[]
def gZ:List CK→List AV→List Nat
 |.val k::r,cs=>gZ r (cs.drop k.sz)
 |.own _::r,c::cs=>qW c++gZ r cs
 |_,_=>[]
def aK:(dW:List CK)→Nat→sJ dW→List AV
 |[],_,_=>[]
 |.val k::r,n,x=>enc k x.1++aK r (n+1) x.2
 |.own _::r,n,x=>.bV n::aK r (n+1) x.2
def bp:(dW:List CK)→Nat→sJ dW→Heap
 |[],_,_=>[]
 |.val _::r,n,x=>bp r (n+1) x.2
 |.own ok::r,n,x=>(n,.own ok x.1)::bp r (n+1) x.2
def C1(h:Heap)(id:Nat)(ty:TypeId):Option (List AV) :=match h.get id with
 |some (.box BT cs)=>if BT=ty then some cs else none
 |_=>none
def rZ:(b:BK)→Heap→Nat→Option b.T
 |.box ty c,h,i=>match C1 h i ty with
  |some cs=>dk c h cs
  |none=>none
 |.own ok,h,i=>fg h ok (.bV i)
def dD:(bs:List BK)→Heap→List Nat→Option (zc bs)
 |[],_,[]=>some ()
 |b::r,h,i::is =>
  match rZ b h i,dD r h is with
  |some x,some y=>some (x,y)
  |_,_=>none
 |_,_,_=>none
def j8:(b:BK)→Nat→Nat→b.T→Heap
 |.box ty c,i,n,x=>(i,.box ty (aK c n x))::bp c n x
 |.own ok,i,_,x=>[(i,.own ok x)]
def bG:(bs:List BK)→List Nat→Nat→zc bs→Heap
 |b::r,i::is,n,x=>j8 b i n x.1++bG r is (n+16) x.2
 |_,_,_,_=>[]
def C2:BK→Heap→Nat→List AV
 |.box _ c,h,i=>match h.get i with
  |some (.box _ cs)=>rY c cs
  |_=>[]
 |.own _,_,_=>[]
def ic:List BK→Heap→List Nat→List AV
 |b::r,h,i::is=>C2 b h i++ic r h is
 |_,_,_=>[]
def ln:BK→Heap→Nat→List Nat
 |.box _ c,h,i=>i::(match h.get i with
  |some (.box _ cs)=>gZ c cs
  |_=>[])
 |.own _,_,i=>[i]
def dE:List BK→Heap→List Nat→List Nat
 |b::r,h,i::is=>ln b h i++dE r h is
 |_,_,_=>[]
def iX(h:Heap):List Nat→Heap
 |[]=>h
 |i::r=>iX (h.del i) r
def GI:AV→Option Nat
 |.ref id _ 0 0=>some id
 |_=>none
def kL:List AV→Option (List Nat)
 |[]=>some []
 |v::r=>match GI v,kL r with
  |some i,some is=>some (i::is)
  |_,_=>none
def qX:List AV→Option (List Nat)
 |[]=>some []
 |.bV i::r=>match qX r with
  |some is=>some (i::is)
  |none=>none
 |_=>none
def dd:List PK→List AV→Option (List Nat)
 |[],[]=>some []
 |.val _::ps,_::vs=>dd ps vs
 |.ref::ps,v::vs=>match GI v,dd ps vs with
  |some i,some is=>some (i::is)
  |_,_=>none
 |.own::ps,.bV i::vs=>match dd ps vs with
  |some is=>some (i::is)
  |none=>none
 |.JZ f n::ps,.fn f' cap::vs =>
  if f'=f∧cap.length=n then match kL cap,dd ps vs with
   |some a,some b=>some (a++b)
   |_,_=>none
  else none
 |.agg n::ps,.agg cs::vs =>
  if cs.length=n then match qX cs,dd ps vs with
   |some a,some b=>some (a++b)
   |_,_=>none
  else none
 |_,_=>none
def fR:(ps:List PK)→Heap→List AV→Option (J6 (mn ps))
 |[],_,[]=>some ()
 |.val k::ps,h,v::vs =>
  match hZ k h v,fR ps h vs with
  |some x,some y=>some (x,y)
  |_,_=>none
 |.ref::ps,h,_::vs=>fR ps h vs
 |.own::ps,h,_::vs=>fR ps h vs
 |.JZ _ _::ps,h,_::vs=>fR ps h vs
 |.agg _::ps,h,_::vs=>fR ps h vs
 |_,_,_=>none
def dV:List PK→List AV→List AV
 |.val _::ps,v::vs=>v.cells++dV ps vs
 |_::ps,_::vs=>dV ps vs
 |_,_=>[]
def bf:(ps:List PK)→(ids:List Nat)→Nat→J6 (mn ps)→List (Nat×AV)
 |[],_,_,_=>[]
 |.val k::ps,ids,s,x=>(s,cJ k x.1)::bf ps ids (s+1) x.2
 |.ref::ps,i::ids,s,x=>(s,.ref i 0 0 0)::bf ps ids (s+1) x
 |.ref::ps,[],s,x=>(s,.no)::bf ps [] (s+1) x
 |.own::ps,i::ids,s,x=>(s,.bV i)::bf ps ids (s+1) x
 |.own::ps,[],s,x=>(s,.no)::bf ps [] (s+1) x
 |.JZ f n::ps,ids,s,x=>(s,.fn f ((ids.take n).map fun i=>.ref i 0 0 0))::bf ps (ids.drop n) (s+1) x
 |.agg n::ps,ids,s,x=>(s,.agg ((ids.take n).map .bV))::bf ps (ids.drop n) (s+1) x
def oL:List CK→Nat→Nat
 |.val k::r,c+1=>k.sz+oL r c
 |.own _::r,c+1=>1+oL r c
 |_,_=>0
def ia:List CK→Nat→Bool
 |.own (.row _ _)::_,0=>true
 |_::r,c+1=>ia r c
 |_,_=>false
def Tj(id:Nat):Option AV→Bool
 |some (.bV oH)=>oH==id
 |_=>false
def AZ(c:List CK)(cs:List AV)(id s off:Nat)(a:Nat×Nat×Nat):Bool :=Tj id (cs[oL c a.1]?)&&(decide (s=a.2.1)&&(decide (off=a.2.2)&&ia c a.1))
def pf(bs:List BK)(h:Heap)(ids:List Nat)(b:Nat)(alts:List (Nat×Nat×Nat))(v:AV):Option (Option (Fin alts.length×Nat)) :=match v with
 |.mC=>some none
 |.ref id s i off =>
  (match ids[b]?,bs[b]? with
  |some bi,some bk=>(match h.get bi with
   |some (.box _ cs)=>(match (List.finRange alts.length).find? (fun a=>AZ bk.dW cs id s off (alts.get a)) with
    |some a=>some (some (a,i))
    |none=>none)
   |_=>none)
  |_,_=>none)
 |_=>none
def C3(c:List CK)(h:Heap)(v:AV):Option (sJ c) :=match v with
 |.agg cs=>dk c h cs
 |_=>none
def bX(bs:List BK):(rs:List RK)→Heap→List Nat→List AV→Option (nq rs)
 |[],_,_,[]=>some ()
 |.val k::r,h,ids,v::vs =>
  match hZ k h v,bX bs r h ids vs with
  |some x,some y=>some (x,y)
  |_,_=>none
 |.own ok::r,h,ids,v::vs =>
  match fg h ok v,bX bs r h ids vs with
  |some x,some y=>some (x,y)
  |_,_=>none
 |.fW b alts::r,h,ids,v::vs =>
  match pf bs h ids b alts v,bX bs r h ids vs with
  |some x,some y=>some (x,y)
  |_,_=>none
 |.agg c::r,h,ids,v::vs =>
  match C3 c h v,bX bs r h ids vs with
  |some x,some y=>some (x,y)
  |_,_=>none
 |_,_,_,_=>none
def ig:List RK→List AV→List AV
 |.val _::r,v::vs=>v.cells++ig r vs
 |.agg c::r,v::vs=>rY c v.cells++ig r vs
 |_::r,_::vs=>ig r vs
 |_,_=>[]
def eX:List RK→List AV→List Nat
 |.own _::r,v::vs=>qW v++eX r vs
 |.agg c::r,v::vs=>gZ c v.cells++eX r vs
 |_::r,_::vs=>eX r vs
 |_,_=>[]
def xd(b n:Nat)(alts:List (Nat×Nat×Nat)):Option (Fin alts.length×Nat)→AV
 |none=>.mC
 |some (a,i)=>.ref (n+16*b+(alts.get a).1) (alts.get a).2.1 i (alts.get a).2.2
def bj:(rs:List RK)→(ids:List Nat)→(n m:Nat)→nq rs→List AV
 |[],_,_,_,_=>[]
 |.val k::r,ids,n,m,x=>cJ k x.1::bj r ids n (m+1) x.2
 |.agg c::r,ids,n,m,x=>.agg (aK c m x.1)::bj r ids n (m+1) x.2
 |.own _::r,ids,n,m,x=>.bV m::bj r ids n (m+1) x.2
 |.fW b alts::r,ids,n,m,x=>xd b n alts x.1::bj r ids n (m+1) x.2
def ar:(rs:List RK)→(m:Nat)→nq rs→Heap
 |[],_,_=>[]
 |.own ok::r,m,x=>(m,.own ok x.1)::ar r (m+1) x.2
 |.agg c::r,m,x=>bp c m x.1++ar r (m+1) x.2
 |.val _::r,m,x=>ar r (m+1) x.2
 |.fW _ _::r,m,x=>ar r (m+1) x.2
def gq:List AV→AV
 |[v]=>v
 |vs=>.pe vs
def cK:List CK→Nat→List Nat
 |[],_=>[]
 |.val _::r,n=>cK r (n+1)
 |.own _::r,n=>n::cK r (n+1)
def cy:List BK→List Nat→Nat→List Nat
 |b::r,i::is,n=>i::(cK b.dW n++cy r is (n+16))
 |_,_,_=>[]
def bH:List RK→Nat→List Nat
 |[],_=>[]
 |.own _::r,m=>m::bH r (m+1)
 |.agg c::r,m=>cK c m++bH r (m+1)
 |.val _::r,m=>bH r (m+1)
 |.fW _ _::r,m=>bH r (m+1)
def aY(n:Nat):List Nat:=(List.range n).map fun i=>1000+20*i
def sK(g:aX):List Nat:=cy g.bs (aY g.bs.length) 2000++bH g.rs 3000
def J8:List AV→Bool
 |[]=>true
 |.bV _::_=>false
 |_::r=>J8 r
def sL:List AV→Bool
 |[]=>true
 |v::r=>J8 v.cells&&sL r
def cG:List Nat→Bool
 |[]=>true
 |i::r => !(r.contains i)&&cG r
def zj(kept:List Nat)(mj:List AV):Bool:=cG kept&&kept.all fun i=>MW i mj
section
variable (P:Program) (Eqs:TypeId→Option K) (Sg:FuncId→Option aX) (F:(f:FuncId)→(g:aX)→g.A→Option g.B)
variable {R:Type}
def vS(f:FuncId):List AV→FuncId
 |[]=>f
 |.fn g _::_=>f+1000*(g+1)
 |_::r=>vS f r
def C4:List AV→Bool
 |[]=>false
 |.bV _::_=>true
 |.agg cs::r=>(cs.any fun c=>match c with | .bV _=>true|_=>false) || C4 r
 |_::r=>C4 r
def keyOf(f:FuncId)(vs:List AV):FuncId:=if C4 vs&&(Sg (vS f vs+500000)).isSome then vS f vs+500000 else vS f vs
def F6(bs:List BK)(r:RK):Bool:=match r with
 |.fW b alts=>match bs[b]? with
  |some bk=>(alts.all fun a=>ia bk.dW a.1)&&decide ((alts.map fun a=>(a.1,a.2.2)).Nodup)
  |none=>false
 |.agg c=>decide (c.length≤16)
 |_=>true
def sM(bs:List BK)(rs:List RK):Bool:=rs.all (F6 bs)
def Tk(f:FuncId)(g:aX):Bool:=sM g.bs g.rs&&( (decide (g.bs.length≤8)&&(g.bs.all fun b=>decide (b.dW.length≤16)))&&((decide (g.rs.length≤100)&&decide (f<1000))&&cG (sK g)))
def sN{α R:Type}(o:Option α)(a:Option R)(f:α→Option R):Option R:=match o with
 |none=>a
 |some x=>f x
def adA{R:Type}(n:Nat)(a:Fin n)(f:Fin n→Option R):Option R:=(List.finRange n).foldr (fun j r=>cond (a.val==j.val) (f j) r) none
def kM{R:Type}:(rs:List RK)→nq rs→(nq rs→Option R)→Option R
 |[],_,K=>K ()
 |.fW _ alts::r,x,K=>sN x.1 (kM r x.2 fun z=>K (none,z)) (fun p=>adA alts.length p.1 fun a=>kM r x.2 fun z=>K (some (a,p.2),z))
 |.val _::r,x,K=>kM r x.2 fun z=>K (x.1,z)
 |.own _::r,x,K=>kM r x.2 fun z=>K (x.1,z)
 |.agg _::r,x,K=>kM r x.2 fun z=>K (x.1,z)
def j9(h:Heap)(id:Nat)(f:FuncId)(vs:List AV)(K:bW→Option R):Option R :=match Sg (keyOf Sg f vs) with
 |none=>none
 |some g=>match g.x with
 |some u=>if f<1000 then(u h id vs).bind fun p=>cond p.1 (K p.2) none else none
 |none =>
  match dd g.ps vs,Tk f g with
  |some is,true =>
   if is.isEmpty&&g.rs.all RK.plain then
   match fR g.ps h vs,dD g.bs h [],g.rs.all RK.plain with
   |some x,some b,true =>
    (F (keyOf Sg f vs) g (x,b)).bind fun y =>cond (g.rs.all RK.flat || sL vs) (K (.new (gq (bj g.rs [] id (id+128) y.1)) (ar g.rs (id+128) y.1))) (K (.wr (gq (bj g.rs [] id (id+128) y.1)) (ar g.rs (id+128) y.1++dg h (dV g.ps vs))))
   |_,_,_=>none
   else
   match fR g.ps h vs,dD g.bs h is,zj (dE g.bs h is) (dV g.ps vs++ic g.bs h is)&&cG (cy g.bs is id++bH g.rs (id+128)) with
   |some x,some b,true =>
    (F (keyOf Sg f vs) g (x,b)).bind fun y=>kM g.rs y.1 fun z =>K (.wr (gq (bj g.rs is id (id+128) z)) (bG g.bs is id y.2++(ar g.rs (id+128) z++iX (dg h (dV g.ps vs++ic g.bs h is)) (dE g.bs h is))))
   |_,_,_=>none
  |_,_=>none
def sO{α:Type}(xs:List α)(i:Int)(ys:List α):Bool:=decide (0≤i)&&(decide (i≤xs.length)&&(decide (ys.length=1)&&aU xs.length ys.length))
def ij{α:Type}(xs:List α)(i:Int)(ys:List α):List α:=xs.take i.toNat++(ys++xs.drop i.toNat)
def kG{α:Type}(xs:List α)(i j:Int):Bool:=decide (0≤i)&&(decide (i<j)&&(decide (j≤xs.length)&&aU xs.length 0))
def eg{α:Type}(xs:List α)(i j:Int):List α:=xs.take i.toNat++xs.drop j.toNat
def sP(n:Int):Bool:=decide (0≤n)&&decide (n≤gy)
def Tl(ty:TypeId)(k:K)(h:Heap)(id:Nat):List AV→Option (Bool×bW)
 |[.bV o,.int .i64 i,.bV j]=>match fg h (.row ty k) (.bV o),fg h (.row ty k) (.bV j) with
  |some xs,some ys=>if o=j then none else some (sO xs i ys,.wr (.bV id) ((id,.own (.row ty k) (ij xs i ys))::h.del o))
  |_,_=>none
 |_=>none
def XX(ty:TypeId)(k:K)(h:Heap)(id:Nat):List AV→Option (Bool×bW)
 |[.bV o,.int .i64 i,.int .i64 j]=>match fg h (.row ty k) (.bV o) with
  |some xs=>some (kG xs i j,.wr (.bV id) ((id,.own (.row ty k) (eg xs i j))::h.del o))
  |none=>none
 |_=>none
def O3(ty:TypeId)(k:K)(_:Heap)(id:Nat):List AV→Option (Bool×bW)
 |[.ib,.int .i64 n]=>some (sP n,.new (.bV id) [(id,.own (.row ty k) [])])
 |_=>none
def zk(id:Nat)(t:TypeId)(vs:List AV)(K:bW→Option R):Option R :=K (.new (.ref id vs.length 0 0) [(id,.box t vs)])
def ZR:AV→Bool
 |.no=>false
 |_=>true
def tZ(t:TypeId)(parts:List (Nat×AV))(K:bW→Option R):Option R :=match CZ P t,P.underlying t with
 |some z,some (.struct fs) =>
  match GG (fun i=>(fs[i]?).map fun f=>(f.offset,P.cellsOf f.type)) z parts,fs.toList.all (fun f=>(P.info? f.type).isSome)&&parts.all (fun p=>ZR p.2) with
  |some cs,true=>K (.val (.agg cs))
  |_,_=>none
 |_,_=>none
def sQ(k:K)(h:Heap):Nat→List (Nat×AV)→Option (List k.T)
 |_,[]=>some []
 |i,(j,v)::r =>
  if j=i then match dZ k (v.cells.map (di h)),sQ k h (i+1) r with
   |some x,some xs=>some (x::xs)
   |_,_=>none
  else none
def xe(h:Heap)(id:Nat)(t:TypeId)(n:Nat)(parts:List (Nat×AV))(K:bW→Option R):Option R :=match AX P t with
 |none=>none
 |some e =>
  match sI P 8 e with
  |none=>none
  |some k =>
   match sQ k h 0 parts,Ie P e k with
   |none,_=>none
   |some _,false=>none
   |some xs,true =>
    if parts.length=n∧n*k.sz≤1048576 then
     cond (sL (parts.map (·.2))) (K (.new (.bV id) [(id,.own (.row e k) xs)])) (K (.wr (.bV id) ((id,.own (.row e k) xs)::dg h (parts.flatMap (·.2.cells)))))
    else none
def XY:bW→bW
 |.new (.bV _) [(_,.own (.row _ k) xs)]=>.new (.sl true k xs) []
 |e=>e
def zm(mj:Bool)(h:Heap)(id:Nat)(t:TypeId)(n:Nat)(parts:List (Nat×AV))(K:bW→Option R):Option R :=xe P h id t n parts fun e=>K (if mj then XY e else e)
def C5(src dst:TypeId)(x:AV)(K:bW→Option R):Option R :=match P.underlying src,P.underlying dst,x with
 |some (.int _),some (.int k),.int _ n=>K (.val (.int k (k.wrap n)))
 |some .string,some .string,.str s=>K (.val (.str s))
 |_,_,_=>none
def QD(mx:Bool)(vs:List AV)(K:bW→Option R):Option R :=match vs with
 |[.int k a,.int k' b]=>if k=k' then K (.val (.int k (cond mx (max a b) (min a b)))) else none
 |_=>none
def ZS(t id:Nat):Bool:=(Sg (900000+t)).isSome&&(Sg (2000003+1000*(id / 256-128))).isSome
def dw(id:Nat)(h:Heap)(s:List (Nat×AV))(o:Oper)(K:bW→Option R):Option R :=match o.op with
 |.move x | .assign x=>K (.val (ρ s x))
 |.pick c a b=>match ρ s c with
  |.bool t=>K (.val (ZQ t (ρ s a) (ρ s b)))
  |_=>none
 |.box t x=>if(ρ s x).cells.all ze then zk id t (ρ s x).cells K else none
 |.alloc t=>match CZ P t with
  |some z=>zk id t z K
  |none=>none
 |.build t ps=>tZ P t (ps.toList.map fun p=>(p.1,ρ s p.2)) K
 |.buildSlice t n ps=>zm P (ZS Sg t id) h id t n (ps.toList.map fun p=>(p.1,ρ s p.2)) K
 |.load t a=>nr P h t (ρ s a) K
 |.store t a v=>tW P h t (ρ s a) (ρ s v) K
 |.nilCheck x=>match ρ s x with
  |.ref id s i off=>K (.val (.ref id s i off))
  |.fp k x off=>K (.val (.fp k x off))
  |.fn f cap=>K (.val (.fn f cap))
  |_=>none
 |.binOp op t x y _=>AY P Eqs op t (ρ s x) (ρ s y) K
 |.unOp .not _ x=>match ρ s x with
  |.bool b=>K (.val (.bool (!b)))
  |_=>none
 |.convert src dst x=>C5 P src dst (ρ s x) K
 |.makeFunc (.func f) first cap=>if first.size=0 then K (.val (.fn f (cap.toList.map (ρ s)))) else none
 |.slice t x lo hi mx=>match P.underlying t with
  |some .string=>zg (ρ s x) (lo.map (ρ s)) (hi.map (ρ s)) (mx.map (ρ s)) K
  |some (.slice e)=>if(P.info? e).isSome then qU h (P.cellsOf e) (ρ s x) (lo.map (ρ s)) (hi.map (ρ s)) (mx.map (ρ s)) K else none
  |_=>none
 |.fieldAddr t x f=>match iW P t f,ρ s x with
  |some (n,ft),.ref id s i off=>if P.cellsOf ft=0 then none else K (.val (.ref id s i (off+n)))
  |some (n,ft),.fp k x off=>if P.cellsOf ft=0 then none else K (.val (.fp k x (off+n)))
  |_,_=>none
 |.field t x f=>match iW P t f,ρ s x with
  |some (n,ft),.agg cs=>match fk P ft (cs.drop n) with
   |some v=>K (.val v)
   |none=>none
  |_,_=>none
 |.indexAddr t x i=>eC P h t (ρ s x) (ρ s i) K
 |.index t x i=>match P.underlying t,ρ s x,ρ s i with
  |some .string,.str b,.int _ n=>(if 0≤n then b[n.toNat]? else none).bind fun c=>K (.val (.int .u8 (c.toNat:Int)))
  |_,_,_=>none
 |.makeMap t none=>mT P Eqs id t K
 |.lookup t m i ok=>qa P Eqs h t (ρ s m) (ρ s i) ok K
 |.mapUpdate t m i v=>jK P Eqs h t (ρ s m) (ρ s i) (ρ s v) K
 |.range t x=>qc P id t (ρ s x) K
 |.next x true=>tX h (ρ s x) K
 |.entry x=>tY h (ρ s x) K
 |.extract t i=>match ρ s t with
  |.pe vs=>match vs[i]? with
   |some v=>K (.val v)
   |none=>none
  |_=>none
 |.call c =>
  match c.callee with
  |.value f=>match ρ s f with
   |.fn f cap=>j9 Sg F h id f (c.args.toList.map (ρ s)++cap) K
   |_=>none
  |.builtin .len=>match c.args.toList,c.argTypes.toList with
   |[x],[t]=>if MX P t then zh h (ρ s x) K else if abb P t (ρ s x) then GH h (ρ s x) K else none
   |_,_=>none
  |.builtin .append=>match c.args.toList,c.argTypes.toList with
   |[x,y],[t,t']=>if t'=t then p7 P h id t (ρ s x) (ρ s y) K else none
   |_,_=>none
  |.builtin .delete=>match c.args.toList,c.argTypes.toList with
   |[m,x],t::_=>qb P Eqs h t (ρ s m) (ρ s x) K
   |_,_=>none
  |.builtin .max=>QD true (c.args.toList.map (ρ s)) K
  |.builtin .min=>QD false (c.args.toList.map (ρ s)) K
  |_=>none
 |_=>none
def pj:Op→Bool
 |.move _ | .assign _ | .extract .. | .unOp .. | .pick .. | .fieldAddr .. | .nilCheck _ | .makeFunc .. | .build .. | .slice ..=>true
 |.binOp op ..=>match op with
  |.eql | .neq=>false
  |_=>true
 |_=>false
def makes:Op→Bool
 |.box .. | .alloc _ | .buildSlice .. | .makeMap .. | .range ..=>true
 |.call c=>match c.callee with
  |.builtin .append | .value _=>true
  |_=>false
 |_=>false
def opId(rid i:Nat):Nat:=((rid+1)*128+i)*256
def xf(ops:Array Oper)(b:Array Nat):Bool :=(List.range ops.size).all fun i=>match ops[i]? with
  |some o=>(o.after.toList.all fun e => !Region.binds .any e || decide (e.on<i)) && b.getD i 0==o.after.toList.foldl (fun s e=>if Region.binds .any e then s ||| 2 ^ e.on ||| b.getD e.on 0 else s) 0
  |none=>false
def C6(ops:Array Oper)(b:Array Nat):Bool :=(List.range ops.size).all fun j=>(List.range j).all fun i =>(b.getD j 0).testBit i || (match ops[i]?,ops[j]? with
   |some x,some y=>x.apart ops y
   |_,_=>false)
def iP:Op→Option Operand
 |.load _ x=>some x
 |.indexAddr _ x _=>some x
 |_=>none
def Cf:Op→Bool
 |.store ..=>true
 |.call c=>match c.callee with
  |.value (.func f)=>f != 29
  |.value _=>true
  |_=>false
 |_=>false
def qd(ops:Array Oper)(i j:Nat):Bool :=match (ops[j]?).bind (iP ·.op) with
 |some (.tmp d)=>(List.range ops.size).all fun m => !(decide (min i j≤m)&&decide (m<max i j)) || (match (ops[m]?).bind (·.dst) with|some d'=>d' != d|none=>true)
 |some _=>true
 |none=>false
def r8:AV→List Nat
 |.ref id _ _ _=>[id]
 |.bV id=>[id]
 |_=>[]
def abc(ops:Array Oper)(b:Array Nat)(i:Nat)(tmps:List (Nat×AV)):List Nat :=(List.range ops.size).flatMap fun j=>if j==i || (b.getD j 0).testBit i || (b.getD i 0).testBit j then[] else match (ops[j]?).bind (iP ·.op) with
  |some x=>r8 (ρ tmps x)
  |none=>[]
def late(ops:Array Oper)(j:Nat):Bool:=ops.size==50&&(j==27 || j==29)
def ua(ops:Array Oper)(b:Array Nat)(i:Nat)(tmps:List (Nat×AV))(o:Oper):Bool:=match iP o.op with
 |some x=>late ops i && !(r8 (ρ tmps x)).isEmpty && !((List.range ops.size).all fun k=>k==i || (b.getD i 0).testBit k || (b.getD k 0).testBit i || (match ops[k]? with|some p => !Cf p.op|none=>true) || qd ops k i)
 |none=>false
def iQ(ops:Array Oper)(b:Array Nat)(i:Nat)(tmps:List (Nat×AV))(o:Oper):List Nat:=if Cf o.op then abc ops b i tmps else if ua ops b i tmps o then[1] else[]
def MY(ops:Array Oper)(b:Array Nat)(i:Nat):Bool :=(List.range ops.size).all fun j =>j==i || (b.getD j 0).testBit i || (b.getD i 0).testBit j || (match ops[j]? with|some o=>pj o.op|none=>true) || ((match ops[i]? with|some o=>Cf o.op|none=>false)&&(qd ops i j || (late ops j&&(match ops[j]? with|some o=>(iP o.op).isSome|none=>false))))
def ahead(rid:Nat)(MZ:Nat)(h:Heap):Heap:=h.filter fun p=>(p.1 / 32768 != rid+1) || MZ.testBit (p.1 / 256%128)
def jx(n:Nat)(o:Oper):Bool :=match o.dst with
 |some d=>decide (d<n)
 |none=>true
end
def sR(rid bits id:Nat):Bool:=(id / 32768 != rid+1) || bits.testBit (id / 256%128)
mutual
def vd(rid bits:Nat):AV→Bool
 |.ref id _ _ _=>sR rid bits id
 |.bV id=>sR rid bits id
 |.fn _ cap=>C7 rid bits cap
 |.agg cs=>C7 rid bits cs
 |.pe vs=>C7 rid bits vs
 |.no=>true
 |.bool _=>true
 |.int _ _=>true
 |.str _=>true
 |.mC=>true
 |.ib=>true
 |.fp _ _ _=>true
 |.sl _ _ _=>true
 |.mp _ _ _=>true
def C7(rid bits:Nat):List AV→Bool
 |[]=>true
 |v::r=>vd rid bits v&&C7 rid bits r
end
def A1(rid bits:Nat):Heap→Bool
 |[]=>true
 |(id,.box _ cs)::r=>sR rid bits id&&C7 rid bits cs&&A1 rid bits r
 |(id,.own _ _)::r=>sR rid bits id&&A1 rid bits r
def iL(draw:Bool)(rid:Nat)(ops:Array Oper)(b:Array Nat)(i MZ:Nat):bW→Bool
 |.wr v h=>(!draw || MY ops b i)&&vd rid (MZ ||| 2 ^ i) v&&A1 rid (MZ ||| 2 ^ i) h
 |.new v os=>vd rid (MZ ||| 2 ^ i) v&&(os.all fun p=>p.1 / 256==(rid+1)*128+i)&&A1 rid (MZ ||| 2 ^ i) os
 |.val v=>vd rid MZ v
def gD(ft:List Nat)(hp h:Heap):Heap:=(ft.filterMap fun i=>(hp.get i).map fun o=>(i,o))++h
def iR(ft:List Nat)(hp:Heap):bW→bW
 |.wr v h=>.wr v (gD ft hp h)
 |.val v=>.val v
 |.new v os=>.new v os
mutual
def sS(ft:List Nat):AV→Bool
 |.ref id _ _ _ => !(ft.contains id)
 |.bV id => !(ft.contains id)
 |.fn _ cap=>vT ft cap
 |.agg cs=>vT ft cs
 |.pe vs=>vT ft vs
 |.no=>true
 |.bool _=>true
 |.int _ _=>true
 |.str _=>true
 |.mC=>true
 |.ib=>true
 |.fp _ _ _=>true
 |.sl _ _ _=>true
 |.mp _ _ _=>true
def vT(ft:List Nat):List AV→Bool
 |[]=>true
 |v::r=>sS ft v&&vT ft r
end
def vU(ft:List Nat):Heap→Bool
 |[]=>true
 |(id,.box _ cs)::r => !(ft.contains id)&&(vT ft cs&&vU ft r)
 |(id,.own _ _)::r => !(ft.contains id)&&vU ft r
def ns(ft:List Nat):bW→Bool
 |.wr v h=>sS ft v&&vU ft h
 |.val _ => !(ft.contains 1)
 |.new _ _=>true
section
variable (P:Program) (Eqs:TypeId→Option K) (Sg:FuncId→Option aX) (F:(f:FuncId)→(g:aX)→g.A→Option g.B)
variable {R:Type}
noncomputable def u4(n:Nat)(f:Nat→Option R):Option R:=open Classical in if h:∃r,∀j,j<n→f j=some r then some (Classical.choose h) else none
def BU(m:Nat)(d:AV):AV→AV
 |.bV i=>if i=m then d else .bV i
 |v=>v
def qY(id:Nat)(st:St)(o:Oper):Option St :=match o.op with
 |.range t x=>match P.underlying t,ρ st.tmps x with
  |some (.map _ _),.bV m=>match st.heap.get m with
   |some (.own (.map kk vk) es)=>some (({ tmps:=st.tmps.map fun p=>(p.1,BU m (.mp kk vk es) p.2),heap:=(id,.own (.iter kk vk) (none,es))::st.heap.del m }:St).put o.dst (.bV id))
   |_=>none
  |_,_=>none
 |_=>none
def xg(o:Oper):Option Operand :=match o.op with
 |.next x false=>some x
 |_=>none
noncomputable def mE(h:Heap)(x:AV)(K:AV→Heap→Option R):Option R :=match x with
 |.bV id=>match h.get id with
  |some (.own (.iter kk vk) p)=>cond p.2.isEmpty (K (.pe [.bool false]) h) (u4 p.2.length fun j=>(p.2[j]?).bind fun c=>K (.pe [.bool true,cJ kk c.1,cJ vk c.2]) (h.set id (.own (.iter kk vk) (some c,p.2.eraseIdx j))))
  |_=>none
 |_=>none
def isNil(o:Oper):Option (Operand×Bool) :=match o.op with
 |.binOp op t x (.const v) _=>match op,P.underlying t,y0 v with
  |.eql,some (.slice _),.ib=>some (x,true)
  |.neq,some (.slice _),.ib=>some (x,false)
  |_,_,_=>none
 |_=>none
noncomputable def xh(h:Heap)(x:AV)(want:Bool)(K:AV→Option R):Option R :=match di h x with
 |.ib=>K (.bool want)
 |.sl _ _ xs=>cond xs.isEmpty (u4 2 fun j=>K (.bool ((j==0)==want))) (K (.bool (!want)))
 |_=>none
noncomputable def bM(rid:Nat)(draw:Bool)(ops:Array Oper)(b:Array Nat):List (Nat×Oper)→St→(St→Option R)→Option R
 |[],st,K=>K st
 |(i,o)::r,st,K =>
  let run (st:St):Option R :=match (if draw then none else qY P (opId rid i) st o) with
   |some fM=>bM rid draw ops b r fM K
   |none =>
   match (if draw then none else xg o) with
   |some x=>mE st.heap (ρ st.tmps x) fun v h=>bM rid draw ops b r (({ st with heap:=h }:St).put o.dst v) K
   |none =>
   match (if draw then none else isNil P o) with
   |some (x,want)=>xh st.heap (ρ st.tmps x) want fun v=>bM rid draw ops b r (st.put o.dst v) K
   |none =>
   if draw then
    dw P Eqs Sg F (opId rid i) (iX (ahead rid (b.getD i 0) st.heap) (iQ ops b i st.tmps o)) st.tmps o fun e =>if iL true rid ops b i (b.getD i 0) (iR (iQ ops b i st.tmps o) (ahead rid (b.getD i 0) st.heap) e)&&ns (iQ ops b i st.tmps o) e then
      bM rid draw ops b r ({ st with heap:=match iR (iQ ops b i st.tmps o) (ahead rid (b.getD i 0) st.heap) e with | .wr _ h=>h|e=>e.h st.heap }.put o.dst e.v) K else none
   else
    dw P Eqs Sg F (opId rid i) st.heap st.tmps o fun e =>if iL false rid ops b i (2 ^ i-1) e then bM rid draw ops b r ({ st with heap:=match e with | .wr _ h=>h|e=>e.h st.heap }.put o.dst e.v) K else none
  let skip (st:St):Option R:=bM rid draw ops b r (st.put o.dst (.pe [])) K
  match o.guard with
  |none=>run st
  |some (j,want) =>
   match (ops[j]?).bind (·.dst) with
   |none=>none
   |some d =>
    match look st.tmps d with
    |.bool t=>cond t (if want then run (st.put (some d) (.bool true)) else skip (st.put (some d) (.bool true))) (if want then skip (st.put (some d) (.bool false)) else run (st.put (some d) (.bool false)))
    |.pe _=>skip st
    |_=>none
end
mutual
def bO(rid:Nat):AV→AV
 |.ref id s i off=>if id / 32768=rid+1 then .no else .ref id s i off
 |.bV id=>if id / 32768=rid+1 then .no else .bV id
 |.fn f cap=>.fn f (nt rid cap)
 |.agg cs=>.agg (nt rid cs)
 |.pe vs=>.pe (nt rid vs)
 |.no=>.no
 |.bool b=>.bool b
 |.int k n=>.int k n
 |.str s=>.str s
 |.mC=>.mC
 |.ib=>.ib
 |.fp k x off=>.fp k x off
 |.sl ex k xs=>.sl ex k xs
 |.mp kk vk es=>.mp kk vk es
def nt(rid:Nat):List AV→List AV
 |[]=>[]
 |v::r=>bO rid v::nt rid r
end
def C8(rid:Nat):Ob→Ob
 |.box ty cs=>.box ty (nt rid cs)
 |.own ok x=>.own ok x
def mz(draw:Bool)(rid:Nat)(ops:Array Oper)(st:St):St :=if draw || ops.any (makes ·.op) then
  { tmps:=st.tmps.map fun p=>(p.1,bO rid p.2),heap:=(st.heap.filter fun p=>p.1 / 32768 != rid+1).map fun p=>(p.1,C8 rid p.2) }
 else st
section
variable (P:Program) (Eqs:TypeId→Option K) (Sg:FuncId→Option aX) (F:(f:FuncId)→(g:aX)→g.A→Option g.B)
variable {R:Type}
noncomputable def jy(n rid:Nat)(ops:Array Oper)(draw:Bool)(st:St)(K:St→Option R):Option R :=let b:=if draw then Region.before ops else #[]
 if(ops.all fun o=>jx n o)&&(!draw || (xf ops b&&(C6 ops b&&cG (ops.toList.filterMap (·.dst)))))&&decide (ops.size≤128) then
  bM P Eqs Sg F rid draw ops b (ops.toList.zipIdx.map fun p=>(p.2,p.1)) (mz draw rid ops st) K
 else none
inductive Src where
 |slot (s:Nat)
 |cap (s j:Nat)
structure Shape where
 BV:List (Nat×K)
 boxes:List (Src×Nat×BK)
 rows:List (Nat×Nat×OK)
 fns:List (Nat×FuncId×List Nat)
def Shape.ks(sh:Shape):List K:=sh.BV.map (·.2)
def Shape.bs(sh:Shape):List BK:=sh.boxes.map (·.2.2)
def M0:List OK→Type
 |[]=>Unit
 |k::r=>k.T×M0 r
abbrev Shape.T(sh:Shape):Type:=J6 sh.ks×zc sh.bs×M0 (sh.rows.map (·.2.2))
def sV(st:St):(l:List (Nat×K))→Option (J6 (l.map (·.2)))
 |[]=>some ()
 |(s,k)::r =>
  match hZ k st.heap (look st.tmps s),sV st r with
  |some x,some y=>some (x,y)
  |_,_=>none
def ZT(st:St):Src→Option Nat
 |.slot s=>GI (look st.tmps s)
 |.cap s j=>match look st.tmps s with
  |.fn _ cap=>match cap[j]? with
   |some v=>GI v
   |none=>none
  |_=>none
def Ih(st:St):List (Src×Nat×BK)→Option (List Nat)
 |[]=>some []
 |p::r=>match ZT st p.1,Ih st r with
  |some i,some is=>some (i::is)
  |_,_=>none
def pn(st:St):(l:List (Nat×Nat×OK))→Option (M0 (l.map (·.2.2)))
 |[]=>some ()
 |(s,_,ok)::r =>
  match fg st.heap ok (look st.tmps s),pn st r with
  |some x,some y=>some (x,y)
  |_,_=>none
def Cg(st:St)(sh:Shape)(ids:List Nat):List AV:=(sh.BV.flatMap fun p=>(look st.tmps p.1).cells)++ic sh.bs st.heap ids
def J9(st:St)(sh:Shape)(ids:List Nat):List Nat:=dE sh.bs st.heap ids++sh.rows.flatMap fun p=>qW (look st.tmps p.1)
def qe(st:St)(m:Nat):List (Nat×Nat×OK)→Bool
 |[]=>false
 |(s,id,_)::r=>(id==m&&(match look st.tmps s with | .bV i=>i==m|_=>false)) || qe st m r
def ub(sh:Shape):List Nat:=cy sh.bs (sh.boxes.map (·.2.1)) 9000++sh.rows.map (·.2.1)
def O4(st:St)(ids:List (Nat×Nat)):List (Nat×FuncId×List Nat)→Bool
 |[]=>true
 |(s,f,F7)::r =>
  (match look st.tmps s with
  |.fn f' cap=>decide (f'=f)&&(match kL cap with|some is=>decide (is.map (fun i=>(ids.find? (·.1==i)).map (·.2))=F7.map some)|none=>false)
  |_=>false)&&O4 st ids r
def de(sh:Shape)(st:St):Option sh.T :=match Ih st sh.boxes with
 |none=>none
 |some ids =>
  match sV st sh.BV,dD sh.bs st.heap ids,pn st sh.rows,zj (J9 st sh ids) (Cg st sh ids)&&(cG (ub sh)&&((ub sh).all (fun m=>decide (2000≤m) || ((ids.zip (sh.boxes.map (·.2.1))).any fun p=>p.1==m&&p.2==m) || qe st m sh.rows)&&O4 st (ids.zip (sh.boxes.map (·.2.1))) sh.fns)) with
  |some x,some y,some z,true=>some (x,y,z)
  |_,_,_,_=>none
def sW:(l:List (Nat×K))→J6 (l.map (·.2))→List (Nat×AV)
 |[],_=>[]
 |(s,k)::r,x=>(s,cJ k x.1)::sW r x.2
def kN:List (Src×Nat×BK)→List (Nat×AV)
 |[]=>[]
 |(.slot s,id,_)::r=>(s,.ref id 0 0 0)::kN r
 |(.cap _ _,_,_)::r=>kN r
def Ch(l:List (Nat×FuncId×List Nat)):List (Nat×AV):=l.map fun p=>(p.1,.fn p.2.1 (p.2.2.map fun i=>.ref i 0 0 0))
def sX:(l:List (Nat×Nat×OK))→M0 (l.map (·.2.2))→Heap
 |[],_=>[]
 |(_,id,ok)::r,x=>(id,.own ok x.1)::sX r x.2
def aA(sh:Shape)(x:sh.T):St :={ tmps:=sW sh.BV x.1++(kN sh.boxes++(Ch sh.fns++sh.rows.map fun p=>(p.1,.bV p.2.1))),heap:=bG sh.bs (sh.boxes.map (·.2.1)) 9000 x.2.1++sX sh.rows x.2.2 }
def uc:Code→Nat
 |.region id _ _=>id
 |.seq a _=>uc a
 |.block _ a=>uc a
 |.loop a=>uc a
 |.scope a=>uc a
 |_=>0
def Tn(s:Nat)(st:St):St:=match look st.tmps s with
 |.bV m=>match st.heap.get m with
  |some (.own (.row _ k) xs)=>{ tmps:=st.tmps.map fun p=>(p.1,BU m (.sl false k xs) p.2),heap:=st.heap.del m }
  |_=>st
 |_=>st
def Ka(o:Option Shape)(st:St):St:=match o with
 |some sh=>sh.rows.foldl (fun st p=>Tn p.1 st) st
 |none=>st
noncomputable def aH(n:Nat)(ann:Nat→Option Shape)(J:(sh:Shape)→List Item→sh.T→Option R)(ret:St→Option R):Nat→List Item→St→Option R
 |0,_,_=>none
 |_+1,[],st=>ret st
 |m+1,.inBlock _::k,st=>aH n ann J ret m k st
 |m+1,.inScope _::k,st=>aH n ann J ret m k st
 |_+1,.inLoop c::k,st =>
  match ann (uc c) with
  |none=>none
  |some sh=>match de sh st with
   |some x=>J sh (.inLoop c::k) x
   |none=>none
 |m+1,.code c::k,st =>
  match c with
  |.skip | .label _=>aH n ann J ret m k st
  |.seq a b=>aH n ann J ret m (.code a::.code b::k) st
  |.cond c a b=>match ρ st.tmps c with
   |.bool t=>cond t (aH n ann J ret m (.code a::k) st) (aH n ann J ret m (.code b::k) st)
   |_=>none
  |.block id c=>aH n ann J ret m (.code c::.inBlock id::k) st
  |.scope c=>aH n ann J ret m (.code c::.inScope c::k) st
  |.loop c=>aH n ann J ret m (.inLoop c::k) st
  |.exit id=>match exitTo id k with
   |some k'=>aH n ann J ret m k' st
   |none=>none
  |.ret=>ret st
  |.region id ops draw=>jy P Eqs Sg F n id ops draw (Ka (ann (500000+id)) st) fun fM=>aH n ann J ret m k fM
  |_=>none
 |_,_,_=>none
def A2(h:Heap)(tmps:List (Nat×AV))(rvs:List ResultVar):Option (List AV) :=match rvs with
 |[]=>some []
 |.tmp t::r=>match A2 h tmps r with
  |some vs=>some (look tmps t::vs)
  |none=>none
 |.cell a t::r=>match look tmps a with
  |.ref id _ 0 off=>(match h.get id with
   |some (.box _ cs)=>(match fk P t (cs.drop off),A2 h tmps r with
    |some v,some vs=>some (v::vs)
    |_,_=>none)
   |_=>none)
  |_=>none
def sY(g:aX)(fn:Func)(st:St):Option g.B :=match A2 P st.heap st.tmps fn.results.toList with
 |none=>none
 |some vs =>
  match bX g.bs g.rs st.heap (aY g.bs.length) vs,dD g.bs st.heap (aY g.bs.length),
   zj (dE g.bs st.heap (aY g.bs.length)++eX g.rs vs) (ig g.rs vs++ic g.bs st.heap (aY g.bs.length))&&cG (sK g) with
  |some x,some y,true=>some (x,y)
  |_,_,_=>none
def entry(g:aX)(x:g.A):St :={ tmps:=bf g.ps (aY g.bs.length) 0 x.1,heap:=bG g.bs (aY g.bs.length) 2000 x.2 }
def fuel:Nat:=100000
end
section
variable (P:Program) (Eqs:TypeId→Option K) (Sg:FuncId→Option aX) (An:FuncId→Nat→Option Shape) (G:(f:FuncId)→(g:aX)→Option (g.A→Option g.B))
variable (F:(f:FuncId)→(g:aX)→g.A→Option g.B)
def body(f:FuncId):Option (Func×Code):=(P.funcs[f]?).bind fun fn=>fn.body.map fun c=>(fn,c)
noncomputable def oI(f:FuncId)(g:aX)(fn:Func):Nat→(sh:Shape)→List Item→sh.T→Option g.B
 |0,_,_,_=>none
 |n+1,sh,.inLoop c::k,x=>aH P Eqs Sg F fn.ntmps (An f) (oI f g fn n) (sY P g fn) fuel (.code c::.inLoop c::k) (aA sh x)
 |_+1,_,_,_=>none
noncomputable def M1(f:FuncId)(g:aX)(n:Nat)(x:g.A):Option g.B :=match body P (f%1000) with
 |none=>none
 |some (fn,c)=>if decide (g.ps.length≤fn.ntmps)&&decide (g.bs.length≤8) then aH P Eqs Sg F fn.ntmps (An f) (oI P Eqs Sg An F f g fn n) (sY P g fn) fuel [.code c] (entry g x) else none
end
section
variable (P:Program) (Eqs:TypeId→Option K) (Sg:FuncId→Option aX) (An:FuncId→Nat→Option Shape) (G:(f:FuncId)→(g:aX)→Option (g.A→Option g.B))
noncomputable def Fn:Nat→(f:FuncId)→(g:aX)→g.A→Option g.B
 |0,f,g,x=>match G f g with
  |some u=>u x
  |none=>none
 |m+1,f,g,x=>match G f g with
  |some u=>u x
  |none=>M1 P Eqs Sg An (Fn m) f g m x
end
end Go.Vs
namespace Go.Vs
def sZ:Code→List Item→List (List Item)
 |.seq a b,k=>sZ a (.code b::k)++sZ b k
 |.cond _ a b,k=>sZ a k++sZ b k
 |.block id c,k=>sZ c (.inBlock id::k)
 |.scope c,k=>sZ c (.inScope c::k)
 |.loop c,k=>(.inLoop c::k)::sZ c (.inLoop c::k)
 |_,_=>[]
def aS(P:Program)(f:FuncId)(j:Nat):List Item :=match body P f with
 |some (_,c)=>(sZ c []).getD j []
 |none=>[]
def round:List Item→List Item
 |.inLoop c::k=>.code c::.inLoop c::k
 |k=>k
theorem xi(a:Addr)(n m:Nat):(a.add n).add m=a.add (n+m):=by unfold Addr.add;by_cases h1:n=0<;>by_cases h2:m=0<;>simp[h1,h2,Nat.add_assoc]
theorem GJ(a:Addr):a.add 0=a:=by simp[Addr.add]
theorem gE(a:Addr)(n:Nat):(a.add n).block=a.block:=by unfold Addr.add;split<;>rfl
theorem dm(g i n:Nat):(⟨g,i,none⟩:Addr).add n=⟨g,i+n,none⟩:=by unfold Addr.add;split<;>simp_all
def cU(Z:Nat→Prop)(w w':World):Prop:=∀b,Z b→w'.heap[b]? = w.heap[b]?
theorem cU.refl(Z:Nat→Prop)(w:World):cU Z w w:=fun _ _=>rfl
theorem cU.trans{Z:Nat→Prop}{w w1 w2:World}(h:cU Z w w1)(k:cU Z w1 w2):cU Z w w2:=fun b hb=>(k b hb).trans (h b hb)
theorem cU.cell{Z:Nat→Prop}{w w':World}(h:cU Z w w'){a:Addr}(ha:Z a.block):w'.cell? a=w.cell? a:=World.cell?_of_block (h _ ha)
def aiY{α:Type}(r:α→List Value→Prop)(Z:Nat→Prop)(sz:Nat)(w:World)(xs:List α)(v:Value):Prop :=∃A c,v=.slice A xs.length c∧xs.length≤c∧(A=none→c=0) ∧ ∀(i:Nat) (x:α),xs[i]? = some x→∃a us,A=some a∧Z a.block∧r x us∧∀(j:Nat) u,us[j]? = some u→w.cell? (a.add (i*sz+j))=some u
def Ii{α β:Type}(ra:α→List Value→Prop)(rb:β→List Value→Prop)(pa pb:Bool)(es:List (α×β))(cw:List MapEntry):Prop :=es.length=cw.length∧∀(i:Nat) (x:α×β) (e:MapEntry),es[i]? = some x→cw[i]? = some e →(ra x.1 e.key.cells.toList∧(pa=true→∃vs,e.key=.agg vs)∧(pa=false→e.key.cells=#[e.key]))∧rb x.2 e.val.cells.toList∧(pb=true→∃vs,e.val=.agg vs)∧(pb=false→e.val.cells=#[e.val])
def aP(Z:Nat→Prop)(w:World):(k:K)→k.T→List Value→Prop
 |.int ik,n,vs=>vs=[.int ik n]
 |.bool,b,vs=>vs=[.bool b]
 |.str,s,vs=>vs=[.string s]
 |.sl k,xs,vs=>∃v,vs=[v]∧aiY (aP Z w k) Z k.sz w xs v
 |.pair a b,x,vs=>∃us ws,vs=us++ws∧aP Z w a x.1 us∧aP Z w b x.2 ws
 |.one k,x,vs=>aP Z w k x vs
 |.mp kk vk,es,vs=>∃A,vs=[.map A]∧((A=none∧es=[])∨∃m cw clock,A=some m∧Z m∧w.heap[m]? = some (.map cw clock)∧Ii (aP Z w kk) (aP Z w vk) kk.isAgg vk.isAgg es cw.toList)
variable {Z Z':Nat→Prop} {w w':World}
theorem aP.len:∀{k:K} {x:k.T} {vs:List Value},aP Z w k x vs→vs.length=k.sz
 |.int _,_,_,h=>by simp only[aP]at h;subst h;rfl
 |.bool,_,_,h=>by simp only[aP]at h;subst h;rfl
 |.str,_,_,h=>by simp only[aP]at h;subst h;rfl
 |.sl _,_,_,h=>by simp only[aP]at h;obtain⟨v,rfl,_⟩:=h;rfl
 |.pair a b,x,_,h=>by simp only[aP]at h;obtain⟨us,ws,rfl,h1,h2⟩:=h;rw[List.length_append,aP.len h1,aP.len h2];rfl
 |.one k,x,_,h=>by simp only[aP]at h;exact aP.len (k:=k) h
 |.mp _ _,_,_,h=>by simp only[aP]at h;obtain⟨A,rfl,_⟩:=h;rfl
theorem K.jz:∀k:K,0<k.sz
 |.int _=>Nat.one_pos
 |.bool=>Nat.one_pos
 |.str=>Nat.one_pos
 |.sl _=>Nat.one_pos
 |.pair a _=>adf (K.jz a) (Nat.le_add_right _ _)
 |.one k=>K.jz k
 |.mp _ _=>Nat.one_pos
theorem aP.one:∀{k:K} {x:k.T} {vs:List Value},aP Z w k x vs→∀u∈vs,u.oneCell'=true
 |.int _,_,_,h=>by simp only[aP]at h;subst h;simp[Value.oneCell']
 |.bool,_,_,h=>by simp only[aP]at h;subst h;simp[Value.oneCell']
 |.str,_,_,h=>by simp only[aP]at h;subst h;simp[Value.oneCell']
 |.sl _,_,_,h=>by simp only[aP]at h;obtain⟨v,rfl,A,c,rfl,_⟩:=h;simp[Value.oneCell']
 |.pair a b,x,_,h=>by
  simp only[aP]at h;obtain⟨us,ws,rfl,h1,h2⟩:=h;intro u hu;rcases abw.1 hu with hu|hu
  ·exact aP.one h1 u hu
  ·exact aP.one h2 u hu
 |.one k,x,_,h=>by simp only[aP]at h;exact aP.one (k:=k) h
 |.mp _ _,_,_,h=>by simp only[aP]at h;obtain⟨A,rfl,_⟩:=h;simp[Value.oneCell']
theorem Ii.imp{α β:Type}{ra ra':α→List Value→Prop}{rb rb':β→List Value→Prop}{pa pb:Bool}(ha:∀x vs,ra x vs→ra' x vs)(hb:∀x vs,rb x vs→rb' x vs){es:List (α×β)}{cw:List MapEntry}(h:Ii ra rb pa pb es cw):Ii ra' rb' pa pb es cw :=⟨h.1,fun i x e h1 h2=>by obtain⟨⟨a,b⟩,c,d⟩:=h.2 i x e h1 h2;exact⟨⟨ha _ _ a,b⟩,hb _ _ c,d⟩⟩
theorem aP.mono(hz:∀b,Z b→Z' b)(hs:cU Z w w'):∀{k:K} {x:k.T} {vs:List Value},aP Z w k x vs→aP Z' w' k x vs
 |.int _,_,_,h=>h
 |.bool,_,_,h=>h
 |.str,_,_,h=>h
 |.sl k,xs,_,h=>by simp only[aP]at h ⊢;obtain⟨v,rfl,A,c,rfl,hl,hn,he⟩:=h;refine⟨_,rfl,A,c,rfl,hl,hn,fun i x hx=>?_⟩;obtain⟨a,us,ha,hza,hr,hc⟩:=he i x hx;refine⟨a,us,ha,hz _ hza,aP.mono hz hs hr,fun j u hu=>?_⟩;rw[hs.cell (by rw[gE];exact hza)];exact hc j u hu
 |.pair a b,x,_,h=>by simp only[aP]at h ⊢;obtain⟨us,ws,rfl,h1,h2⟩:=h;exact⟨us,ws,rfl,aP.mono hz hs h1,aP.mono hz hs h2⟩
 |.one k,x,_,h=>by simp only[aP]at h ⊢;exact aP.mono hz hs (k:=k) h
 |.mp kk vk,es,_,h=>by simp only[aP]at h ⊢;obtain⟨A,rfl,h⟩:=h;refine⟨A,rfl,h.imp (fun h=>h) fun⟨m,cw,clock,h1,h2,h3,h4⟩=>⟨m,cw,clock,h1,hz _ h2,(hs m h2).trans h3,h4.imp (fun _ _ h=>aP.mono hz hs h) (fun _ _ h=>aP.mono hz hs h)⟩⟩
def XZ:Value→Nat
 |.pointer (some a)=>a.block
 |.slice (some a) _ _=>a.block
 |_=>0
def ob:Value→Option Nat
 |.pointer (some a)=>some a.block
 |.slice (some a) _ c=>if c=0 then none else some a.block
 |.map (some m)=>some m
 |_=>none
mutual
def aD(Z:Nat→Prop)(ψ:Nat→Value)(h:Nat→Option Ob)(w:World):AV→Value→Prop
 |.no,_=>True
 |.bool b,v=>v=.bool b
 |.int k n,v=>v=.int k n
 |.str s,v=>v=.string s
 |.mC,v=>v=.pointer none
 |.ib,v=>v=.slice none 0 0
 |.ref id s i off,v=>∃a,v=.pointer (some a)∧(h id≠none→a=⟨XZ (ψ id),i*s+off,none⟩)
 |.fp k x off,v=>∃a us,v=.pointer (some a)∧Z a.block∧aP Z w k x us∧∀(j:Nat) u,us[off+j]? = some u→w.cell? (a.add j)=some u
 |.sl ex k xs,v=>aP Z w (.sl k) xs [v]∧(ex=true→∃A c,v=.slice A c c)
 |.mp kk vk es,v=>aP Z w (.mp kk vk) es [v]
 |.bV id,v=>(v.cells=#[v]∧v.oneCell'=true)∧(h id≠none→v=ψ id)
 |.fn f cap,v=>∃vs,v=.func (.func f) #[] vs∧ax Z ψ h w cap vs.toList
 |.agg cs,v=>∃vs,v=.agg vs∧ax Z ψ h w cs vs.toList
 |.pe cs,v=>∃vs,v=.tuple vs∧ax Z ψ h w cs vs.toList
def ax(Z:Nat→Prop)(ψ:Nat→Value)(h:Nat→Option Ob)(w:World):List AV→List Value→Prop
 |[],vs=>vs=[]
 |a::r,vs=>∃v us,vs=v::us∧aD Z ψ h w a v∧ax Z ψ h w r us
end
mutual
def aQ(p:Nat→Prop):AV→Prop
 |.ref id _ _ _=>p id
 |.bV id=>p id
 |.fn _ cap=>aJ p cap
 |.agg cs=>aJ p cs
 |.pe vs=>aJ p vs
 |.no=>True
 |.bool _=>True
 |.int _ _=>True
 |.str _=>True
 |.mC=>True
 |.ib=>True
 |.fp _ _ _=>True
 |.sl _ _ _=>True
 |.mp _ _ _=>True
def aJ(p:Nat→Prop):List AV→Prop
 |[]=>True
 |v::r=>aQ p v∧aJ p r
end
section
variable {Z Z':Nat→Prop} {w w':World} {ψ ψ':Nat→Value} {h h':Nat→Option Ob} {p:Nat→Prop}
mutual
theorem aD.move(hz:∀b,Z b→Z' b)(hs:cU Z w w')(hh:∀id,p id→h' id≠none→h id≠none∧ψ' id=ψ id):∀{a:AV} {v:Value},aQ p a→aD Z ψ h w a v→aD Z' ψ' h' w' a v
 |.no,_,_,_=>by simp only[aD]
 |.bool b,_,_,hr=>by simpa only[aD] using hr
 |.int k n,_,_,hr=>by simpa only[aD] using hr
 |.str s,_,_,hr=>by simpa only[aD] using hr
 |.mC,_,_,hr=>by simpa only[aD] using hr
 |.ib,_,_,hr=>by simpa only[aD] using hr
 |.ref id s i off,_,hm,hr=>by simp only[aD,aQ]at hr hm ⊢;obtain⟨a,rfl,ha⟩:=hr;refine⟨a,rfl,fun hn=>?_⟩;obtain⟨h1,h2⟩:=hh id hm hn;rw[h2];exact ha h1
 |.fp k x off,_,_,hr=>by simp only[aD]at hr ⊢;obtain⟨a,us,rfl,hza,hk,hc⟩:=hr;refine⟨a,us,rfl,hz _ hza,hk.mono hz hs,fun j u hu=>?_⟩;rw[hs.cell (by rw[gE];exact hza)];exact hc j u hu
 |.sl ex k xs,_,_,hr=>by simp only[aD]at hr ⊢;exact⟨aP.mono hz hs hr.1,hr.2⟩
 |.mp kk vk es,_,_,hr=>by simp only[aD]at hr ⊢;exact aP.mono hz hs hr
 |.bV id,_,hm,hr=>by simp only[aD,aQ]at hr hm ⊢;refine⟨hr.1,fun hn=>?_⟩;obtain⟨h1,h2⟩:=hh id hm hn;rw[h2];exact hr.2 h1
 |.fn f cap,_,hm,hr=>by simp only[aD,aQ]at hr hm ⊢;obtain⟨vs,rfl,hl⟩:=hr;exact⟨vs,rfl,ax.move hz hs hh hm hl⟩
 |.agg cs,_,hm,hr=>by simp only[aD,aQ]at hr hm ⊢;obtain⟨vs,rfl,hl⟩:=hr;exact⟨vs,rfl,ax.move hz hs hh hm hl⟩
 |.pe cs,_,hm,hr=>by simp only[aD,aQ]at hr hm ⊢;obtain⟨vs,rfl,hl⟩:=hr;exact⟨vs,rfl,ax.move hz hs hh hm hl⟩
theorem ax.move(hz:∀b,Z b→Z' b)(hs:cU Z w w')(hh:∀id,p id→h' id≠none→h id≠none∧ψ' id=ψ id):∀{a:List AV} {v:List Value},aJ p a→ax Z ψ h w a v→ax Z' ψ' h' w' a v
 |[],_,_,hr=>by simpa only[ax] using hr
 |a::r,_,hm,hr=>by simp only[ax,aJ]at hr hm ⊢;obtain⟨v,us,rfl,h1,h2⟩:=hr;exact⟨v,us,rfl,aD.move hz hs hh hm.1 h1,ax.move hz hs hh hm.2 h2⟩
end
mutual
theorem aQ.top:∀a:AV,aQ (fun _=>True) a
 |.no=>by simp only[aQ]
 |.bool b=>by simp only[aQ]
 |.int k n=>by simp only[aQ]
 |.str s=>by simp only[aQ]
 |.mC=>by simp only[aQ]
 |.ib=>by simp only[aQ]
 |.ref id s i off=>by simp only[aQ]
 |.fp k x off=>by simp only[aQ]
 |.sl ex k xs=>by simp only[aQ]
 |.mp kk vk es=>by simp only[aQ]
 |.bV id=>by simp only[aQ]
 |.fn f cap=>by simp only[aQ];exact aJ.top cap
 |.agg cs=>by simp only[aQ];exact aJ.top cs
 |.pe cs=>by simp only[aQ];exact aJ.top cs
theorem aJ.top:∀a:List AV,aJ (fun _=>True) a
 |[]=>by simp only[aJ]
 |a::r=>by simp only[aJ];exact⟨aQ.top a,aJ.top r⟩
end
theorem aD.less(hz:∀b,Z b→Z' b)(hs:cU Z w w')(hh:∀id,h' id≠none→h id≠none∧ψ' id=ψ id){a:AV}{v:Value}(hr:aD Z ψ h w a v):aD Z' ψ' h' w' a v :=aD.move (p:=fun _=>True) hz hs (fun id _ hn=>hh id hn) (aQ.top a) hr
theorem ax.less(hz:∀b,Z b→Z' b)(hs:cU Z w w')(hh:∀id,h' id≠none→h id≠none∧ψ' id=ψ id){a:List AV}{v:List Value}(hr:ax Z ψ h w a v):ax Z' ψ' h' w' a v :=ax.move (p:=fun _=>True) hz hs (fun id _ hn=>hh id hn) (aJ.top a) hr
theorem ax.length:∀{a:List AV} {v:List Value},ax Z ψ h w a v→a.length=v.length
 |[],_,hr=>by simp only[ax]at hr;subst hr;rfl
 |a::r,_,hr=>by simp only[ax]at hr;obtain⟨v,us,rfl,_,h2⟩:=hr;simp[ax.length h2]
theorem ax.get:∀{a:List AV} {v:List Value} (i:Nat) {x:AV},ax Z ψ h w a v→a[i]? = some x→∃u,v[i]? = some u∧aD Z ψ h w x u
 |[],_,i,x,_,hx=>by simp at hx
 |a::r,_,0,x,hr,hx=>by simp only[ax]at hr;obtain⟨v,us,rfl,h1,h2⟩:=hr;simp only[List.getElem?_cons_zero,Option.some.injEq]at hx;subst hx;exact⟨v,rfl,h1⟩
 |a::r,_,i+1,x,hr,hx=>by simp only[ax]at hr;obtain⟨v,us,rfl,h1,h2⟩:=hr;obtain⟨u,hu,hr⟩:=ax.get i h2 (by simpa using hx);exact⟨u,by simpa using hu,hr⟩
theorem ax.append:∀{a b:List AV} {v u:List Value},ax Z ψ h w a v→ax Z ψ h w b u→ax Z ψ h w (a++b) (v++u)
 |[],b,_,u,hr,hb=>by simp only[ax]at hr;subst hr;exact hb
 |a::r,b,_,u,hr,hb=>by simp only[ax]at hr;obtain⟨v,us,rfl,h1,h2⟩:=hr;simp only[List.cons_append,ax];exact⟨v,us++u,rfl,h1,ax.append h2 hb⟩
theorem ax.split:∀{a b:List AV} {v:List Value},ax Z ψ h w (a++b) v→∃us ws,v=us++ws∧ax Z ψ h w a us∧ax Z ψ h w b ws
 |[],b,v,hr=>⟨[],v,rfl,by simp only[ax],hr⟩
 |a::r,b,v,hr=>by simp only[List.cons_append,ax]at hr;obtain⟨x,us,rfl,h1,h2⟩:=hr;obtain⟨jU,ws,rfl,h3,h4⟩:=ax.split h2;exact⟨x::jU,ws,rfl,by simp only[ax];exact⟨x,jU,rfl,h1,h3⟩,h4⟩
theorem ax.drop(n:Nat){a:List AV}{v:List Value}(hr:ax Z ψ h w a v):ax Z ψ h w (a.drop n) (v.drop n):=by
 by_cases hn:n≤a.length
 ·have ud:ax Z ψ h w (a.take n++a.drop n) v:=by rw[List.take_append_drop];exact hr
  obtain⟨us,ws,rfl,h1,h2⟩:=ax.split ud;have hl:=h1.length;rw[List.length_take,Nat.min_eq_left hn]at hl;rw[hl,List.drop_left];rw[←hl];exact h2
 ·have:=hr.length;rw[List.drop_eq_nil_of_le (by omega),List.drop_eq_nil_of_le (by omega)];simp only[ax]
theorem ax.take(n:Nat){a:List AV}{v:List Value}(hr:ax Z ψ h w a v):ax Z ψ h w (a.take n) (v.take n):=by
 by_cases hn:n≤a.length
 ·have ud:ax Z ψ h w (a.take n++a.drop n) v:=by rw[List.take_append_drop];exact hr
  obtain⟨us,ws,rfl,h1,h2⟩:=ax.split ud;have hl:=h1.length;rw[List.length_take,Nat.min_eq_left hn]at hl
  conv=>rhs;rw[hl,List.take_left]
  exact h1
 ·have:=hr.length;rw[List.take_of_length_le (by omega),List.take_of_length_le (by omega)];exact hr
theorem ax.set:∀{a:List AV} {v:List Value} (i:Nat) {x:AV} {u:Value},ax Z ψ h w a v→aD Z ψ h w x u→ax Z ψ h w (a.set i x) (v.set i u)
 |[],_,i,x,u,hr,_=>by simp only[ax]at hr;subst hr;simp only[List.set_nil,ax]
 |a::r,_,0,x,u,hr,hx=>by simp only[ax]at hr;obtain⟨v,us,rfl,h1,h2⟩:=hr;simp only[List.set_cons_zero,ax];exact⟨u,us,rfl,hx,h2⟩
 |a::r,_,i+1,x,u,hr,hx=>by simp only[ax]at hr;obtain⟨v,us,rfl,h1,h2⟩:=hr;simp only[List.set_cons_succ,ax];exact⟨v,_,rfl,h1,ax.set i h2 hx⟩
theorem js:∀{k:K} {x:k.T} {vs:List Value},aP Z w k x vs→ax Z ψ h w (enc k x) vs
 |.int _,_,_,hr=>by simp only[aP]at hr;subst hr;simp[enc,ax,aD]
 |.bool,_,_,hr=>by simp only[aP]at hr;subst hr;simp[enc,ax,aD]
 |.str,_,_,hr=>by simp only[aP]at hr;subst hr;simp[enc,ax,aD]
 |.sl k,xs,_,hr=>by have ud:=hr;simp only[aP]at ud;obtain⟨v,rfl,_⟩:=ud;simp only[enc,ax,aD];exact⟨v,[],rfl,⟨hr,by simp⟩,rfl⟩
 |.pair a b,x,_,hr=>by simp only[aP]at hr;obtain⟨us,ws,rfl,h1,h2⟩:=hr;simp only[enc];exact ax.append (js h1) (js h2)
 |.one k,x,_,hr=>by simp only[aP]at hr;simp only[enc];exact js (k:=k) hr
 |.mp kk vk,es,_,hr=>by have ud:=hr;simp only[aP]at ud;obtain⟨A,rfl,_⟩:=ud;simp only[enc,ax,aD];exact⟨_,[],rfl,hr,rfl⟩
theorem Tp{k:K}{v:Value}(hr:aD Z ψ h w .ib v):aP Z w (.sl k) [] [v]:=by simp only[aD]at hr;subst hr;simp only[aP];exact⟨_,rfl,none,0,rfl,ack _,fun _=>rfl,fun i x hx=>by simp at hx⟩
theorem Ci:∀{k:K} {cs:List AV} {x:k.T} {r:List AV} {vs:List Value},dec k cs=some (x,r)→ax Z ψ h w cs vs→∃us ws,vs=us++ws∧aP Z w k x us∧ax Z ψ h w r ws
 |.int ik,cs,x,r,vs,hd,hr=>by
  simp only[dec]at hd;unfold Ib at hd
  split at hd
  ·split at hd
   ·rename_i he;subst he
    cases hd
    simp only[ax,aD]at hr;obtain⟨v,us,rfl,rfl,h2⟩:=hr;exact⟨[_],us,rfl,by simp only[aP],h2⟩
   ·cases hd
  ·cases hd
 |.bool,cs,x,r,vs,hd,hr=>by
  simp only[dec]at hd;unfold Ce at hd
  split at hd
  ·cases hd
   simp only[ax,aD]at hr;obtain⟨v,us,rfl,rfl,h2⟩:=hr;exact⟨[_],us,rfl,by simp only[aP],h2⟩
  ·cases hd
 |.str,cs,x,r,vs,hd,hr=>by
  simp only[dec]at hd;unfold Ic at hd
  split at hd
  ·cases hd
   simp only[ax,aD]at hr;obtain⟨v,us,rfl,rfl,h2⟩:=hr;exact⟨[_],us,rfl,by simp only[aP],h2⟩
  ·cases hd
 |.sl k,cs,x,r,vs,hd,hr=>by
  simp only[dec]at hd;unfold OX at hd
  split at hd
  ·split at hd
   ·rename_i he;subst he
    cases hd
    simp only[ax]at hr;obtain⟨v,us,rfl,h1,h2⟩:=hr;simp only[aD]at h1;exact⟨[_],us,rfl,h1.1,h2⟩
   ·cases hd
  ·cases hd
   simp only[ax]at hr;obtain⟨v,us,rfl,h1,h2⟩:=hr;exact⟨[_],us,rfl,Tp h1,h2⟩
  ·cases hd
 |.pair a b,cs,x,r,vs,hd,hr=>by
  simp only[dec]at hd
  split at hd
  ·rename_i x1 r1 h1
   split at hd
   ·rename_i y1 r2 h2
    cases hd
    obtain⟨us,ws,rfl,k1,k2⟩:=Ci h1 hr;obtain⟨jU,ws',rfl,k3,k4⟩:=Ci h2 k2;exact⟨us++jU,ws',by rw[List.append_assoc],by simp only[aP];exact⟨us,jU,rfl,k1,k3⟩,k4⟩
   ·cases hd
  ·cases hd
 |.one k,cs,x,r,vs,hd,hr=>by simp only[dec]at hd;obtain⟨us,ws,e,k1,k2⟩:=Ci (k:=k) hd hr;exact⟨us,ws,e,by simp only[aP];exact k1,k2⟩
 |.mp kk vk,cs,x,r,vs,hd,hr=>by
  simp only[dec]at hd;unfold OY at hd
  split at hd
  ·split at hd
   ·rename_i he;obtain⟨rfl,rfl⟩:=he
    cases hd
    simp only[ax]at hr;obtain⟨v,us,rfl,h1,h2⟩:=hr;simp only[aD]at h1;exact⟨[_],us,rfl,h1,h2⟩
   ·cases hd
  ·cases hd
theorem eO{k:K}{cs:List AV}{x:k.T}{vs:List Value}(hd:dZ k cs=some x)(hr:ax Z ψ h w cs vs):aP Z w k x vs:=by
 unfold dZ at hd
 split at hd
 ·rename_i x' h1
  cases hd
  obtain⟨us,ws,rfl,k1,k2⟩:=Ci h1 hr;simp only[ax]at k2;subst k2;rw[List.append_nil];exact k1
 ·cases hd
theorem nu{k:K}{x:k.T}{v:Value}(hr:aP Z w k x v.cells.toList)(hp:k.isAgg=true→∃vs,v=.agg vs)(hn:k.isAgg=false→v.cells=#[v]):aD Z ψ h w (cJ k x) v:=by
 cases k with
 |int ik=>rw[hn rfl]at hr;simp only[aP]at hr;simp only[cJ,aD];simpa using hr
 |bool=>rw[hn rfl]at hr;simp only[aP]at hr;simp only[cJ,aD];simpa using hr
 |str=>rw[hn rfl]at hr;simp only[aP]at hr;simp only[cJ,aD];simpa using hr
 |sl k=>rw[hn rfl]at hr;simp only[cJ,aD];exact⟨hr,by simp⟩
 |mp kk vk=>rw[hn rfl]at hr;simp only[cJ,aD];exact hr
 |pair a b =>obtain⟨vs,rfl⟩:=hp rfl;simp only[cJ,aD];exact⟨vs,rfl,js hr⟩
 |one k =>obtain⟨vs,rfl⟩:=hp rfl;simp only[cJ,aD];exact⟨vs,rfl,js hr⟩
end
end Go.Vs
namespace Go.Vs
theorem Heap.jA{n m:Nat}(bq:m≠n):∀h:Heap,(h.del n).get m=h.get m
 |[]=>rfl
 |(i,o)::r=>by
  simp only[Heap.del]
  split
  ·rename_i hi;rw[Heap.jA bq r];simp only[Heap.get];rw[if_neg (by omega)]
  ·simp only[Heap.get]
   split
   ·rfl
   ·exact Heap.jA bq r
theorem Heap.iB(n:Nat):∀h:Heap,(h.del n).get n=none
 |[]=>rfl
 |(i,o)::r=>by
  simp only[Heap.del]
  split
  ·exact Heap.iB n r
  ·rename_i hi;simp only[Heap.get];rw[if_neg hi];exact Heap.iB n r
theorem Heap.Ij(h:Heap)(n:Nat)(o:Ob):(h.set n o).get n=some o:=by simp[Heap.set,Heap.get]
theorem Heap.M3{n m:Nat}(bq:m≠n)(h:Heap)(o:Ob):(h.set n o).get m=h.get m:=by simp only[Heap.set,Heap.get];rw[if_neg (by omega)];exact Heap.jA bq h
theorem Heap.xj{n m:Nat}{h:Heap}{o:Ob}(hg:(h.del n).get m=some o):h.get m=some o∧m≠n:=by
 by_cases bq:m=n
 ·subst bq;rw[Heap.iB]at hg;cases hg
 ·rw[Heap.jA bq]at hg;exact⟨hg,bq⟩
theorem Heap.get_append(a b:Heap)(n:Nat):(a++b).get n=(match a.get n with|some o=>some o|none=>b.get n):=by
 induction a with
 |nil=>rfl
 |cons p r ih =>
  obtain⟨i,o⟩:=p;simp only[List.cons_append,Heap.get]
  split
  ·rfl
  ·exact ih
def pw(Z:Nat→Prop)(w:World)(k:K)(xs:List k.T)(vs:List Value):Prop :=∀(i:Nat) (x:k.T),xs[i]? = some x→aP Z w k x ((vs.drop (i*k.sz)).take k.sz)
abbrev Hp:=Nat→Option Ob
def fF(w:World)(e:TypeId)(size:Nat)(v:Value)(n:Nat)(vs:List Value):Prop :=vs.length=n*size ∧((n=0∧∃A,v=.slice A 0 0) ∨ ∃g cap cur,v=.slice (some ⟨g,0,none⟩) n cap∧0<cap∧w.heap[g]? = some (.cells cur e (0,0))∧n≤cap∧cap≤maxLen∧cur.size=cap*size∧cur.toList.take (n*size)=vs)
theorem fF.of{w:World}{base e size n:Nat}{v:Value}{vs:List Value}(h:w.ownsRow base e size v n vs):fF w e size v n vs:=by
 obtain⟨h1,h2⟩:=h;refine⟨h1,?_⟩;rcases h2 with⟨rfl,h2⟩|⟨g,cap,cur,rfl,_,h3,h4,h5,h6,h7⟩
 ·exact .inl ⟨h2,none,rfl⟩
 ·by_cases hc:cap=0
  ·subst hc;have:n=0:=by omega
   subst this;exact .inl ⟨rfl,_,rfl⟩
  ·exact .inr ⟨g,cap,cur,rfl,by omega,h3,h4,h5,h6,h7⟩
theorem fF.slice{w:World}{e size n:Nat}{v:Value}{vs:List Value}(h:fF w e size v n vs):∃A c,v=.slice A n c:=by
 rcases h.2 with⟨h0,A,rfl⟩|⟨g,cap,cur,rfl,_⟩
 ·subst h0;exact⟨A,0,rfl⟩
 ·exact⟨_,_,rfl⟩
theorem fF.one{w:World}{e size n:Nat}{v:Value}{vs:List Value}(h:fF w e size v n vs):v.cells=#[v]∧v.oneCell'=true:=by obtain⟨A,c,rfl⟩:=h.slice;exact⟨rfl,by simp[Value.oneCell']⟩
theorem fF.kept{w w':World}{e size n:Nat}{v:Value}{vs:List Value}(ho:fF w e size v n vs)(hk:∀g,ob v=some g→w'.heap[g]? = w.heap[g]?):fF w' e size v n vs:=by
 obtain⟨h1,h2⟩:=ho;refine⟨h1,?_⟩;rcases h2 with h2|⟨g,cap,cur,rfl,hc,hh,r⟩
 ·exact .inl h2
 ·exact .inr ⟨g,cap,cur,rfl,hc,(hk g (by simp only[ob];rw[if_neg (by omega)])).trans hh,r⟩
def kH(Z:Nat→Prop)(w:World):(ok:OK)→Value→ok.T→Prop
 |.row ty k,v,xs=>∃vs,fF w ty k.sz v xs.length vs∧pw Z w k xs vs
 |.map kk vk,v,es=>∃m cw clock,v=.map (some m)∧w.heap[m]? = some (.map cw clock)∧Ii (aP Z w kk) (aP Z w vk) kk.isAgg vk.isAgg es cw.toList∧cw.toList.Pairwise (fun a b=>a.born≠b.born)∧∀e∈cw.toList,e.born<clock
 |.iter kk vk,v,x=>∃r m since seen cw clock,v=.pointer (some ⟨r,0,none⟩)∧w.heap[r]? = some (.mapIter (some m) since seen clock)∧Z m∧w.heap[m]? = some (.map cw clock) ∧ cw.toList.Pairwise (fun a b=>a.born≠b.born)∧since=clock∧(∀e∈cw.toList,e.born<clock)∧Ii (aP Z w kk) (aP Z w vk) kk.isAgg vk.isAgg x.2 (cw.toList.filter fun e => !seen.contains e.born) ∧(match x.1 with|none=>True|some c=>∃e∈cw.toList,seen.back? = some e.born∧Ii (aP Z w kk) (aP Z w vk) kk.isAgg vk.isAgg [c] [e])
 |.pZ,v,x=>∃r,v=.pointer (some ⟨r,0,none⟩)∧w.heap[r]? = some (.stringIter x.1 x.2)
theorem kH.lt{Z:Nat→Prop}{w:World}:∀{ok:OK} {v:Value} {x:ok.T} {b:Nat},kH Z w ok v x→ob v=some b→b<w.heap.size
 |.row ty k,v,xs,b,h,hb=>by
  obtain⟨vs,⟨_,h⟩,_⟩:=h;rcases h with⟨_,A,rfl⟩|⟨g,cap,cur,rfl,hc,h2,_⟩
  ·cases A<;>simp[ob]at hb
  ·simp only[ob]at hb;rw[if_neg (by omega)]at hb
   cases hb
   exact(abq.1 h2).1
 |.map _ _,v,_,b,h,hb=>by obtain⟨m,cw,clock,rfl,h2,_⟩:=h;simp only[ob,Option.some.injEq]at hb;subst hb;exact(abq.1 h2).1
 |.iter _ _,v,_,b,h,hb=>by obtain⟨r,m,since,seen,cw,clock,rfl,h2,_⟩:=h;simp only[ob,Option.some.injEq]at hb;subst hb;exact(abq.1 h2).1
 |.pZ,v,_,b,h,hb=>by obtain⟨r,rfl,h2⟩:=h;simp only[ob,Option.some.injEq]at hb;subst hb;exact(abq.1 h2).1
theorem kH.one{Z:Nat→Prop}{w:World}:∀{ok:OK} {v:Value} {x:ok.T},kH Z w ok v x→v.cells=#[v]∧v.oneCell'=true
 |.row ty k,v,xs,h=>by obtain⟨vs,h,_⟩:=h;obtain⟨A,c,rfl⟩:=h.slice;exact⟨rfl,by simp[Value.oneCell']⟩
 |.map _ _,v,_,h=>by obtain⟨m,cw,clock,rfl,_⟩:=h;exact⟨rfl,by simp[Value.oneCell']⟩
 |.iter _ _,v,_,h=>by obtain⟨r,m,since,seen,cw,clock,rfl,_⟩:=h;exact⟨rfl,by simp[Value.oneCell']⟩
 |.pZ,v,_,h=>by obtain⟨r,rfl,_⟩:=h;exact⟨rfl,by simp[Value.oneCell']⟩
theorem kH.kept{Z Z':Nat→Prop}{w w':World}(hz:∀b,Z b→Z' b)(sm:cU Z w w'):∀{ok:OK} {v:Value} {x:ok.T},(∀g,ob v=some g→w'.heap[g]? = w.heap[g]?)→kH Z w ok v x→kH Z' w' ok v x
 |.row ty k,v,xs,hk,h=>by obtain⟨vs,h1,h2⟩:=h;exact⟨vs,h1.kept hk,fun i x hx=>(h2 i x hx).mono hz sm⟩
 |.map _ _,v,_,hk,h=>by obtain⟨m,cw,clock,rfl,h2,h3,h4⟩:=h;exact⟨m,cw,clock,rfl,(hk m rfl).trans h2,h3.imp (fun _ _ h=>h.mono hz sm) (fun _ _ h=>h.mono hz sm),h4⟩
 |.iter _ _,v,x,hk,h=>by
  obtain⟨r,m,since,seen,cw,clock,rfl,h2,h3,h4,h5,h6,h7,h8,h9⟩:=h;refine⟨r,m,since,seen,cw,clock,rfl,(hk r rfl).trans h2,hz _ h3,(sm m h3).trans h4,h5,h6,h7,h8.imp (fun _ _ h=>h.mono hz sm) (fun _ _ h=>h.mono hz sm),?_⟩
  split
  ·trivial
  ·rename_i c hc;rw[hc]at h9;obtain⟨e,he,oC,BW⟩:=h9;exact⟨e,he,oC,BW.imp (fun _ _ h=>h.mono hz sm) (fun _ _ h=>h.mono hz sm)⟩
 |.pZ,v,_,hk,h=>by obtain⟨r,rfl,h2⟩:=h;exact⟨r,rfl,(hk r rfl).trans h2⟩
structure Good(Z:Nat→Prop)(ψ:Nat→Value)(h:Hp)(w:World)(B0:Nat)(O:Nat→Prop):Prop where
 box:∀id ty cs,h id=some (.box ty cs)→∃g vs,ψ id=.pointer (some ⟨g,0,none⟩)∧w.heap[g]? = some (.cells vs ty (0,0))∧ax Z ψ h w cs vs.toList∧∀u∈vs.toList,u.oneCell'=true
 row:∀id ok x,h id=some (.own ok x)→kH Z w ok (ψ id) x
 live:∀id g,h id≠none→ob (ψ id)=some g→¬Z g∧(B0≤g∨O g)
 apart:∀id oH g,h id≠none→h oH≠none→ob (ψ id)=some g→ob (ψ oH)=some g→id=oH
 kO:∀b,Z b→b<w.heap.size
variable {Z Z':Nat→Prop} {ψ ψ':Nat→Value} {h h':Hp} {w w':World} {B0:Nat} {O:Nat→Prop}
theorem Good.sub(g:Good Z ψ h w B0 O)(hs:∀id o,h' id=some o→h id=some o):Good Z ψ h' w B0 O:=by
 have hn:∀id,h' id≠none→h id≠none:=fun id hn=>by obtain⟨o,ho⟩:=abN.1 hn;rw[hs id o ho];simp
 refine⟨fun id ty cs hb=>?_,fun id ok x hb=>g.row id ok x (hs _ _ hb),fun id b h1 h2=>g.live id b (hn id h1) h2,fun id oH b h1 h2 h3 h4=>g.apart id oH b (hn _ h1) (hn _ h2) h3 h4,g.kO⟩;obtain⟨b,vs,h1,h2,h3,h4⟩:=g.box id ty cs (hs _ _ hb);exact⟨b,vs,h1,h2,ax.less (fun _ h=>h) (cU.refl _ _) (fun id bR=>⟨hn id bR,rfl⟩) h3,h4⟩
theorem Good.freeze(g:Good Z ψ h w B0 O)(hs:∀id o,h' id=some o→h id=some o)(hz:∀b,Z b→Z' b) (C9:∀b,Z' b→Z b∨∃id,h id≠none∧h' id=none∧ob (ψ id)=some b):Good Z' ψ h' w B0 O:=by
 have hn:∀id,h' id≠none→h id≠none:=fun id hn=>by obtain⟨o,ho⟩:=abN.1 hn;rw[hs id o ho];simp
 have lt:∀id b,h id≠none→ob (ψ id)=some b→b<w.heap.size:=by
  intro id b h1 h2;obtain⟨o,ho⟩:=abN.1 h1
  cases o with
  |box ty cs =>obtain⟨gg,vs,e1,e2,_⟩:=g.box id ty cs ho;rw[e1]at h2;simp only[ob,Option.some.injEq]at h2;subst h2;exact(abq.1 e2).1
  |own ok x=>exact(g.row id ok x ho).lt h2
 refine⟨fun id ty cs hb=>?_,fun id ok x hb=>?_,fun id b h1 h2=>⟨fun hzb=>?_,(g.live id b (hn id h1) h2).2⟩,fun id oH b h1 h2 h3 h4=>g.apart id oH b (hn _ h1) (hn _ h2) h3 h4,fun b hb=>?_⟩
 ·obtain⟨b,vs,h1,h2,h3,h4⟩:=g.box id ty cs (hs _ _ hb);exact⟨b,vs,h1,h2,ax.less hz (cU.refl _ _) (fun id bR=>⟨hn id bR,rfl⟩) h3,h4⟩
 ·exact(g.row id ok x (hs _ _ hb)).kept hz (cU.refl _ _) (fun _ _=>rfl)
 ·rcases C9 b hzb with h3|⟨oH,h3,h4,h5⟩
  ·exact(g.live id b (hn id h1) h2).1 h3
  ·have:=g.apart id oH b (hn id h1) h3 h2 h5;subst this;exact h1 h4
 ·rcases C9 b hb with h3|⟨oH,h3,h4,h5⟩
  ·exact g.kO b h3
  ·exact lt oH b h3 h5
theorem xk{ty:TypeId}{k:K}{xs:List k.T}{v:Value}{vs:List Value}(ho:fF w ty k.sz v xs.length vs)(hv:pw Z w k xs vs)(hz:∀b,Z b→Z' b)(hb:∀b,ob v=some b→Z' b) :
  aP Z' w (.sl k) xs [v]:=by
 simp only[aP];refine⟨v,rfl,?_⟩;obtain⟨hl,e⟩:=ho;rcases e with⟨h0,A,rfl⟩|⟨g,cap,cur,rfl,M4,hh,hc,_,hs,ai0⟩
 ·have:xs=[]:=acg h0;subst this;exact⟨A,0,rfl,ack _,fun _=>rfl,fun i x hx=>by simp at hx⟩
 ·refine⟨some ⟨g,0,none⟩,cap,rfl,hc,fun e=>(by cases e),fun i x hx=>?_⟩;have hi:i<xs.length:=(aa2.1 hx).1;refine⟨⟨g,0,none⟩,_,rfl,hb g (by simp only[ob];rw[if_neg (by omega)]),(hv i x hx).mono hz (cU.refl _ _),fun j u hu=>?_⟩;rw[dm,Nat.zero_add];simp only[World.cell?,hh];rw[List.getElem?_take]at hu
  split at hu
  ·rename_i hj;rw[List.getElem?_drop]at hu;rw[←ai0,List.getElem?_take]at hu
   split at hu
   ·simpa using hu
   ·cases hu
  ·cases hu
theorem GK{hh:Heap}{a:AV}{v:Value}(g:Good Z ψ hh.get w B0 O)(hz:∀b,Z b→Z' b)(hb:∀id b,a=.bV id→hh.get id≠none→ob (ψ id)=some b→Z' b)(hr:aD Z ψ hh.get w a v):aD Z' ψ hh.get w (di hh a) v:=by
 unfold di
 split
 ·rename_i id
  split
  ·rename_i ty k xs hg;simp only[aD]at hr;have hv:=hr.2 (by rw[hg];simp);subst hv;obtain⟨vs,h1,h2⟩:=g.row id (.row ty k) xs hg;simp only[aD];exact⟨xk h1 h2 hz (fun b hbb=>hb id b rfl (by rw[hg];simp) hbb),by simp⟩
  ·rename_i kk vk es hg;simp only[aD]at hr;have hv:=hr.2 (by rw[hg];simp);subst hv;obtain⟨m,cw,clock,h1,h2,h3,_⟩:=g.row id (.map kk vk) es hg;simp only[aD,aP];refine⟨some m,by rw[h1],.inr ⟨m,cw,clock,rfl,hb id m rfl (by rw[hg];simp) (by rw[h1];rfl),h2,h3.imp (fun _ _ h=>h.mono hz (cU.refl _ _)) (fun _ _ h=>h.mono hz (cU.refl _ _))⟩⟩
  ·simp only[aD]
 ·exact hr.less hz (cU.refl _ _) (fun id bR=>⟨bR,rfl⟩)
theorem qf{hh:Heap}(g:Good Z ψ hh.get w B0 O)(hz:∀b,Z b→Z' b):∀{cs:List AV} {vs:List Value},(∀id b,AV.bV id∈cs→hh.get id≠none→ob (ψ id)=some b→Z' b)→ax Z ψ hh.get w cs vs→ax Z' ψ hh.get w (cs.map (di hh)) vs
 |[],_,_,hr=>by simpa only[ax,List.map_nil] using hr
 |a::r,_,hb,hr=>by simp only[ax,List.map_cons]at hr ⊢;obtain⟨v,us,rfl,h1,h2⟩:=hr;exact⟨v,us,rfl,GK g hz (fun id b e=>hb id b (by rw[e];simp)) h1,qf g hz (fun id b e=>hb id b (aa1 _ e)) h2⟩
theorem QE(hh:Heap)(a:AV):∀id o,(drop1 hh a).get id=some o→hh.get id=some o:=by
 intro id o hg;unfold drop1 at hg
 split at hg
 ·exact(Heap.xj hg).1
 ·exact hg
theorem fm:∀(cs:List AV) (hh:Heap),∀id o,(dg hh cs).get id=some o→hh.get id=some o
 |[],_,_,_,hg=>hg
 |c::r,hh,id,o,hg=>QE hh c id o (fm r (drop1 hh c) id o hg)
theorem Da:∀(cs:List AV) (hh:Heap) (id:Nat),AV.bV id∈cs→(dg hh cs).get id=none
 |[],_,_,hm=>by simp at hm
 |c::r,hh,id,hm=>by
  simp only[dg];rcases abd.1 hm with rfl|hm
  ·cases hg:(dg (drop1 hh (.bV id)) r).get id with
   |none=>rfl
   |some o =>have:=fm r _ id o hg;simp only[drop1,Heap.iB]at this;cases this
  ·exact Da r _ id hm
theorem qZ:∀(cs:List AV) (hh:Heap) (id:Nat),AV.bV id∉cs→(dg hh cs).get id=hh.get id
 |[],_,_,_=>rfl
 |c::r,hh,id,hm=>by
  simp only[dg];rw[qZ r _ id (fun h=>hm (List.mem_cons_of_mem _ h))];unfold drop1
  split
  ·rename_i oH;exact Heap.jA (fun e=>hm (by rw[e];simp)) hh
  ·rfl
def sH(Z:Nat→Prop)(ψ:Nat→Value)(h:Hp)(cs:List AV):Nat→Prop:=fun b=>Z b∨∃id,AV.bV id∈cs∧h id≠none∧ob (ψ id)=some b
theorem jB{hh:Heap}(g:Good Z ψ hh.get w B0 O)(cs:List AV):Good (sH Z ψ hh.get cs) ψ (dg hh cs).get w B0 O :=g.freeze (fm cs hh) (fun _ hb=>.inl hb) (fun b hb=>by
  rcases hb with hb|⟨id,h1,h2,h3⟩
  ·exact .inl hb
  ·exact .inr ⟨id,h2,Da cs hh id h1,h3⟩)
end Go.Vs
namespace Go.Vs
def Own(ψ:Nat→Value)(h:Hp)(b:Nat):Prop:=∃id,h id≠none∧ob (ψ id)=some b
structure dF(ψ:Nat→Value)(h:Hp)(w w':World):Prop where
 os:w'.os=w.os
 tape:w'.tape=w.tape
 output:w'.output=w.output
 size:w.heap.size≤w'.heap.size
 block:∀b,b<w.heap.size→¬Own ψ h b→w'.heap[b]? = w.heap[b]?
structure Next(Z:Nat→Prop)(ψ:Nat→Value)(h:Hp)(w:World)(B0:Nat)(O:Nat→Prop)(N:Nat→Prop)(Z':Nat→Prop)(ψ':Nat→Value)(h':Hp)(w':World):Prop where
 g6:∀b,Z b→Z' b
 fN:∀b,Z' b→Z b∨Own ψ h b∨w.heap.size≤b
 keep:dF ψ h w w'
 ids:∀id,h' id≠none→(h id≠none∧ψ' id=ψ id)∨N id
 fi:Good Z' ψ' h' w' B0 O
variable {Z Z':Nat→Prop} {ψ ψ':Nat→Value} {h h':Hp} {w w':World} {B0:Nat} {O:Nat→Prop} {N:Nat→Prop}
theorem dF.refl(ψ:Nat→Value)(h:Hp)(w:World):dF ψ h w w:=⟨rfl,rfl,rfl,ack _,fun _ _ _=>rfl⟩
theorem dF.same(k:dF ψ h w w')(g:Good Z ψ h w B0 O):cU Z w w':=fun b hb=>k.block b (g.kO b hb) (fun⟨id,h1,h2⟩=>(g.live id b h1 h2).1 hb)
theorem Next.same(n:Next Z ψ h w B0 O N Z' ψ' h' w')(g:Good Z ψ h w B0 O):cU Z w w':=n.keep.same g
theorem Next.refl(g:Good Z ψ h w B0 O):Next Z ψ h w B0 O N Z ψ h w :=⟨fun _ h=>h,fun _ h=>.inl h,dF.refl _ _ _,fun _ bR=>.inl ⟨bR,rfl⟩,g⟩
theorem Next.rep(n:Next Z ψ h w B0 O N Z' ψ' h' w')(g:Good Z ψ h w B0 O){a:AV}{v:Value}(hm:aQ (fun id=>¬N id) a)(hr:aD Z ψ h w a v):aD Z' ψ' h' w' a v :=hr.move n.g6 (n.same g) (fun id hp bR=>(n.ids id bR).resolve_right hp) hm
theorem Good.cc(g:Good Z ψ h w B0 O){b:Nat}(ho:Own ψ h b):b<w.heap.size:=by
 obtain⟨id,h1,h2⟩:=ho;obtain⟨o,ho⟩:=abN.1 h1
 cases o with
 |box ty cs =>obtain⟨gg,vs,e1,e2,_⟩:=g.box id ty cs ho;rw[e1]at h2;simp only[ob,Option.some.injEq]at h2;subst h2;exact(abq.1 e2).1
 |own ok x=>exact(g.row id ok x ho).lt h2
theorem Good.more(g:Good Z ψ h w B0 O)(k:dF ψ h w w')(ve:∀b,Own ψ h b→w'.heap[b]? = w.heap[b]?) (hold:∀id,¬N id→h' id=h id∧ψ' id=ψ id) (bC:∀id ty cs,h id=some (.box ty cs)→aJ (fun i=>¬N i) cs) (Tq:∀id ty cs,N id→h' id=some (.box ty cs)→∃g vs,ψ' id=.pointer (some ⟨g,0,none⟩)∧w'.heap[g]? = some (.cells vs ty (0,0))∧ax Z ψ' h' w' cs vs.toList∧∀u∈vs.toList,u.oneCell'=true) (qg:∀id ok x,N id→h' id=some (.own ok x)→kH Z w' ok (ψ' id) x) (Db:∀id b,N id→h' id≠none→ob (ψ' id)=some b→w.heap.size≤b) (M5:∀id oH b,N id→N oH→h' id≠none→h' oH≠none→ob (ψ' id)=some b→ob (ψ' oH)=some b→id=oH) (hB:B0≤w.heap.size) :
  Next Z ψ h w B0 O N Z ψ' h' w':=by
 have py:∀id,h' id≠none→(h id≠none∧ψ' id=ψ id)∨N id:=fun id bR=>by
  by_cases hn:N id
  ·exact .inr hn
  ·obtain⟨e1,e2⟩:=hold id hn;exact .inl ⟨by rwa [e1]at bR,e2⟩
 have sm:cU Z w w':=k.same g;have A3:∀id b,¬N id→h' id≠none→ob (ψ' id)=some b→Own ψ h b:=fun id b hn h1 h2=>by obtain⟨e1,e2⟩:=hold id hn;exact⟨id,by rwa [e1]at h1,by rwa [e2]at h2⟩
 refine⟨fun _ h=>h,fun _ h=>.inl h,k,py,⟨fun id ty cs hb=>?_,fun id ok x hb=>?_,fun id b h1 h2=>?_,fun id oH b h1 h2 h3 h4=>?_,fun b hb=>adf (g.kO b hb) k.size⟩⟩
 ·by_cases hn:N id
  ·exact Tq id ty cs hn hb
  ·obtain⟨e1,e2⟩:=hold id hn;rw[e1]at hb;obtain⟨gg,vs,h1,h2,h3,h4⟩:=g.box id ty cs hb;have ho:Own ψ h gg:=⟨id,by rw[hb];simp,by rw[h1];rfl⟩;exact⟨gg,vs,by rw[e2,h1],(ve gg ho).trans h2,h3.move (fun _ h=>h) sm (fun i hp bR=>(py i bR).resolve_right hp) (bC id ty cs hb),h4⟩
 ·by_cases hn:N id
  ·exact qg id ok x hn hb
  ·obtain⟨e1,e2⟩:=hold id hn;rw[e1]at hb;rw[e2];exact(g.row id ok x hb).kept (fun _ h=>h) sm (fun gg QF=>ve gg ⟨id,by rw[hb];simp,QF⟩)
 ·by_cases hn:N id
  ·have:=Db id b hn h1 h2;exact⟨fun hz=>by have:=g.kO b hz;omega,.inl (by omega)⟩
  ·obtain⟨e1,e2⟩:=hold id hn;rw[e1]at h1;rw[e2]at h2;exact g.live id b h1 h2
 ·by_cases hn:N id<;>by_cases M6:N oH
  ·exact M5 id oH b hn M6 h1 h2 h3 h4
  ·have:=Db id b hn h1 h3;have:=g.cc (A3 oH b M6 h2 h4);omega
  ·have:=Db oH b M6 h2 h4;have:=g.cc (A3 id b hn h1 h3);omega
  ·obtain⟨e1,e2⟩:=hold id hn;obtain⟨e3,e4⟩:=hold oH M6;rw[e1]at h1;rw[e2]at h3;rw[e3]at h2;rw[e4]at h4;exact g.apart id oH b h1 h2 h3 h4
end Go.Vs
namespace Go.Vs
variable {P:Program} {Z Z':Nat→Prop} {ψ ψ':Nat→Value} {h h':Hp} {w w':World} {B0:Nat} {O:Nat→Prop} {N:Nat→Prop}
theorem ue{α:Type}:∀(vs cs:List α) (off:Nat),off+vs.length≤cs.length→fh cs off vs=cs.take off++vs++cs.drop (off+vs.length)
 |[],cs,off,_=>by simp[fh]
 |v::r,cs,off,hl=>by
  simp only[List.length_cons]at hl;simp only[fh];rw[ue r (cs.set off v) (off+1) (by rw[List.length_set];omega)];have h1:(cs.set off v).take (off+1)=cs.take off++[v]:=by rw[List.take_set,List.take_succ_eq_append_getElem (by omega),List.set_append_right _ _ (by rw[List.length_take];omega)];rw[List.length_take,Nat.min_eq_left (by omega)];simp
  have h2:(cs.set off v).drop (off+1+r.length)=cs.drop (off+(r.length+1)):=by rw[List.drop_set_of_lt (by omega)];congr 1;omega
  rw[h1,h2,List.append_assoc,List.append_assoc,List.append_assoc];rfl
theorem il{t:TypeId}{b:Bool}(hb:GF P t=some b):(isAgg t).run P w=.ok b w:=by
 unfold GF at hb;obtain⟨d,hd,rfl⟩:=ac5.1 hb;simp only[isAgg,Sem.run_bind,run_underlying hd,Result.andThen_ok]
 cases d<;>rfl
theorem vf{t:TypeId}{d:TypeDesc}(hd:P.underlying t=some d):∃i,P.info? t=some i:=by
 unfold Program.underlying at hd
 split at hd
 ·rename_i heq;exact⟨_,heq⟩
 ·rename_i heq;exact⟨_,heq⟩
 ·cases hd
theorem eE{t:TypeId}{i:TypeInfo}(hi:P.info? t=some i):(sizeOf t).run P w=.ok (P.cellsOf t) w:=by simp[sizeOf,typeInfo,hi,Program.cellsOf]
theorem A4{t:TypeId}{b:Bool}(hb:GF P t=some b):∃i,P.info? t=some i:=by unfold GF at hb;obtain⟨d,hd,rfl⟩:=ac5.1 hb;exact vf hd
theorem kP{t:TypeId}{cs:List AV}{us:List Value}{a:Addr}{x:AV}(hr:ax Z ψ h w cs us)(hc:∀(j:Nat) u,us[j]? = some u→w.cell? (a.add j)=some u)(hx:fk P t cs=some x) :
  ∃V,(Instr.loadAt t (.pointer (some a))).run P w=.ok V w∧aD Z ψ h w x V:=by
 unfold fk at hx;have hlen:=hr.length
 split at hx
 ·rename_i hb
  split at hx
  ·rename_i hl
   cases hx
   obtain⟨i,hi⟩:=A4 hb;refine⟨.agg (us.take (P.cellsOf t)).toArray,?_,by simp only[aD];exact⟨_,rfl,by simpa using hr.take (P.cellsOf t)⟩⟩;have aG:(us.take (P.cellsOf t)).length=P.cellsOf t:=by rw[List.length_take];omega
   have hld:=run_loadCells_list (P:=P) w a (us.take (P.cellsOf t)) (fun j v hv=>hc j v (by
    rw[List.getElem?_take]at hv;split at hv
    ·exact hv
    ·cases hv))
   rw[aG]at hld;simp[Instr.loadAt,Instr.sureAddr,loadVar,il hb,eE hi,hld]
  ·cases hx
 ·rename_i hb
  split at hx
  ·rename_i c r
   cases hx
   simp only[ax]at hr;obtain⟨v,jU,rfl,h1,h2⟩:=hr;refine⟨v,?_,h1⟩;have:=hc 0 v rfl;rw[GJ]at this;simp[Instr.loadAt,Instr.sureAddr,loadVar,il hb,this]
  ·cases hx
 ·cases hx
theorem mo{t:TypeId}{i:TypeInfo}(hi:P.info? t=some i)(g off:Nat)(V:Value)(cur:Array Value)(ty:TypeId)(hg:w.heap[g]? = some (.cells cur ty (0,0)))(hs:V.cells.size=P.cellsOf t) (hl:off+V.cells.size≤cur.size) (h1:∀v∈V.cells.toList,v.oneCell'=true) :
  (Instr.storeAt t (.pointer (some ⟨g,off,none⟩)) V).run P w=.ok () (w.setRow g (cur.toList.take off++V.cells.toList++cur.toList.drop (off+V.cells.size)).toArray):=by
 have xl:=run_storeCells_at P g off ty V.cells.toList 0 cur w hg (by simpa using hl) h1;simp only[Nat.add_zero,Array.length_toList]at xl;simp[Instr.storeAt,Instr.sureAddr,storeVar,eE hi,hs,xl]
def fq{α:Type}(f:Nat→α)(i:Nat)(v:α):Nat→α:=fun j=>if j=i then v else f j
theorem bD{α:Type}(f:Nat→α)(i:Nat)(v:α):fq f i v i=v:=by simp[fq]
theorem dH{α:Type}(f:Nat→α){i j:Nat}(v:α)(bq:j≠i):fq f i v j=f j:=by simp[fq,bq]
theorem dF.alloc(ψ:Nat→Value)(h:Hp)(w:World)(o:Obj):dF ψ h w (w.alloc o) :=⟨rfl,rfl,rfl,by rw[World.size_alloc];omega,fun b hb _=>heap_alloc_old w o hb⟩
theorem Dc(g:Good Z ψ h w B0 O)(hB:B0≤w.heap.size)(id:Nat)(ty:TypeId){cs:List AV}{vs:Array Value}(hN:N id)(hr:ax Z ψ h w cs vs.toList)(h1:∀u∈vs.toList,u.oneCell'=true) (bC:∀i ty cs,h i=some (.box ty cs)→aJ (fun i=>i≠id) cs) (hm:aJ (fun i=>i≠id) cs) :
  Next Z ψ h w B0 O N Z (fq ψ id (.pointer (some ⟨w.heap.size,0,none⟩))) (fq h id (some (.box ty cs))) (w.alloc (.cells vs ty)):=by
 have n:Next Z ψ h w B0 O (·=id) Z (fq ψ id (.pointer (some ⟨w.heap.size,0,none⟩))) (fq h id (some (.box ty cs))) (w.alloc (.cells vs ty)):=by
  refine g.more (dF.alloc _ _ _ _) (fun b hb=>heap_alloc_old w _ (g.cc hb)) (fun i hi=>⟨dH _ _ hi,dH _ _ hi⟩) (fun i BT cs' hb=>?_) (fun i BT cs' hi hb=>?_) (fun i ok x hi hb=>?_) (fun i b hi bq hb=>?_) (fun i i' b hi vW _ _ _ _=>by subst hi;exact vW.symm) hB
  ·exact bC i BT cs' hb
  ·subst hi;rw[bD]at hb;cases hb;refine⟨w.heap.size,vs,bD _ _ _,heap_alloc_new _ _,?_,h1⟩;refine hr.move (fun _ h=>h) ((dF.alloc ψ h w _).same g) (fun j hj bq=>?_) hm;rw[dH _ _ hj]at bq;exact⟨bq,dH _ _ hj⟩
  ·subst hi;rw[bD]at hb;cases hb
  ·subst hi;rw[bD]at hb;simp only[ob,Option.some.injEq]at hb;omega
 exact⟨n.g6,n.fN,n.keep,fun i hi=>(n.ids i hi).imp (fun h=>h) (fun e=>by subst e;exact hN),n.fi⟩
theorem Ts{h:Hp}{id:Nat}{o:Ob}(bR:h id≠none):∀i,fq h id (some o) i≠none→h i≠none:=fun i hi=>by
 by_cases e:i=id
 ·subst e;exact bR
 ·rwa [dH _ _ e]at hi
theorem Good.write(g:Good Z ψ h w B0 O)(id:Nat)(bR:h id≠none)(k:dF ψ h w w')(Tt:∀b,ob (ψ id)≠some b→b<w.heap.size→w'.heap[b]? = w.heap[b]?)(o':Ob) (Tq:∀ty cs,o'=.box ty cs→∃gg vs,ψ id=.pointer (some ⟨gg,0,none⟩)∧w'.heap[gg]? = some (.cells vs ty (0,0))∧ax Z ψ h w' cs vs.toList∧∀u∈vs.toList,u.oneCell'=true) (qg:∀ok x,o'=.own ok x→kH Z w' ok (ψ id) x) :
  Next Z ψ h w B0 O N Z ψ (fq h id (some o')) w':=by
 have hs:=Ts (o:=o') bR;have sm:=k.same g;refine⟨fun _ h=>h,fun _ h=>.inl h,k,fun i hi=>.inl ⟨hs i hi,rfl⟩,⟨fun i ty cs hb=>?_,fun i ok x hb=>?_,fun i b h1 h2=>g.live i b (hs i h1) h2,fun i i' b h1 h2 h3 h4=>g.apart i i' b (hs i h1) (hs i' h2) h3 h4,fun b hb=>adf (g.kO b hb) k.size⟩⟩
 ·by_cases e:i=id
  ·subst e;rw[bD]at hb;cases hb;obtain⟨gg,vs,h1,h2,h3,h4⟩:=Tq _ _ rfl;exact⟨gg,vs,h1,h2,h3.less (fun _ h=>h) (cU.refl _ _) (fun j hj=>⟨hs j hj,rfl⟩),h4⟩
  ·rw[dH _ _ e]at hb;obtain⟨gg,vs,h1,h2,h3,h4⟩:=g.box i ty cs hb;refine⟨gg,vs,h1,?_,h3.less (fun _ h=>h) sm (fun j hj=>⟨hs j hj,rfl⟩),h4⟩;rw[Tt gg (fun hh=>e (g.apart i id gg (by rw[hb];simp) bR (by rw[h1];rfl) hh)) (Array.getElem?_eq_some_iff.1 h2).1];exact h2
 ·by_cases e:i=id
  ·subst e;rw[bD]at hb;cases hb;exact qg _ _ rfl
  ·rw[dH _ _ e]at hb;exact(g.row i ok x hb).kept (fun _ h=>h) sm (fun gg QF=>Tt gg (fun hh=>e (g.apart i id gg (by rw[hb];simp) bR QF hh)) (g.cc ⟨i,by rw[hb];simp,QF⟩))
theorem dF.setRow{gg:Nat}(ho:Own ψ h gg)(arr:Array Value):dF ψ h w (w.setRow gg arr) :=⟨rfl,rfl,rfl,by simp[World.setRow],fun b _ hb=>by have:gg≠b:=fun e=>hb (e▸ho);simp[World.setRow,Array.getElem?_modify,this]⟩
theorem setRow_other{gg b:Nat}(arr:Array Value)(bq:gg≠b):(w.setRow gg arr).heap[b]? = w.heap[b]? := by simp[World.setRow,Array.getElem?_modify,bq]
theorem Dd(g:Good Z ψ h w B0 O){id:Nat}{ty:TypeId}{cs vs:List AV}(hb:h id=some (.box ty cs)){t:TypeId}{i:TypeInfo}(hi:P.info? t=some i){off:Nat}{V:Value} (hv:ax Z ψ h w vs V.cells.toList) (h1:∀u∈V.cells.toList,u.oneCell'=true) (hs:V.cells.size=P.cellsOf t) (hl:off+vs.length≤cs.length) {a:Addr} (ha:a=⟨XZ (ψ id),off,none⟩) :
  ∃w',(Instr.storeAt t (.pointer (some a)) V).run P w=.ok () w'∧Next Z ψ h w B0 O N Z ψ (fq h id (some (.box ty (fh cs off vs)))) w':=by
 obtain⟨gg,arr,e1,e2,e3,e4⟩:=g.box id ty cs hb;have hlen:=hv.length;have O5:=e3.length;simp only[Array.length_toList]at hlen O5;have bR:h id≠none:=by rw[hb];simp
 have ho:Own ψ h gg:=⟨id,bR,by rw[e1];rfl⟩;rw[e1]at ha;simp only[XZ]at ha;subst ha;refine⟨_,mo hi gg off V arr ty e2 hs (by omega) h1,?_⟩;have kk:=dF.setRow (w:=w) ho ((arr.toList.take off++V.cells.toList++arr.toList.drop (off+V.cells.size)).toArray);refine g.write id bR kk (fun b hb _=>setRow_other _ (fun e=>hb (by rw[e1];simp[ob,e]))) _ (fun BT cs' he=>?_) (fun _ _ he=>by cases he)
 cases he
 refine⟨gg,_,e1,setRow_heap w gg arr _ ty _ e2,?_,?_⟩
 ·rw[ue _ _ _ hl];have h5:ax Z ψ h w (cs.take off++vs++cs.drop (off+vs.length)) (arr.toList.take off++V.cells.toList++arr.toList.drop (off+V.cells.size)):=by rw[←hlen];exact((e3.take off).append hv).append (e3.drop (off+vs.length))
  exact h5.less (fun _ h=>h) (kk.same g) (fun j hj=>⟨hj,rfl⟩)
 ·intro u hu;rw[List.toList_toArray]at hu;rcases abw.1 hu with hu|hu
  ·rcases abw.1 hu with hu|hu
   ·exact e4 u (adC hu)
   ·exact h1 u hu
  ·exact e4 u (adr hu)
theorem abe{α:Type}(cur V:List α)(m off sz L:Nat)(h:off+V.length≤sz)(h1:m+sz≤L)(h2:L≤cur.length) :
  ((cur.take (m+off)++V++cur.drop (m+off+V.length)).take L |>.drop m |>.take sz)=((cur.drop m).take sz).take off++V++((cur.drop m).take sz).drop (off+V.length):=by
 apply adl;intro q;simp only[List.getElem?_take,List.getElem?_drop,List.getElem?_append,List.length_append,List.length_take,List.length_drop];rw[Nat.min_eq_left (show m+off≤cur.length by omega),Nat.min_eq_left (show off≤min sz (cur.length-m) by omega)]
 repeat' split
 all_goals first|rfl|(exfalso;omega)|(congr 1;omega)|(rw[List.getElem?_eq_none (by omega)])
theorem X0{α:Type}(cur V:List α)(m off sz L p:Nat)(h:off+V.length≤sz)(h1:m+sz≤L)(h2:L≤cur.length)(h3:p+sz≤L)(h4:p+sz≤m∨m+sz≤p) :
  ((cur.take (m+off)++V++cur.drop (m+off+V.length)).take L |>.drop p |>.take sz)=(cur.drop p).take sz:=by
 apply adl;intro q;simp only[List.getElem?_take,List.getElem?_drop,List.getElem?_append,List.length_append,List.length_take];rw[Nat.min_eq_left (show m+off≤cur.length by omega)]
 repeat' split
 all_goals first|rfl|(exfalso;omega)|(congr 1;omega)|(rw[List.getElem?_eq_none (by omega)])
theorem aP.De{k:K}{x:k.T}{vs us:List Value}(e:vs=us)(hr:aP Z w k x vs):aP Z w k x us:=e▸hr
theorem Df(g:Good Z ψ h w B0 O){id:Nat}{ty:TypeId}{kk:K}{xs:List kk.T}(hb:h id=some (.own (.row ty kk) xs)){t:TypeId}{i:TypeInfo}(hi:P.info? t=some i){n off:Nat}{x y:kk.T}{V:Value} (hx:xs[n]? = some x) (hs:V.cells.size=P.cellsOf t) (hl:off+V.cells.size≤kk.sz) {a:Addr} (ha:a=⟨XZ (ψ id),n*kk.sz+off,none⟩) (hy:∀us,aP Z w kk x us→aP Z w kk y (us.take off++V.cells.toList++us.drop (off+V.cells.size))) (h1:∀u∈V.cells.toList,u.oneCell'=true) :
  ∃w',(Instr.storeAt t (.pointer (some a)) V).run P w=.ok () w'∧Next Z ψ h w B0 O N Z ψ (fq h id (some (.own (.row ty kk) (xs.set n y)))) w':=by
 obtain⟨vs,ho,hv⟩:=g.row id (.row ty kk) xs hb;have bR:h id≠none:=by rw[hb];simp
 have hn:n<xs.length:=(aa2.1 hx).1;have M4:=kk.jz;have hmul:n*kk.sz+kk.sz≤xs.length*kk.sz:=by rw[←Nat.succ_mul];exact acM _ hn
 obtain⟨hl1,e⟩:=ho;rcases e with⟨h0,_⟩|⟨gg,cap,cur,e1,e2,e3,e4,e5,e6,e7⟩
 ·omega
 have abf:xs.length*kk.sz≤cap*kk.sz:=acM _ e4;have oD:ob (ψ id)=some gg:=by rw[e1];simp only[ob];rw[if_neg (by omega)]
 have ho:Own ψ h gg:=⟨id,bR,oD⟩;have Kb:a=⟨gg,n*kk.sz+off,none⟩:=by rw[ha,e1];rfl
 subst Kb;refine⟨_,mo hi gg (n*kk.sz+off) V cur ty e3 hs (by omega) h1,?_⟩;have hk:=dF.setRow (w:=w) ho ((cur.toList.take (n*kk.sz+off)++V.cells.toList++cur.toList.drop (n*kk.sz+off+V.cells.size)).toArray);have sm:=hk.same g;refine g.write id bR hk (fun b hb _=>setRow_other _ (fun e=>hb (by rw[oD,e]))) _ (fun _ _ he=>by cases he) (fun ok' x' he=>?_)
 cases he
 have uf:cur.toList.length=cap*kk.sz:=by rw[Array.length_toList];exact e6
 have hVl:V.cells.toList.length=V.cells.size:=Array.length_toList
 let kb:=cur.toList.take (n*kk.sz+off)++V.cells.toList++cur.toList.drop (n*kk.sz+off+V.cells.size)
 have M7:kb.length=cap*kk.sz:=by simp only[kb,List.length_append,List.length_take,List.length_drop,uf,hVl];omega
 have X1:(xs.set n y).length=xs.length:=List.length_set;have vX:vs=cur.toList.take (xs.length*kk.sz):=e7.symm;refine⟨kb.take (xs.length*kk.sz),⟨by rw[List.length_take,M7,X1];omega,.inr ⟨gg,cap,kb.toArray,by rw[X1];exact e1,e2,setRow_heap w gg cur _ ty _ e3,by rw[X1];exact e4,e5,by simpa using M7,by rw[X1]⟩⟩,fun j z hz=>?_⟩;have hj:j<xs.length:=by have:=(aa2.1 hz).1;rwa [X1]at this
 have hmj:j*kk.sz+kk.sz≤xs.length*kk.sz:=by rw[←Nat.succ_mul];exact acM _ hj
 have adD:∀p,p+kk.sz≤xs.length*kk.sz→(vs.drop p).take kk.sz=(cur.toList.drop p).take kk.sz:=fun p hp=>by rw[vX,List.drop_take,List.take_take,Nat.min_eq_left (by omega)]
 by_cases SO:j=n
 ·subst SO;rw[List.getElem?_set_self hn]at hz;cases hz;have hu:=hy _ (hv j x hx);rw[adD _ hmj,←hVl]at hu;refine aP.mono (fun _ h=>h) sm (aP.De ?_ hu);have:=abe cur.toList V.cells.toList (j*kk.sz) off kk.sz (xs.length*kk.sz) (by omega) hmj (by omega);rw[←this,hVl]
 ·rw[List.getElem?_set_ne (fun e=>SO e.symm)]at hz;have hu:=hv j z hz;rw[adD _ hmj]at hu;refine aP.mono (fun _ h=>h) sm (aP.De ?_ hu);have h4:j*kk.sz+kk.sz≤n*kk.sz∨n*kk.sz+kk.sz≤j*kk.sz:=by
   rcases ady j n with h|h
   ·left;rw[←Nat.succ_mul];exact acM _ h
   ·right;rw[←Nat.succ_mul];exact acM _ (by omega)
  have:=X0 cur.toList V.cells.toList (n*kk.sz) off kk.sz (xs.length*kk.sz) (j*kk.sz) (by omega) hmul (by omega) hmj h4;rw[←this,hVl]
theorem vY{k:K}{ys:List k.T}{u:Value}(hr:aP Z w (.sl k) ys [u]) :
  (u=.slice none 0 0∧ys=[])∨∃a c news,u=.slice (some a) ys.length c∧ys.length≤c∧news.length=ys.length*k.sz∧(∀(j:Nat) q,news[j]? = some q→w.cell? (a.add j)=some q)∧(∀q∈news,q.oneCell'=true)∧pw Z w k ys news:=by
 simp only[aP]at hr;obtain⟨v,hv,A,c,rfl,hl,hn,he⟩:=hr
 cases hv
 cases A with
 |none =>
  left
  cases ys with
  |nil=>exact⟨by rw[hn rfl];rfl,rfl⟩
  |cons y r=>obtain⟨a,us,h1,_⟩:=he 0 y rfl;cases h1
 |some a =>
  right;have he':∀i (hi:i<ys.length),∃us,aP Z w k ys[i] us∧∀(j:Nat) u,us[j]? = some u→w.cell? (a.add (i*k.sz+j))=some u:=fun i hi=>by
   obtain⟨a',us,h1,_,h3,h4⟩:=he i _ (aa4 hi)
   cases h1
   exact⟨us,h3,h4⟩
  have M4:=k.jz
  let news:=(List.range (ys.length*k.sz)).map fun j=>(w.cell? (a.add j)).getD default
  have GL:∀j,j<ys.length*k.sz→∃q,w.cell? (a.add j)=some q∧q.oneCell'=true:=fun j hj=>by
   have hi:j / k.sz<ys.length:=Nat.div_lt_of_lt_mul (by rw[Nat.mul_comm];exact hj);obtain⟨us,h3,h4⟩:=he' (j / k.sz) hi;have hm:j%k.sz<us.length:=by rw[h3.len];exact adv _ M4
   refine⟨us[j%k.sz],?_,h3.one _ (acm hm)⟩;have:=h4 (j%k.sz) _ (aa4 hm)
   rwa [Nat.mul_comm,Nat.div_add_mod]at this
  have pz:∀j,j<ys.length*k.sz→∃q,news[j]? = some q∧w.cell? (a.add j)=some q:=fun j hj=>by obtain⟨q,hq,_⟩:=GL j hj;exact⟨q,by simp[news,List.getElem?_map,List.getElem?_range hj,hq],hq⟩
  have hlen:news.length=ys.length*k.sz:=by simp[news]
  refine⟨a,c,news,rfl,hl,hlen,fun j q hq=>?_,fun q hq=>?_,fun i x hx=>?_⟩
  ·have hj:j<ys.length*k.sz:=by rw[←hlen];exact(aa2.1 hq).1
   obtain⟨q',h1,h2⟩:=pz j hj;rw[h1]at hq;cases hq;exact h2
  ·obtain⟨j,hj,rfl⟩:=List.mem_iff_getElem.1 hq;obtain⟨q',h1,h2⟩:=pz j (by omega);obtain⟨q2,h3,h4⟩:=GL j (by omega);rw[List.getElem?_eq_getElem hj]at h1;cases h1;rw[h2]at h3;cases h3;exact h4
  ·have hi:i<ys.length:=(aa2.1 hx).1;obtain⟨us,h3,h4⟩:=he' i hi;rw[List.getElem?_eq_getElem hi]at hx;cases hx;refine aP.De ?_ h3;have hul:=h3.len;have hmul:i*k.sz+k.sz≤ys.length*k.sz:=by rw[←Nat.succ_mul];exact acM _ hi
   apply adl;intro q;rw[List.getElem?_take,List.getElem?_drop];by_cases hq:q<k.sz
   ·rw[if_pos hq];obtain⟨q',h5,h6⟩:=pz (i*k.sz+q) (by omega);rw[h5];have h7:=h4 q _ (aa4 (by omega));rw[List.getElem?_eq_getElem (by omega)];rw[h6]at h7;cases h7;rfl
   ·rw[if_neg hq,List.getElem?_eq_none (by omega)]
theorem QG{hh:Heap}(g:Good Z ψ hh.get w B0 O){x:AV}{u:Value}{k:K}{ys:List k.T}(hx:rowOf hh x k=some ys)(hr:aD Z ψ hh.get w x u) :
  (u=.slice none 0 0∧ys=[])∨∃a c news,u=.slice (some a) ys.length c∧ys.length≤c∧news.length=ys.length*k.sz∧(∀(j:Nat) q,news[j]? = some q→w.cell? (a.add j)=some q)∧(∀q∈news,q.oneCell'=true)∧pw Z w k ys news:=by
 unfold rowOf at hx
 split at hx
 ·rename_i ex k' xs heq
  split at hx
  ·rename_i e;subst e
   cases hx
   cases x with
   |sl ex' k'' xs' =>
    simp only[di]at heq
    cases heq
    simp only[aD]at hr;exact vY hr.1
   |bV id =>
    simp only[di]at heq
    split at heq
    ·rename_i ty kk zs hg
     cases heq
     simp only[aD]at hr;have hv:=hr.2 (by rw[hg];simp);subst hv;obtain⟨vs,ho,hv⟩:=g.row id (.row ty _) _ hg;have h1:=vY (xk (Z':=fun b=>Z b∨ob (ψ id)=some b) ho hv (fun b hb=>.inl hb) (fun b hb=>.inr hb));rcases h1 with h1|⟨a,c,news,h1,h2,h3,h4,h5,_⟩
     ·exact .inl h1
     ·right;refine⟨a,c,news,h1,h2,h3,h4,h5,?_⟩;have QH:news=vs:=by
       obtain⟨hl,e⟩:=ho;rcases e with⟨e,_⟩|⟨gg,cap,cur,e,_,e3,_,_,_,e7⟩
       ·rw[e,Nat.zero_mul]at h3 hl;rw[List.eq_nil_of_length_eq_zero h3,List.eq_nil_of_length_eq_zero hl]
       ·rw[e]at h1;cases h1;apply adl;intro j;by_cases hj:j<xs.length*k'.sz
        ·have hn:=h4 j _ (aa4 (by omega));rw[dm,Nat.zero_add]at hn;simp only[World.cell?,e3]at hn;have A5:vs[j]? = cur.toList[j]? := by rw[←e7,List.getElem?_take,if_pos hj]
         rw[A5,List.getElem?_eq_getElem (by omega)];simpa using hn.symm
        ·rw[List.getElem?_eq_none (by omega),List.getElem?_eq_none (by omega)]
      rw[QH];exact hv
    ·cases heq
    ·cases heq
   |_=>simp only[di]at heq<;>cases heq
  ·cases hx
 ·rename_i heq
  cases hx
  cases x with
  |ib=>simp only[aD]at hr;exact .inl ⟨hr,rfl⟩
  |bV id=>simp only[di]at heq;split at heq<;>cases heq
  |_=>simp only[di]at heq<;>cases heq
 ·cases hx
structure pC(P:Program)(e:TypeId)(k:K)(i:TypeInfo)(z:Value):Prop where
 info:P.info? e=some i
 zero:i.zero=some z
 size:i.size=k.sz
 xm:z.cells.size=k.sz
 bytes:i.bytes≤65536
theorem cS{e:TypeId}{k:K}(he:Ie P e k=true):∃i z,pC P e k i z:=by
 unfold Ie at he
 split at he
 ·rename_i i hi
  split at he
  ·rename_i z hz;simp only[Bool.and_eq_true,decide_eq_true_eq]at he;exact⟨i,z,hi,hz,he.1,he.2.1,he.2.2⟩
  ·cases he
 ·cases he
theorem pw.append{k:K}{xs ys:List k.T}{vs us:List Value}(h1:pw Z w k xs vs)(h2:pw Z w k ys us)(hl:vs.length=xs.length*k.sz):pw Z w k (xs++ys) (vs++us):=fun i x hx=>by
 by_cases hi:i<xs.length
 ·rw[List.getElem?_append_left hi]at hx;have hm:i*k.sz+k.sz≤xs.length*k.sz:=by rw[←Nat.succ_mul];exact acM _ hi
  have h3:=h1 i x hx;rw[List.drop_append_of_le_length (by omega),List.take_append_of_le_length (by rw[List.length_drop];omega)];exact h3
 ·rw[List.getElem?_append_right (by omega)]at hx;have h3:=h2 (i-xs.length) x hx;have e:i*k.sz=vs.length+(i-xs.length)*k.sz:=by rw[hl,←Nat.add_mul];congr 1;omega
  rw[e,List.drop_append,List.drop_eq_nil_of_le (by omega),List.nil_append,Nat.add_sub_cancel_left];exact h3
theorem pw.Kc{k:K}{xs:List k.T}{vs:List Value}(h:pw Z w k xs vs)(sm:cU Z w w'):pw Z w' k xs vs:=fun i x hx=>(h i x hx).mono (fun _ h=>h) sm
theorem Kd(g:Good Z ψ h w B0 O)(hB:B0≤w.heap.size)(id:Nat)(hN:N id){ok:OK}{x:ok.T}{v:Value}(kk:dF ψ h w w')(ve:∀b,Own ψ h b→w'.heap[b]? = w.heap[b]?) (ho:kH Z w' ok v x) (hb:∀b,ob v=some b→w.heap.size≤b) (bC:∀i ty cs,h i=some (.box ty cs)→aJ (fun i=>i≠id) cs) :
  Next Z ψ h w B0 O N Z (fq ψ id v) (fq h id (some (.own ok x))) w':=by
 have n:Next Z ψ h w B0 O (·=id) Z (fq ψ id v) (fq h id (some (.own ok x))) w':=by
  refine g.more kk ve (fun i hi=>⟨dH _ _ hi,dH _ _ hi⟩) (fun i BT cs' hb=>bC i BT cs' hb) (fun i BT cs' hi hb=>?_) (fun i ok x hi hb=>?_) (fun i b hi bq hbb=>?_) (fun i i' b hi vW _ _ _ _=>by subst hi;exact vW.symm) hB
  ·subst hi;rw[bD]at hb;cases hb
  ·subst hi;rw[bD]at hb;cases hb;rw[bD];exact ho
  ·subst hi;rw[bD]at hbb;exact hb b hbb
 exact⟨n.g6,n.fN,n.keep,fun i hi=>(n.ids i hi).imp (fun h=>h) (fun e=>by subst e;exact hN),n.fi⟩
theorem s5(g:Good Z ψ h w B0 O)(hB:B0≤w.heap.size)(id:Nat)(ty:TypeId)(hN:N id){k:K}{xs:List k.T}{vs:List Value}{v:Value}(kk:dF ψ h w w')(ve:∀b,Own ψ h b→w'.heap[b]? = w.heap[b]?) (ho:fF w' ty k.sz v xs.length vs) (hv:pw Z w' k xs vs) (hb:∀b,ob v=some b→w.heap.size≤b) (bC:∀i ty cs,h i=some (.box ty cs)→aJ (fun i=>i≠id) cs) :
  Next Z ψ h w B0 O N Z (fq ψ id v) (fq h id (some (.own (.row ty k) xs))) w':=Kd g hB id hN (ok:=.row ty k) kk ve ⟨vs,ho,hv⟩ hb bC
theorem dF.grown{row:Option Nat}(hg:w.grownBy w' row)(hr:∀b,row=some b→Own ψ h b):dF ψ h w w' :=⟨hg.os,hg.tape,hg.output,hg.size,fun b hb hn=>hg.block b hb (fun e=>hn (hr b e.symm))⟩
theorem s6(g:Good Z ψ h w B0 O)(hB:B0≤w.heap.size)(id dr:Nat)(hN:N id){ok:OK}{x y:ok.T}(ho:h dr=some (.own ok x))(bq:dr≠id) (hg:w.grownBy w' (ob (ψ dr))) {v:Value} (hv:kH Z w' ok v y) (hb:ob v=ob (ψ dr)∨∀b,ob v=some b→w.heap.size≤b) (bC:∀i ty cs,h i=some (.box ty cs)→aJ (fun i=>i≠id) cs) :
  Next Z ψ h w B0 O N Z (fq ψ id v) (fq (fq h dr none) id (some (.own ok y))) w':=by
 have hold:h dr≠none:=by rw[ho];simp
 have oD:∀b,ob (ψ dr)=some b→ob (ψ dr)=some b:=fun _ h=>h;have kk:dF ψ h w w':=dF.grown hg (fun b e=>⟨dr,hold,oD b e⟩);have sm:=kk.same g;have other:∀i b,h i≠none→i≠dr→ob (ψ i)=some b→w'.heap[b]? = w.heap[b]? := fun i b h1 h2 h3 =>hg.block b (g.cc ⟨i,h1,h3⟩) (fun e=>h2 (g.apart i dr b h1 hold h3 (oD b e.symm)));have at_:∀i,i≠id→fq (fq h dr none) id (some (.own ok y)) i≠none→h i≠none∧i≠dr:=fun i hi h1=>by
  rw[dH _ _ hi]at h1;by_cases e:i=dr
  ·subst e;rw[bD]at h1;exact absurd rfl h1
  ·rw[dH _ _ e]at h1;exact⟨h1,e⟩
 have ids:∀i,fq (fq h dr none) id (some (.own ok y)) i≠none→(h i≠none∧fq ψ id v i=ψ i)∨i=id:=fun i h1=>by
  by_cases e:i=id
  ·exact .inr e
  ·exact .inl ⟨(at_ i e h1).1,dH _ _ e⟩
 have vob:∀b,ob v=some b→ob (ψ dr)=some b∨w.heap.size≤b:=fun b hbb=>by
  rcases hb with hb|hb
  ·left;rw[←hb];exact hbb
  ·right;exact hb b hbb
 refine⟨fun _ h=>h,fun _ h=>.inl h,kk,fun i h1=>(ids i h1).imp (fun h=>h) (fun e=>by subst e;exact hN),⟨fun i BT cs sr=>?_,fun i ok' z sr=>?_,fun i b h1 h2=>?_,fun i i' b h1 h2 h3 h4=>?_,fun b hz=>adf (g.kO b hz) kk.size⟩⟩
 ·by_cases e:i=id
  ·subst e;rw[bD]at sr;cases sr
  ·have Dg:=at_ i e (by rw[sr];simp);rw[dH _ _ e,dH _ _ Dg.2]at sr;obtain⟨gg,us,h1,h2,h3,h4⟩:=g.box i BT cs sr;refine⟨gg,us,by rw[dH _ _ e];exact h1,(other i gg Dg.1 Dg.2 (by rw[h1];rfl)).trans h2,?_,h4⟩;exact h3.move (fun _ h=>h) sm (fun j hj hn=>(ids j hn).resolve_right hj) (bC i BT cs sr)
 ·by_cases e:i=id
  ·subst e;rw[bD]at sr;cases sr;rw[bD];exact hv
  ·have Dg:=at_ i e (by rw[sr];simp);rw[dH _ _ e,dH _ _ Dg.2]at sr;rw[dH _ _ e];exact(g.row i ok' z sr).kept (fun _ h=>h) sm (fun gg QF=>other i gg Dg.1 Dg.2 QF)
 ·by_cases e:i=id
  ·subst e;rw[bD]at h2;rcases vob b h2 with h3|h3
   ·exact g.live dr b hold h3
   ·exact⟨fun hz=>by have:=g.kO b hz;omega,.inl (by omega)⟩
  ·rw[dH _ _ e]at h2;exact g.live i b (at_ i e h1).1 h2
 ·have key:∀j,j≠id→fq (fq h dr none) id (some (.own ok y)) j≠none→ob (ψ j)=some b→ob v=some b→False:=fun j hj h5 h6 h7=>by
   obtain⟨h8,h9⟩:=at_ j hj h5;rcases vob b h7 with oC|oC
   ·exact h9 (g.apart j dr b h8 hold h6 oC)
   ·have:=g.cc ⟨j,h8,h6⟩;omega
  by_cases e:i=id<;>by_cases e':i'=id
  ·rw[e,e']
  ·subst e;rw[bD]at h3;rw[dH _ _ e']at h4;exact(key i' e' h2 h4 h3).elim
  ·subst e';rw[bD]at h4;rw[dH _ _ e]at h3;exact(key i e h1 h3 h4).elim
  ·rw[dH _ _ e]at h3;rw[dH _ _ e']at h4;exact g.apart i i' b (at_ i e h1).1 (at_ i' e' h2).1 h3 h4
def X2(w:World)(sz:Nat)(u:Value)(m:Nat)(news:List Value):Prop :=news.length=m*sz∧(∀q∈news,q.oneCell'=true)∧((u=.slice none 0 0∧m=0)∨∃a c,u=.slice (some a) m c∧∀(j:Nat) q,news[j]? = some q→w.cell? (a.add j)=some q)
theorem Ik{hh:Heap}(g:Good Z ψ hh.get w B0 O){x:AV}{u:Value}{k:K}{ys:List k.T}(hx:rowOf hh x k=some ys)(hr:aD Z ψ hh.get w x u):∃news,X2 w k.sz u ys.length news∧pw Z w k ys news:=by
 rcases QG g hx hr with⟨rfl,rfl⟩|⟨a,c,news,h1,_,h2,h3,h4,h5⟩
 ·exact⟨[],⟨by simp,by simp,.inl ⟨rfl,rfl⟩⟩,fun i x hx=>by simp at hx⟩
 ·exact⟨news,⟨h2,h4,.inr ⟨a,c,h1,h3⟩⟩,h5⟩
theorem gF{t ty e:TypeId}{i:TypeInfo}(ht:P.underlying t=some (.slice e))(hi:P.info? e=some i)(A:Option Addr)(n c:Nat)(hc:n≤c)(A':Option Addr)(c':Nat) :
  (Builtin.append_ #[t,t] ty #[.slice A n c,.slice A' 0 c']).run P w=.ok (.slice A n c) w:=by
 cases A<;>cases A'<;>simp[Builtin.append_,run_underlying ht,sizeOf,typeInfo,hi,Builtin.lenOf,Builtin.firstCells,hc,storeCells,loadCells,loadCellsFrom]
theorem eP{t ty e:TypeId}{k:K}{i:TypeInfo}{z:Value}(ht:P.underlying t=some (.slice e))(he:pC P e k i z){v:Value}{n:Nat}{xs:List Value}(ho:fF w e k.sz v n xs) {u:Value} {m:Nat} {news:List Value} (hu:X2 w k.sz u m news) (hm:n+m≤gy) :
  ∃v' w',(Builtin.append_ #[t,t] ty #[v,u]).run P w=.ok v' w'∧fF w' e k.sz v' (n+m) (xs++news)∧w.grownBy w' (ob v)∧(ob v'=ob v∨∀b,ob v'=some b→w.heap.size≤b):=by
 obtain⟨h1,h3,hu⟩:=hu;obtain⟨A0,c0,Xz⟩:=ho.slice;by_cases hm0:m=0
 ·subst hm0;have adF:news=[]:=acg (by rw[h1,Nat.zero_mul]);subst adF;have A6:n≤c0:=by
   rcases ho.2 with⟨h0,A,e⟩|⟨g,cap,cur,e,hc,h2,h3,_⟩
   ·omega
   ·rw[Xz]at e;cases e;exact h3
  refine⟨v,w,?_,by simpa using ho,World.grownBy.refl w _,.inl rfl⟩;subst Xz;rcases hu with⟨rfl,_⟩|⟨a,c,rfl,_⟩<;>exact gF ht he.info A0 n c0 A6 _ _
 ·rcases hu with⟨_,h0⟩|⟨a,c,rfl,h2⟩
  ·exact absurd h0 hm0
  have hb:=he.bytes;unfold gy at hm;have nC:(n+m)*i.bytes≤140737488355328:=acN (aea hm hb) (by decide);have new:∀v',w.heap.size≤w.heap.size→∀(w':World),w'.ownsRow w.heap.size e k.sz v' (n+m) (xs++news)→∀b,ob v'=some b→w.heap.size≤b:=fun v' _ w' pG b hb=>by
   rcases pG.2 with⟨rfl,_⟩|⟨g,cap,cur,rfl,h5,_⟩
   ·simp[ob]at hb
   ·simp only[ob]at hb
    split at hb
    ·cases hb
    ·cases hb;exact h5
  rcases ho.2 with⟨rfl,A,rfl⟩|⟨g,cap,cur,rfl,abf,h4,h5,h6,h7,h8⟩
  ·have A7:xs=[]:=acg (by rw[ho.1,Nat.zero_mul]);subst A7;have oD:ob (.slice A 0 0)=none:=by cases A<;>simp[ob]
   cases A with
   |none =>obtain⟨v',w',hr,h4,h5,_,h6⟩:=run_append_own_at (P:=P) w w.heap.size t ty e i z k.sz i.bytes ht he.info he.zero he.size rfl he.xm k.jz (.slice none 0 0) 0 [] ⟨by simp,.inl ⟨rfl,rfl⟩⟩ a m c news h1 h2 h3 (by simp only[maxLen];omega) nC (ack _);exact⟨v',w',hr,fF.of h4,by rw[oD];exact h5,.inr (new v' (ack _) w' h4)⟩
   |some b0 =>obtain⟨v',w',hr,h4,h5⟩:=run_append_arg_grows (P:=P) w t ty e i z k.sz i.bytes ht he.info he.zero he.size rfl he.xm k.jz b0 0 0 [] (by simp) (by simp) a m c news h1 h2 (by omega) (by simp only[maxLen];omega) nC;exact⟨v',w',hr,fF.of h4,by rw[oD];exact h5,.inr (new v' (ack _) w' h4)⟩
  ·have vZ:w.ownsRow 0 e k.sz (.slice (some ⟨g,0,none⟩) n cap) n xs:=⟨ho.1,.inr ⟨g,cap,cur,rfl,adq _,h4,h5,h6,h7,h8⟩⟩;have oD:ob (.slice (some ⟨g,0,none⟩) n cap)=some g:=by simp only[ob];rw[if_neg (by omega)]
   obtain⟨v',w',hr,h4,h5,_,h6⟩:=run_append_own_at (P:=P) w 0 t ty e i z k.sz i.bytes ht he.info he.zero he.size rfl he.xm k.jz _ n xs vZ a m c news h1 h2 h3 (by simp only[maxLen];omega) nC (adq _);refine⟨v',w',hr,fF.of h4,by rw[oD];exact h5,?_⟩;rw[oD];rcases h4.2 with⟨rfl,h0⟩|⟨g',ai1,kb,rfl,_,_,h9,_⟩
   ·omega
   ·have X3:ob (.slice (some ⟨g',0,none⟩) (n+m) ai1)=some g':=by simp only[ob];rw[if_neg (by omega)]
    rw[X3];simp only[Value.ownBlock,Option.some.injEq]at h6;rcases h6 with h6|h6
    ·left;rw[h6]
    ·right;intro b hb;cases hb;omega
theorem aD.ss{h h':Hp}(hs:∀id o,h' id=some o→h id=some o){a:AV}{v:Value}(hr:aD Z ψ h w a v):aD Z ψ h' w a v :=hr.less (fun _ h=>h) (cU.refl _ _) (fun id bR=>by obtain⟨o,ho⟩:=abN.1 bR;exact⟨by rw[hs id o ho];simp,rfl⟩)
theorem ax.ss{h h':Hp}(hs:∀id o,h' id=some o→h id=some o){a:List AV}{v:List Value}(hr:ax Z ψ h w a v):ax Z ψ h' w a v :=hr.less (fun _ h=>h) (cU.refl _ _) (fun id bR=>by obtain⟨o,ho⟩:=abN.1 bR;exact⟨by rw[hs id o ho];simp,rfl⟩)
theorem r9{hh:Heap}(g:Good Z ψ h w B0 O)(bI:∀id o,hh.get id=some o→h id=some o)(hB:B0≤w.heap.size){id:Nat}(hN:N id){t ty e:TypeId}{k:K}{i:TypeInfo}{z:Value}(ht:P.underlying t=some (.slice e))(he:pC P e k i z) {x:AV} {u:Value} {ys:List k.T} (hx:rowOf hh x k=some ys) (hr:aD Z ψ h w x u) (hm:ys.length≤gy) (bC:∀i ty cs,h i=some (.box ty cs)→aJ (fun i=>i≠id) cs) :
  ∃v' w',(Builtin.append_ #[t,t] ty #[.slice none 0 0,u]).run P w=.ok v' w'∧Next Z ψ h w B0 O N Z (fq ψ id v') (fq h id (some (.own (.row e k) ys))) w'∧v'.cells=#[v']∧v'.oneCell'=true:=by
 obtain⟨news,zn,hv⟩:=Ik (g.sub bI) hx (hr.ss bI);have F8:fF w e k.sz (.slice none 0 0) 0 []:=⟨by simp,.inl ⟨rfl,none,rfl⟩⟩;obtain⟨v',w',ep,h4,h5,h6⟩:=eP (ty:=ty) ht he F8 zn (by omega);have hg:w.grownBy w' none:=h5;have kk:dF ψ h w w':=dF.grown hg (fun b e=>by cases e);have sm:=kk.same g;refine⟨v',w',ep,s5 g hB id e hN (vs:=news) kk (fun b hb=>hg.block b (g.cc hb) (by simp)) (by simpa using h4) (fun i x hx=>(hv i x hx).mono (fun _ h=>h) sm) (fun b hb=>?_) bC,h4.one⟩;rcases h6 with h6|h6
 ·rw[h6]at hb;simp[ob]at hb
 ·exact h6 b hb
theorem BX{hh:Heap}(g:Good Z ψ h w B0 O)(bI:∀id o,hh.get id=some o→h id=some o)(hB:B0≤w.heap.size){id dr:Nat}(hN:N id)(bq:dr≠id){t ty e:TypeId}{k:K}{i:TypeInfo}{z:Value}(ht:P.underlying t=some (.slice e))(he:pC P e k i z) {xs:List k.T} (ho:h dr=some (.own (.row e k) xs)) {x:AV} {u:Value} {ys:List k.T} (hx:rowOf hh x k=some ys) (hr:aD Z ψ h w x u) (hm:xs.length+ys.length≤gy) (bC:∀i ty cs,h i=some (.box ty cs)→aJ (fun i=>i≠id) cs) :
  ∃v' w',(Builtin.append_ #[t,t] ty #[ψ dr,u]).run P w=.ok v' w'∧Next Z ψ h w B0 O N Z (fq ψ id v') (fq (fq h dr none) id (some (.own (.row e k) (xs++ys)))) w'∧v'.cells=#[v']∧v'.oneCell'=true:=by
 obtain⟨news,zn,hv⟩:=Ik (g.sub bI) hx (hr.ss bI);obtain⟨vs,ho0,Xz⟩:=g.row dr (.row e k) xs ho;obtain⟨v',w',ep,h4,h5,h6⟩:=eP (ty:=ty) ht he ho0 zn hm;have hold:h dr≠none:=by rw[ho];simp
 have kk:dF ψ h w w':=dF.grown h5 (fun b e=>⟨dr,hold,e⟩);have sm:=kk.same g;refine⟨v',w',ep,s6 g hB id dr hN ho bq h5 (ok:=.row e k) (y:=xs++ys) ⟨_,by rw[List.length_append];exact h4,(Xz.append hv ho0.1).Kc sm⟩ h6 bC,h4.one⟩
theorem Dh{hh:Heap}(g:Good Z ψ h w B0 O)(bI:∀id o,hh.get id=some o→h id=some o)(hB:B0≤w.heap.size){id:Nat}(hN:N id){t ty e:TypeId}{k:K}{i:TypeInfo}{z:Value}(ht:P.underlying t=some (.slice e))(he:pC P e k i z) {xs:List k.T} {v:Value} (hd:aD Z ψ h w (.sl true k xs) v) {x:AV} {u:Value} {ys:List k.T} (hx:rowOf hh x k=some ys) (hr:aD Z ψ h w x u) (M4:0<ys.length∨xs=[]) (hm:xs.length+ys.length≤gy) (bC:∀i ty cs,h i=some (.box ty cs)→aJ (fun i=>i≠id) cs) :
  ∃v' w',(Builtin.append_ #[t,t] ty #[v,u]).run P w=.ok v' w'∧Next Z ψ h w B0 O N Z (fq ψ id v') (fq h id (some (.own (.row e k) (xs++ys)))) w'∧v'.cells=#[v']∧v'.oneCell'=true:=by
 simp only[aD]at hd;obtain⟨hd,hex⟩:=hd;obtain⟨A,c,SP⟩:=hex trivial;rcases vY hd with⟨rfl,rfl⟩|⟨a,c',adG,h1,_,h2,h3,h4,h5⟩
 ·have:=r9 (ty:=ty) (N:=N) g bI hB hN ht he hx hr (by omega) bC;simpa using this
 ·rw[h1]at SP;cases SP;obtain⟨news,⟨h6,h7,hu⟩,hv⟩:=Ik (g.sub bI) hx (hr.ss bI);by_cases hy0:ys.length=0
  ·have hy:ys=[]:=acg hy0;have A7:xs=[]:=M4.resolve_left (by omega);subst A7;have F8:fF w e k.sz (.slice (some a) 0 0) 0 []:=⟨by simp,.inl ⟨rfl,_,rfl⟩⟩;refine⟨v,w,?_,s5 g hB id e hN (vs:=[]) (dF.refl _ _ _) (fun _ _=>rfl) (by rw[hy,h1];exact F8) (fun i x hx=>by rw[hy]at hx;simp at hx) (fun b hb=>by rw[h1]at hb;simp[ob]at hb) bC,by rw[h1];exact F8.one⟩;rw[h1];rw[hy0]at hu;rcases hu with⟨rfl,_⟩|⟨b,cu,rfl,_⟩<;>exact gF ht he.info _ _ _ (ack _) _ _
  rcases hu with⟨_,h0⟩|⟨b,cu,rfl,h8⟩
  ·omega
  ·have hb:=he.bytes;unfold gy at hm;have nC:(xs.length+ys.length)*i.bytes≤140737488355328:=acN (aea hm hb) (by decide);obtain⟨v',w',ep,h9,oC⟩:=run_append_arg_grows (P:=P) w t ty e i z k.sz i.bytes ht he.info he.zero he.size rfl he.xm k.jz a xs.length xs.length adG h2 h3 b ys.length cu news h6 h8 (by omega) (by simp only[maxLen];omega) nC;have kk:dF ψ h w w':=dF.grown oC (fun b e=>by cases e);have sm:=kk.same g;have h9':fF w' e k.sz v' (xs++ys).length (adG++news):=by rw[List.length_append];exact fF.of h9
   subst h1;refine⟨v',w',ep,s5 g hB id e hN kk (fun b hb=>oC.block b (g.cc hb) (by simp)) h9' ((h5.append hv h2).Kc sm) (fun b hb=>?_) bC,h9'.one⟩;rcases h9.2 with⟨e1,_⟩|⟨gg,cap,cur,e1,e2,_⟩
   ·rw[e1]at hb;simp[ob]at hb
   ·rw[e1]at hb;simp only[ob]at hb
    split at hb
    ·cases hb
    ·cases hb;omega
theorem xn:∀(vs:List Value) (k off:Nat) (cells:Array Value),(vs.zipIdx k).foldl (fun cs (p:Value×Nat)=>cs.setIfInBounds (off+p.2) p.1) cells=(fh cells.toList (off+k) vs).toArray
 |[],k,off,cells=>by simp[fh]
 |v::r,k,off,cells=>by simp only[List.zipIdx_cons,List.foldl_cons,fh];rw[xn r (k+1) off];simp[Nat.add_assoc]
theorem A8(V:Array Value)(off:Nat)(cells:Array Value) :
  V.zipIdx.foldl (fun cs (p:Value×Nat)=>cs.setIfInBounds (off+p.2) p.1) cells=(fh cells.toList off V.toList).toArray:=by
 rw[←Array.foldl_toList,Array.toList_zipIdx];exact xn V.toList 0 off cells
theorem vg{α:Type}:∀(vs cs:List α) (off:Nat),(fh cs off vs).length=cs.length
 |[],_,_=>rfl
 |v::r,cs,off=>by simp only[fh];rw[vg r];simp
theorem ax.fh:∀{vs cs:List AV} {us ds:List Value} (off:Nat),ax Z ψ h w vs us→ax Z ψ h w cs ds→ax Z ψ h w (fh cs off vs) (fh ds off us)
 |[],cs,us,ds,off,h1,h2=>by simp only[ax]at h1;subst h1;exact h2
 |v::r,cs,us,ds,off,h1,h2=>by simp only[ax]at h1;obtain⟨u,jU,rfl,h3,h4⟩:=h1;simp only[Vs.fh];exact ax.fh (off+1) h4 (h2.set off h3)
theorem aD.cells{a:AV}{v:Value}(hk:a≠.no)(hr:aD Z ψ h w a v):ax Z ψ h w a.cells v.cells.toList:=by
 cases a with
 |no=>exact absurd rfl hk
 |agg cs=>simp only[aD]at hr;obtain⟨vs,rfl,hr⟩:=hr;simpa[AV.cells,Value.cells] using hr
 |bool b=>simp only[aD]at hr;subst hr;simp[AV.cells,Value.cells,ax,aD]
 |int k n=>simp only[aD]at hr;subst hr;simp[AV.cells,Value.cells,ax,aD]
 |str s=>simp only[aD]at hr;subst hr;simp[AV.cells,Value.cells,ax,aD]
 |mC=>simp only[aD]at hr;subst hr;simp[AV.cells,Value.cells,ax,aD]
 |ib=>simp only[aD]at hr;subst hr;simp[AV.cells,Value.cells,ax,aD]
 |ref id s i off=>obtain⟨a,rfl,h2⟩:=(by simpa only[aD] using hr:∃a,v=.pointer (some a)∧_);simp only[AV.cells,Value.cells,ax];exact⟨_,[],by simp,hr,rfl⟩
 |fp k x off=>obtain⟨a,us,rfl,h2⟩:=(by simpa only[aD] using hr:∃a us,v=.pointer (some a)∧_);simp only[AV.cells,Value.cells,ax];exact⟨_,[],by simp,hr,rfl⟩
 |sl ex k xs =>
  have ud:=hr;simp only[aD,aP]at ud;obtain⟨⟨v',hv,A,c,rfl,_⟩,_⟩:=ud
  cases hv
  simp only[AV.cells,Value.cells,ax];exact⟨_,[],by simp,hr,rfl⟩
 |bV id =>have ud:=hr;simp only[aD]at ud;obtain⟨⟨hc,_⟩,_⟩:=ud;simp only[AV.cells,ax,hc];exact⟨_,[],by simp,hr,rfl⟩
 |mp kk vk es =>
  have ud:=hr;simp only[aD,aP]at ud;obtain⟨A,hv,_⟩:=ud
  cases hv
  simp only[AV.cells,Value.cells,ax];exact⟨_,[],by simp,hr,rfl⟩
 |fn f cap =>have ud:=hr;simp only[aD]at ud;obtain⟨vs,rfl,_⟩:=ud;simp only[AV.cells,Value.cells,ax];exact⟨_,[],by simp,hr,rfl⟩
 |pe vs =>have ud:=hr;simp only[aD]at ud;obtain⟨us,rfl,_⟩:=ud;simp only[AV.cells,Value.cells,ax];exact⟨_,[],by simp,hr,rfl⟩
def vh(Z:Nat→Prop)(ψ:Nat→Value)(h:Hp)(w:World):List (Nat×AV)→List (Nat×Value)→Prop
 |[],[]=>True
 |p::r,q::s=>p.1=q.1∧p.2≠.no∧aD Z ψ h w p.2 q.2∧vh Z ψ h w r s
 |_,_=>False
theorem Ke{place:Nat→Option (Nat×Nat)}:∀{ps:List (Nat×AV)} {qs:List (Nat×Value)} {cs cs':List AV} {cells:Array Value},vh Z ψ h w ps qs→ax Z ψ h w cs cells.toList→GG place cs ps=some cs' → ∃g8,Instr.fill place cells qs=some g8∧ax Z ψ h w cs' g8.toList
 |[],[],cs,cs',cells,_,hr,hf=>by simp only[GG]at hf;cases hf;exact⟨cells,rfl,hr⟩
 |[],_::_,_,_,_,hp,_,_=>hp.elim
 |_::_,[],_,_,_,hp,_,_=>hp.elim
 |(i,a)::ps,(j,v)::qs,cs,cs',cells,hp,hr,hf=>by
  obtain⟨rfl,su,hv,hp⟩:=hp;simp only[GG]at hf;simp only at su hv;have SP:=hv.cells su;have hl:=SP.length;have v5:=hr.length;simp only[Array.length_toList]at hl v5;simp only[Instr.fill]
  split at hf
  ·cases hf
  ·rename_i off size hpl;simp only[hpl]
   split at hf
   ·cases hf
   ·rename_i hc;have XA:a.cells.length=size:=Decidable.not_not.1 (fun e=>hc (.inl e));have qS:¬off+a.cells.length>cs.length:=fun e=>hc (.inr e);rw[if_neg (by simp only[Bool.or_eq_true,decide_eq_true_eq];omega)];refine Ke hp ?_ hf;rw[A8,List.toList_toArray];exact SP.fh off hr
theorem Tu(fs:Array Field)(hi:∀f∈fs.toList,∃i,P.info? f.type=some i):(fs.mapM fun f=>do pure (f.offset,←sizeOf f.type):Sem (Array (Nat×Nat))).run P w=.ok (fs.map fun f=>(f.offset,P.cellsOf f.type)) w:=by
 rw[←Array.toArray_toList (xs:=fs)];generalize fs.toList=l at hi;have key:∀(l:List Field) (acc:Array (Nat×Nat)),(∀f∈l,∃i,P.info? f.type=some i) →(l.foldlM (fun(bs:Array (Nat×Nat)) f=>do let y ←(do pure (f.offset,←sizeOf f.type):Sem (Nat×Nat));pure (bs.push y)) acc:Sem (Array (Nat×Nat))).run P w=.ok (acc++(l.map fun f=>(f.offset,P.cellsOf f.type)).toArray) w:=by
  intro l
  induction l with
  |nil=>intro acc _;simp
  |cons f r ih =>intro acc hl;obtain⟨i,hi⟩:=hl f (by simp);simp only[List.foldlM_cons,Sem.run_bind,eE hi,Result.andThen_ok,Sem.run_pure];rw[ih _ (fun f hf=>hl f (List.mem_cons_of_mem _ hf))];simp
 have:=key l #[] hi;simp only[Array.mapM_eq_foldlM,List.size_toArray,List.foldlM_toArray'];simpa using this
theorem Il(v:Value):aD Z ψ h w (y0 v) v:=by
 cases v with
 |bool b=>simp only[y0,aD]
 |int k n=>simp only[y0,aD]
 |string s=>simp only[y0,aD]
 |pointer a =>
  simp only[y0];split
  ·rename_i e;subst e;simp only[aD]
  ·simp only[aD]
 |slice a n c =>
  simp only[y0];split
  ·rename_i e;obtain⟨rfl,rfl,rfl⟩:=e;simp only[aD]
  ·simp only[aD]
 |func fn first cap =>
  cases fn with
  |func f =>
   simp only[y0];split
   ·rename_i e;have h1:first=#[]:=adt e.1
    have h2:cap=#[]:=adt e.2;subst h1;subst h2;simp only[aD];exact⟨#[],rfl,by simp[ax]⟩
   ·simp only[aD]
  |_=>simp only[y0,aD]
 |_=>simp only[y0,aD]
theorem Di:∀vs:List Value,ax Z ψ h w (vs.map y0) vs
 |[]=>by simp[ax]
 |v::r=>by simp only[List.map_cons,ax];exact⟨v,r,rfl,Il v,Di r⟩
theorem Kf(v:Value):aD Z ψ h w (vO v) v:=by
 cases v with
 |agg cs=>simp only[vO,aD];exact⟨cs,rfl,Di _⟩
 |_=>simp only[vO];exact Il _
theorem GM(v:Value):(y0 v).cells=[y0 v]:=by
 cases v with
 |pointer a=>simp only[y0];split<;>rfl
 |slice a n c=>simp only[y0];split<;>rfl
 |func fn first cap =>
  cases fn with
  |func f=>simp only[y0];split<;>rfl
  |_=>rfl
 |_=>rfl
theorem Dk(v:Value):ax Z ψ h w (vO v).cells v.cells.toList:=by
 cases v with
 |agg cs=>simp only[vO,AV.cells,Value.cells];exact Di _
 |_ =>simp only[vO];rw[GM];simp only[ax];exact⟨_,[],rfl,Il _,rfl⟩
theorem q6{t:TypeId}{zs:List AV}(hz:CZ P t=some zs):∃i z,P.info? t=some i∧i.zero=some z∧zs=(vO z).cells∧∀u∈z.cells.toList,u.oneCell'=true:=by
 unfold CZ at hz;obtain⟨i,hi,A9⟩:=ac4.1 hz;obtain⟨z,FV,MM⟩:=ac4.1 A9
 split at MM
 ·rename_i fX
  cases MM
  exact⟨i,z,hi,FV,rfl,fun u hu=>ac3.1 fX u hu⟩
 ·cases MM
theorem xp{t:TypeId}{i:TypeInfo}{z:Value}(hi:P.info? t=some i)(hz:i.zero=some z):(zeroValue t).run P w=.ok z w:=by simp[zeroValue,typeInfo,hi,hz]
theorem QI{t:TypeId}{fs:Array Field}{zs cs:List AV}{ps:List (Nat×AV)}{qs:Array (Nat×Value)}(hz:CZ P t=some zs)(ht:P.underlying t=some (.struct fs))(fX:fs.toList.all (fun f=>(P.info? f.type).isSome)=true) (hp:vh Z ψ h w ps qs.toList) (hf:GG (fun i=>(fs[i]?).map fun f=>(f.offset,P.cellsOf f.type)) zs ps=some cs) :
  ∃V,(Instr.build t qs).run P w=.ok V w∧aD Z ψ h w (.agg cs) V:=by
 obtain⟨i,z,hi,hzz,rfl,_⟩:=q6 hz;obtain⟨g8,h1,h2⟩:=Ke hp (Dk z) hf;have hpl:=Tu (P:=P) (w:=w) fs (fun f hf=>abC.1 (ac3.1 fX f hf));refine⟨.agg g8,?_,by simp only[aD];exact⟨_,rfl,h2⟩⟩;have XB:Instr.fill (fun x=>(fs.map fun f=>(f.offset,P.cellsOf f.type))[x]?) z.cells qs.toList=some g8:=by rw[←h1];congr 1;funext x;simp
 simp only[Instr.build,Sem.run_bind,xp hi hzz,run_underlying ht,Result.andThen_ok,hpl,XB];rfl
theorem M8:∀(k:K) (cs:List AV) (x:k.T) (r:List AV),dec k cs=some (x,r)→cs.head?≠some .no
 |.int ik,cs,x,r,h,hc=>by
  cases cs with
  |nil=>simp at hc
  |cons a s=>simp at hc;subst hc;simp[dec,Ib]at h
 |.bool,cs,x,r,h,hc=>by
  cases cs with
  |nil=>simp at hc
  |cons a s=>simp at hc;subst hc;simp[dec,Ce]at h
 |.str,cs,x,r,h,hc=>by
  cases cs with
  |nil=>simp at hc
  |cons a s=>simp at hc;subst hc;simp[dec,Ic]at h
 |.sl k,cs,x,r,h,hc=>by
  cases cs with
  |nil=>simp at hc
  |cons a s=>simp at hc;subst hc;simp[dec,OX]at h
 |.pair a b,cs,x,r,h,hc=>by
  simp only[dec]at h
  split at h
  ·rename_i x1 r1 h1;exact M8 a cs x1 r1 h1 hc
  ·cases h
 |.one k,cs,x,r,h,hc=>by simp only[dec]at h;exact M8 k cs x r h hc
 |.mp kk vk,cs,x,r,h,hc=>by
  cases cs with
  |nil=>simp at hc
  |cons a s=>simp at hc;subst hc;simp[dec,OY]at h
theorem GN{k:K}{hh:Heap}{a:AV}{x:k.T}(h:dZ k (a.cells.map (di hh))=some x):a≠.no:=by
 rintro rfl;unfold dZ at h
 split at h
 ·rename_i x' h1;exact M8 k _ _ _ h1 (by simp[AV.cells,di])
 ·cases h
theorem Kg{k:K}{hh:Heap}(g:Good Z ψ hh.get w B0 O)(hz:∀b,Z b→Z' b):∀{ps:List (Nat×AV)} {qs:List (Nat×Value)} {xs:List k.T} {i:Nat} {cells:Array Value},(∀p∈ps,∀id b,AV.bV id∈p.2.cells→hh.get id≠none→ob (ψ id)=some b→Z' b)→vh Z ψ hh.get w ps qs→sQ k hh i ps=some xs→(i+ps.length)*k.sz≤cells.size → ∃g8 flat,Instr.fill (fun i=>some (i*k.sz,k.sz)) cells qs=some g8∧g8.toList=cells.toList.take (i*k.sz)++flat++cells.toList.drop ((i+ps.length)*k.sz)∧flat.length=ps.length*k.sz∧pw Z' w k xs flat∧(∀q∈flat,q.oneCell'=true)∧xs.length=ps.length
 |[],[],xs,i,cells,_,_,hl,_=>by simp only[sQ]at hl;cases hl;exact⟨cells,[],rfl,by simp,by simp,fun i x hx=>by simp at hx,by simp,rfl⟩
 |[],_::_,_,_,_,_,hp,_,_=>hp.elim
 |_::_,[],_,_,_,_,hp,_,_=>hp.elim
 |(j,a)::ps,(j',v)::qs,xs,i,cells,hb,hp,hl,hs=>by
  obtain⟨hjj,su,hv,hp⟩:=hp;simp only at hjj su hv;subst hjj;simp only[sQ]at hl
  split at hl
  ·rename_i e;subst e
   split at hl
   ·rename_i y ys h1 h2
    cases hl
    simp only[List.length_cons]at hs;have SP:=hv.cells su;have hvw:=qf g hz (hb (j,a) (by simp)) SP;have hk:=eO h1 hvw;have QJ:=hk.len;rw[Array.length_toList]at QJ;have jV:j*k.sz+k.sz≤cells.size:=by have:(j+1)*k.sz≤(j+(ps.length+1))*k.sz:=acM _ (by omega);rw[Nat.succ_mul]at this;omega
    simp only[Instr.fill];rw[if_neg (by simp only[Bool.or_eq_true,decide_eq_true_eq];omega),A8];obtain⟨g8,flat,h3,h4,h5,h6,h7,h8⟩:=Kg g hz (ps:=ps) (qs:=qs) (xs:=ys) (i:=j+1) (cells:=(fh cells.toList (j*k.sz) v.cells.toList).toArray) (fun p hp=>hb p (aa1 _ hp)) hp h2 (by rw[List.size_toArray,vg];have e9:cells.toList.length=cells.size:=Array.length_toList;rw[e9,show j+1+ps.length=j+(ps.length+1) by omega];exact hs);refine⟨g8,v.cells.toList++flat,h3,?_,?_,?_,?_,by simp[h8]⟩
    ·rw[h4,List.toList_toArray,ue _ _ _ (by rw[Array.length_toList,Array.length_toList];omega)];have e1:(j+1)*k.sz=j*k.sz+k.sz:=ad5 _ _;have e2:(j+1+ps.length)*k.sz=(j+(ps.length+1))*k.sz:=by congr 1;omega
     rw[List.length_cons,e1,e2];have l1:(cells.toList.take (j*k.sz)++v.cells.toList).length=j*k.sz+k.sz:=by rw[List.length_append,List.length_take,Array.length_toList,Array.length_toList];omega
     rw[←l1,List.take_left];have l2:(j+(ps.length+1))*k.sz=(cells.toList.take (j*k.sz)++v.cells.toList).length+(ps.length*k.sz):=by rw[l1,Nat.add_mul,Nat.add_mul];omega
     have hd:(cells.toList.take (j*k.sz)++v.cells.toList++cells.toList.drop (j*k.sz+v.cells.toList.length)).drop ((j+(ps.length+1))*k.sz)=cells.toList.drop ((j+(ps.length+1))*k.sz):=by rw[l2,List.drop_append,List.drop_eq_nil_of_le (by omega),List.nil_append,Nat.add_sub_cancel_left,List.drop_drop];congr 1;rw[l1,Array.length_toList];omega
     rw[hd];simp[List.append_assoc]
    ·rw[List.length_append,h5,Array.length_toList,QJ,List.length_cons,Nat.succ_mul];omega
    ·intro n x hx
     cases n with
     |zero =>
      simp only[List.getElem?_cons_zero,Option.some.injEq]at hx;subst hx;have abh:v.cells.toList.length=k.sz:=by rw[Array.length_toList];exact QJ
      rw[Nat.zero_mul,List.drop_zero,←abh,List.take_left];exact hk
     |succ n =>
      have:=h6 n x (by simpa using hx);have abh:v.cells.toList.length=k.sz:=by rw[Array.length_toList];exact QJ
      have e:(n+1)*k.sz=v.cells.toList.length+n*k.sz:=by rw[abh,Nat.succ_mul];omega
      rw[e,List.drop_append,List.drop_eq_nil_of_le (by omega),List.nil_append,Nat.add_sub_cancel_left];exact this
    ·intro q hq;rcases abw.1 hq with hq|hq
     ·exact hk.one q hq
     ·exact h7 q hq
   ·cases hl
  ·cases hl
theorem Next.drop{Z1:Nat→Prop}{h1:Hp}(n:Next Z1 ψ h1 w B0 O N Z' ψ' h' w')(hz:∀b,Z b→Z1 b)(A9:∀b,Z1 b→Z b∨Own ψ h b)(bI:∀id o,h1 id=some o→h id=some o):Next Z ψ h w B0 O N Z' ψ' h' w':=by
 have hn:∀id,h1 id≠none→h id≠none:=fun id hn=>by obtain⟨o,ho⟩:=abN.1 hn;rw[bI id o ho];simp
 have ho:∀b,Own ψ h1 b→Own ψ h b:=fun b ⟨id,h2,h3⟩=>⟨id,hn id h2,h3⟩;refine⟨fun b hb=>n.g6 b (hz b hb),fun b hb=>?_,⟨n.keep.os,n.keep.tape,n.keep.output,n.keep.size,fun b hb su=>n.keep.block b hb (fun h=>su (ho b h))⟩,fun id bR=>(n.ids id bR).imp (fun⟨h2,h3⟩=>⟨hn id h2,h3⟩) (fun h=>h),n.fi⟩;rcases n.fN b hb with h2|h2|h2
 ·exact(A9 b h2).imp (fun h=>h) (fun h=>.inl h)
 ·exact .inr (.inl (ho b h2))
 ·exact .inr (.inr h2)
theorem vh.ss{h h':Hp}(hs:∀id o,h' id=some o→h id=some o):∀{ps:List (Nat×AV)} {qs:List (Nat×Value)},vh Z ψ h w ps qs→vh Z ψ h' w ps qs:=by
 intro ps
 induction ps with
 |nil=>intro qs hp;cases qs with
  |nil=>trivial
  |cons q r=>exact hp.elim
 |cons p r ih=>intro qs hp;cases qs with
  |nil=>exact hp.elim
  |cons q s=>exact⟨hp.1,hp.2.1,hp.2.2.1.ss hs,ih hp.2.2.2⟩
theorem Kh{hh:Heap}{Z1:Nat→Prop}(g:Good Z1 ψ h w B0 O)(g0:Good Z ψ hh.get w B0 O)(hz:∀b,Z b→Z1 b)(hB:B0≤w.heap.size){id:Nat}(hN:N id){t e:TypeId}{k:K}{i:TypeInfo}{z:Value}(ht:P.underlying t=some (.slice e))(he:pC P e k i z) {ps:List (Nat×AV)} {qs:Array (Nat×Value)} {xs:List k.T} (SQ:∀p∈ps,∀id b,AV.bV id∈p.2.cells→hh.get id≠none→ob (ψ id)=some b→Z1 b) (hp:vh Z ψ hh.get w ps qs.toList) (hl:sQ k hh 0 ps=some xs) (hn:ps.length*k.sz≤1048576) (bC:∀i ty cs,h i=some (.box ty cs)→aJ (fun i=>i≠id) cs) :
  ∃v' w',(Instr.buildSlice t ps.length qs).run P w=.ok v' w'∧Next Z1 ψ h w B0 O N Z1 (fq ψ id v') (fq h id (some (.own (.row e k) xs))) w'∧(v'.cells=#[v']∧v'.oneCell'=true)∧(∀b,Own ψ h b→w'.heap[b]? = w.heap[b]?)∧(∀b,ob v'=some b→w.heap.size≤b)∧∃A c,v'=.slice A c c:=by
 let Ki:Array Value:=(Array.range (ps.length*k.sz)).map (z.cells[· % z.cells.size]!)
 have BY:Ki.size=ps.length*k.sz:=by simp[Ki]
 obtain⟨g8,flat,h1,h2,h3,h4,h5,h6⟩:=Kg (Z':=Z1) g0 hz (ps:=ps) (qs:=qs.toList) (xs:=xs) (i:=0) (cells:=Ki) SQ hp hl (by rw[Nat.zero_add,BY];exact ack _);have ZU:g8.toList=flat:=by rw[h2,Nat.zero_mul,List.take_zero,List.nil_append,Nat.zero_add,List.drop_eq_nil_of_le (by rw[Array.length_toList,BY];exact Nat.le_refl _),List.append_nil]
 have QK:g8.size=ps.length*k.sz:=by rw[←Array.length_toList,ZU];exact h3
 have M4:=k.jz;have hlen:ps.length≤1048576:=acN (Nat.le_mul_of_pos_right _ M4) hn;have vZ:(w.alloc (.cells g8 e)).ownsRow 0 e k.sz (.slice (some ⟨w.heap.size,0,none⟩) ps.length ps.length) xs.length flat:=by have:=World.ownsRow_lit (base:=0) (e:=e) (size:=k.sz) w g8 ps.length (adq _) (by simp only[maxLen];omega) QK;rw[h6,←ZU];exact this
 refine⟨.slice (some ⟨w.heap.size,0,none⟩) ps.length ps.length,w.alloc (.cells g8 e),?_,s5 g hB id e hN (vs:=flat) (dF.alloc _ _ _ _) (fun b hb=>heap_alloc_old w _ (g.cc hb)) (fF.of vZ) (h4.Kc ((dF.alloc ψ h w _).same g)) (fun b hb=>by simp only[ob]at hb;split at hb<;>cases hb;exact ack _) bC,(fF.of vZ).one,fun b hb=>heap_alloc_old w _ (g.cc hb),fun b hb=>by simp only[ob]at hb;split at hb<;>cases hb;exact ack _,_,_,rfl⟩
 ·show _=Result.ok (Value.slice (some ⟨w.heap.size,0,none⟩) ps.length ps.length) _;have Dl:¬ps.length*k.sz>2 ^ 24:=by omega
  have hc:P.cellsOf e=k.sz:=by simp[Program.cellsOf,he.info,he.size]
  simp only[Instr.buildSlice,Sem.run_bind,run_underlying ht,Result.andThen_ok,eE he.info,hc];rw[if_neg Dl];have F9:(newRow e g8).run P w=.ok ⟨w.heap.size,0,none⟩ (w.alloc (.cells g8 e)):=rfl;by_cases h0:ps.length*k.sz=0
  ·have X4:Ki=#[]:=adt (by rw[BY,h0]);have A9:(Array.range (ps.length*k.sz)).map (fun x=>(#[]:Array Value)[x%(#[]:Array Value).size]!)=#[]:=adt (by simp[h0]);rw[if_pos h0];rw[X4]at h1;simp only[Sem.run_pure,Result.andThen_ok,A9,h1,Sem.run_bind,F9]
  ·rw[if_neg h0];simp only[Sem.run_bind,xp he.info he.zero,Result.andThen_ok,Sem.run_pure];rw[show(Array.range (ps.length*k.sz)).map (fun x=>z.cells[x%z.cells.size]!)=Ki from rfl,h1];simp only[Sem.run_bind,F9,Result.andThen_ok,Sem.run_pure]
theorem Tv(g:Good Z ψ h w B0 O)(hB:B0≤w.heap.size){id:Nat}{e:TypeId}{k:K}{xs:List k.T}{v':Value}(n:Next Z ψ h w B0 O N Z (fq ψ id v') (fq h id (some (.own (.row e k) xs))) w') (ve:∀b,Own ψ h b→w'.heap[b]? = w.heap[b]?) (F9:∀b,ob v'=some b→w.heap.size≤b) (hex:∃A c,v'=.slice A c c) :
  Next Z ψ h w B0 O N (fun b=>Z b∨ob v'=some b) ψ h w'∧aD (fun b=>Z b∨ob v'=some b) ψ h w' (.sl true k xs) v':=by
 have qg:kH Z w' (.row e k) v' xs:=by
  have:=n.fi.row id (.row e k) xs (bD _ _ _)
  rwa [bD]at this
 obtain⟨vs,ho,hv⟩:=qg;have m:Next Z ψ h w B0 O (fun _=>False) Z ψ h w':=g.more n.keep ve (fun _ _=>⟨rfl,rfl⟩) (fun i ty cs hb=>by
  have e:(fun _:Nat=>¬False)=fun _=>True:=by funext i;simp
  rw[e];exact aJ.top cs) (fun _ _ _ h=>h.elim) (fun _ _ _ h=>h.elim) (fun _ _ h=>h.elim) (fun _ _ _ h=>h.elim) hB
 have hz:∀b,Z b→Z b∨ob v'=some b:=fun b h=>.inl h;refine⟨⟨hz,fun b hb=>hb.imp (fun h=>h) fun h=>.inr (F9 b h),m.keep,fun i hi=>.inl ((m.ids i hi).resolve_right (fun h=>h)),⟨fun i ty cs hb=>?_,fun i ok x hb=>?_,fun i b h1 h2=>?_,m.fi.apart,fun b hb=>?_⟩⟩,?_⟩
 ·obtain⟨gg,vs,f1,f2,f3,f4⟩:=m.fi.box i ty cs hb;exact⟨gg,vs,f1,f2,ax.less hz (cU.refl _ _) (fun _ h=>⟨h,rfl⟩) f3,f4⟩
 ·exact(m.fi.row i ok x hb).kept hz (cU.refl _ _) (fun _ _=>rfl)
 ·obtain⟨k1,k2⟩:=m.fi.live i b h1 h2;refine⟨fun hb=>hb.elim k1 fun hb=>?_,k2⟩;have:=g.cc ⟨i,h1,h2⟩;have:=F9 b hb;omega
 ·rcases hb with hb|hb
  ·exact m.fi.kO b hb
  ·exact kH.lt (ok:=.row e k) ⟨vs,ho,hv⟩ hb
 ·simp only[aD];exact⟨xk ho hv (fun b h=>.inl h) (fun b h=>.inr h),fun _=>hex⟩
end Go.Vs
