/- The value semantics of the -/
import Derived.Control
import Derived.Calls
import Derived.Orders
import GoSem.Machine.Frame
import Derived.Laws.AppendOwn
import GoSem.Core.Utf8
import Derived.Below
import Derived.Laws.OwnMore
import Derived.Laws.Rows
import Derived.Deep.Draws
import Derived.Laws.CopyRow
import Derived.Laws.Cells
import Derived.Laws.Sem
import Derived.Maps.AppendAt
import Derived.ArgAppend
import Derived.WalkKit
namespace Go
abbrev aa5:=@List.mem_cons_of_mem
abbrev aba:=@List.getElem?_eq_getElem
abbrev abg:=@List.getElem?_eq_some_iff
abbrev abn:=@List.mem_cons
abbrev abo:=@List.mem_append_right
abbrev abt:=@List.mem_append_left
abbrev abu:=@List.mem_cons_self
abbrev abv:=@Array.getElem?_eq_some_iff
abbrev abx:=@List.nodup_cons
abbrev abH:=@List.mem_append
abbrev abK:=@Option.some.inj
abbrev abM:=@Option.isSome_iff_exists
abbrev abT:=@Option.ne_none_iff_exists'
abbrev abU:=@List.eq_nil_of_length_eq_zero
abbrev abY:=@List.mem_map
abbrev abZ:=@Nat.le_refl
abbrev ab1:=@List.mem_of_getElem?
abbrev ab5:=@List.mem_of_find?_eq_some
abbrev ach:=@Array.getElem?_eq_getElem
abbrev acr:=@List.rel_of_pairwise_cons
abbrev acB:=@List.getElem_mem
abbrev acE:=@Nat.mul_le_mul_right
abbrev acH:=@Nat.le_trans
abbrev acM:=@List.map_congr_left
abbrev acQ:=@List.all_eq_true
abbrev acR:=@Option.bind_eq_some_iff
abbrev acS:=@Option.map_eq_some_iff
abbrev acV:=@List.nodup_append
abbrev ac9:=@List.Perm.append_right
abbrev adj:=@List.drop_eq_getElem_cons
abbrev adx:=@List.length_filter_le
abbrev ady:=@List.append_of_mem
abbrev adz:=@List.mem_range
abbrev adA:=@List.mem_flatten
abbrev adB:=@Nat.lt_of_lt_of_le
abbrev adC:=@List.mem_filter
abbrev adD:=@List.getElem?_of_mem
abbrev adE:=@List.perm_middle
abbrev adF:=@List.perm_append_comm
abbrev adG:=@List.ext_getElem?
abbrev adH:=@List.find?_some
abbrev adI:=@List.length_pos_of_mem
abbrev adJ:=@List.getElem_of_mem
abbrev adK:=@Array.mem_of_getElem?
abbrev adL:=@Nat.zero_le
abbrev adM:=@List.mem_of_mem_drop
abbrev adN:=@Array.all_eq_true_iff_forall_mem
abbrev adO:=@List.filter_eq_self
abbrev adP:=@Array.eq_empty_of_size_eq_zero
abbrev adQ:=@List.countP_le_length
abbrev adR:=@Nat.mod_lt
abbrev adS:=@List.mem_of_mem_take
abbrev adT:=@Nat.lt_or_ge
abbrev adU:=@List.drop_eq_nil_of_le
abbrev adV:=@List.pairwise_iff_getElem
abbrev adW:=@List.Perm.refl
abbrev adX:=@List.ne_nil_of_mem
abbrev adY:=@List.Pairwise.of_cons
abbrev adZ:=@List.mem_of_mem_erase
abbrev ad2:=@Nat.mod_eq_of_lt
abbrev ad3:=@List.mem_of_mem_tail
abbrev ad5:=@List.mem_erase_of_ne
abbrev ad8:=@Nat.succ_mul
abbrev ad9:=@List.mem_filterMap
abbrev aem:=@Nat.mul_le_mul
end Go
namespace Go.Vs
inductive K where
 |int (k:IntKind)|bool|str|sl (k:K)|pair (a b:K)|one (k:K)|mp (kk vk:K)
 deriving DecidableEq
def K.T:K→Type
 |.int _=>Int
 |.bool=>Bool
 |.str=>ByteArray
 |.sl k=>List k.T
 |.pair a b=>a.T×b.T
 |.one k=>k.T
 |.mp kk vk=>List (kk.T×vk.T)
def K.sz:K→Nat
 |.pair a b=>a.sz+b.sz
 |.one k=>k.sz
 |_=>1
def sV(P:Program):Nat→TypeId→Option K
 |0,_=>none
 |d+1,t =>
  match P.underlying t with
  |some (.int k)=>some (.int k)
  |some .bool=>some .bool
  |some .string=>some .str
  |some (.slice e)=>(sV P d e).map .sl
  |some (.map a b)=>match sV P d a,sV P d b with
   |some x,some y=>some (.mp x y)
   |_,_=>none
  |some (.struct fs) =>
   match (fs.toList.map fun f=>sV P d f.type).reverse with
   |[]=>none
   |[k]=>k.map .one
   |last::rest=>rest.foldl (fun acc k=>match k,acc with|some k,some a=>some (.pair k a)|_,_=>none) last
  |_=>none
def K.flat:K→Bool
 |.sl _=>false
 |.mp _ _=>false
 |.pair a b=>a.flat&&b.flat
 |.one k=>k.flat
 |_=>true
def K.isAgg:K→Bool
 |.pair _ _=>true
 |.one _=>true
 |_=>false
inductive AV where
 |no
 |bool (b:Bool)
 |int (k:IntKind) (n:Int)
 |str (s:ByteArray)
 |mL
 |il
 |ref (id s i off:Nat)
 |fp (k:K) (x:k.T) (off:Nat)
 |sl (ex:Bool) (k:K) (xs:List k.T)
 |mp (kk vk:K) (es:List (kk.T×vk.T))
 |bY (id:Nat)
 |fn (f:FuncId) (cap:List AV)
 |agg (cs:List AV)
 |pH (vs:List AV)
def AV.isAgg:AV→Bool
 |.agg _=>true
 |_=>false
def AV.cells:AV→List AV
 |.agg cs=>cs
 |v=>[v]
def enc:(k:K)→k.T→List AV
 |.int ik,n=>[.int ik n]
 |.bool,b=>[.bool b]
 |.str,s=>[.str s]
 |.sl k,xs=>[.sl false k xs]
 |.mp kk vk,es=>[.mp kk vk es]
 |.pair a b,x=>enc a x.1++enc b x.2
 |.one k,x=>enc k x
def Is(ik:IntKind):List AV→Option (Int×List AV)
 |.int ik' n::r=>if ik'=ik then some (n,r) else none
 |_=>none
def Cg:List AV→Option (Bool×List AV)
 |.bool b::r=>some (b,r)
 |_=>none
def It:List AV→Option (ByteArray×List AV)
 |.str s::r=>some (s,r)
 |_=>none
def Pq(k:K):List AV→Option (List k.T×List AV)
 |.sl _ k' xs::r=>if h:k'=k then some (h▸xs,r) else none
 |.il::r=>some ([],r)
 |_=>none
def Pr(kk vk:K):List AV→Option (List (kk.T×vk.T)×List AV)
 |.mp Ps Yo es::r=>if h:Ps=kk∧Yo=vk then some (h.1▸h.2▸es,r) else none
 |_=>none
def dec:(k:K)→List AV→Option (k.T×List AV)
 |.int ik,cs=>Is ik cs
 |.bool,cs=>Cg cs
 |.str,cs=>It cs
 |.sl k,cs=>Pq k cs
 |.mp kk vk,cs=>Pr kk vk cs
 |.pair a b,cs =>
  match dec a cs with
  |some (x,r)=>match dec b r with
   |some (y,r')=>some ((x,y),r')
   |none=>none
  |none=>none
 |.one k,cs=>dec k cs
def ep(k:K)(cs:List AV):Option k.T :=match dec k cs with
 |some (x,[])=>some x
 |_=>none
def cM:(k:K)→k.T→AV
 |.pair a b,x=>.agg (enc (.pair a b) x)
 |.one k,x=>.agg (enc (.one k) x)
 |.int ik,n=>.int ik n
 |.bool,b=>.bool b
 |.str,s=>.str s
 |.sl k,xs=>.sl false k xs
 |.mp kk vk,es=>.mp kk vk es
inductive OK where
 |row (ty:TypeId) (k:K)|map (kk vk:K)|iter (kk vk:K)|qg
 deriving DecidableEq
abbrev OK.T:OK→Type
 |.row _ k=>List k.T
 |.map kk vk=>List (kk.T×vk.T)
 |.iter kk vk=>Option (kk.T×vk.T)×List (kk.T×vk.T)
 |.qg=>ByteArray×Nat
inductive Ob where
 |box (ty:TypeId) (cs:List AV)
 |own (ok:OK) (x:ok.T)
abbrev Heap:=List (Nat×Ob)
def Heap.get:Heap→Nat→Option Ob
 |[],_=>none
 |(i,o)::r,n=>if i=n then some o else Heap.get r n
def Heap.del:Heap→Nat→Heap
 |[],_=>[]
 |(i,o)::r,n=>if i=n then Heap.del r n else(i,o)::Heap.del r n
def Heap.set(h:Heap)(n:Nat)(o:Ob):Heap:=(n,o)::h.del n
def dm(h:Heap):AV→AV
 |.bY id=>match h.get id with
  |some (.own (.row _ k) xs)=>.sl false k xs
  |some (.own (.map kk vk) es)=>.mp kk vk es
  |_=>.no
 |v=>v
def drop1(h:Heap):AV→Heap
 |.bY id=>h.del id
 |_=>h
def di(h:Heap):List AV→Heap
 |[]=>h
 |c::r=>di (drop1 h c) r
structure St where
 tmps:List (Nat×AV)
 heap:Heap
def look:List (Nat×AV)→Nat→AV
 |[],_=>.no
 |(i,v)::r,n=>if i=n then v else look r n
def St.put(s:St)(d:Option Tmp)(v:AV):St :=match d with
 |some d=>{ s with tmps:=(d,v)::s.tmps }
 |none=>s
def zu:Value→AV
 |.bool b=>.bool b
 |.int k n=>.int k n
 |.string s=>.str s
 |.pointer a=>if a=none then .mL else .no
 |.slice a n c=>if a=none∧n=0∧c=0 then .il else .no
 |.func fn first cap=>match fn with
  |.func f=>if first.size=0∧cap.size=0 then .fn f [] else .no
  |_=>.no
 |_=>.no
def wx(v:Value):AV :=match v with
 |.agg cs=>.agg (cs.toList.map zu)
 |v=>zu v
def ρ(s:List (Nat×AV)):Operand→AV
 |.tmp t=>look s t
 |.const v=>wx v
 |.global _=>.no
 |.func f=>.fn f []
inductive bZ where
 |val (v:AV)
 |new (v:AV) (os:Heap)
 |wr (v:AV) (h:Heap)
def bZ.v:bZ→AV
 |.val v=>v
 |.new v _=>v
 |.wr v _=>v
def bZ.h(h:Heap):bZ→Heap
 |.val _=>h
 |.new _ os=>os++h
 |.wr _ h'=>h'
inductive CK where
 |val (k:K)
 |own (ok:OK)
inductive PK where
 |val (k:K)
 |ref
 |own
 |Gi (f:FuncId) (n:Nat)
 |agg (n:Nat)
inductive RK where
 |val (k:K)
 |own (ok:OK)
 |fY (b:Nat) (alts:List (Nat×Nat×Nat))
 |agg (c:List CK)
inductive BK where
 |box (ty:TypeId) (eg:List CK)
 |own (ok:OK)
def BK.eg:BK→List CK
 |.box _ c=>c
 |.own _=>[]
def CK.T:CK→Type
 |.val k=>k.T
 |.own ok=>ok.T
def sW:List CK→Type
 |[]=>Unit
 |c::r=>c.T×sW r
abbrev BK.T:BK→Type
 |.box _ c=>sW c
 |.own ok=>ok.T
def zw:List BK→Type
 |[]=>Unit
 |b::r=>b.T×zw r
def Kg:List K→Type
 |[]=>Unit
 |k::r=>k.T×Kg r
def RK.T:RK→Type
 |.val k=>k.T
 |.own ok=>ok.T
 |.fY _ alts=>Option (Fin alts.length×Nat)
 |.agg c=>sW c
def nE:List RK→Type
 |[]=>Unit
 |r::l=>r.T×nE l
def mw:List PK→List K
 |[]=>[]
 |.val k::r=>k::mw r
 |_::r=>mw r
structure aX where
 ps:List PK
 bs:List BK
 rs:List RK
 x:Option (Heap→Nat→List AV→Option (Bool×bZ)):=none
abbrev aX.A(g:aX):Type:=Kg (mw g.ps)×zw g.bs
abbrev aX.B(g:aX):Type:=nE g.rs×zw g.bs
def RK.plain:RK→Bool
 |.val _=>true
 |.own ..=>true
 |.fY ..=>false
 |.agg c=>decide (c.length≤16)
def RK.flat:RK→Bool
 |.val k=>k.flat
 |.own ..=>false
 |.fY ..=>true
 |.agg _=>false
section
variable (P:Program)
def Ni:TypeDesc→Bool
 |.struct _=>true
 |.array _ _=>true
 |_=>false
def GR(t:TypeId):Option Bool:=(P.underlying t).map Ni
def jk(t:TypeId)(f:Nat):Option (Nat×TypeId) :=match P.underlying t with
 |some (.struct fs)=>(fs[f]?).map fun x=>(x.offset,x.type)
 |_=>none
def A1(t:TypeId):Option TypeId :=match P.underlying t with
 |some (.slice e)=>some e
 |_=>none
def C2(t:TypeId):Option (List AV):=(P.info? t).bind fun i=>i.zero.bind fun z=>if z.cells.toList.all (·.oneCell') then some (wx z).cells else none
def fC(t:TypeId)(cs:List AV):Option AV :=match GR P t with
 |some true=>if P.cellsOf t≤cs.length then some (.agg (cs.take (P.cellsOf t))) else none
 |some false=>match cs with
  |c::_=>some c
  |[]=>none
 |none=>none
def fm{α:Type}(cs:List α):Nat→List α→List α
 |_,[]=>cs
 |off,v::r=>fm (cs.set off v) (off+1) r
def GS(place:Nat→Option (Nat×Nat))(cs:List AV):List (Nat×AV)→Option (List AV)
 |[]=>some cs
 |(i,v)::r =>
  match place i with
  |none=>none
  |some (off,size)=>if v.cells.length≠size∨off+v.cells.length>cs.length then none else GS place (fm cs off v.cells) r
def dx(op:BinOp)(k:IntKind)(a b:Int):Int :=k.wrap ((match op with
  |.and=>BitVec.ofInt k.bits a &&& BitVec.ofInt k.bits b
  |.or=>BitVec.ofInt k.bits a ||| BitVec.ofInt k.bits b
  |.xor=>BitVec.ofInt k.bits a ^^^ BitVec.ofInt k.bits b
  |_=>BitVec.ofInt k.bits a &&& ~~~(BitVec.ofInt k.bits b)).toNat:Int)
def Kh(k:IntKind)(a b:Int):Int:=k.wrap (a*2 ^ (min b.toNat k.bits))
def mM(k:IntKind)(a b:Int):Int:=a.fdiv (2 ^ (min b.toNat k.bits))
def abD(op:BinOp)(k:IntKind)(a b:Int):Option AV :=match op with
 |.add=>some (.int k (k.wrap (a+b)))
 |.sub=>some (.int k (k.wrap (a-b)))
 |.mul=>some (.int k (k.wrap (a*b)))
 |.eql=>some (.bool (a==b))
 |.neq=>some (.bool (a != b))
 |.lss=>some (.bool (decide (a<b)))
 |.leq=>some (.bool (decide (a≤b)))
 |.gtr=>some (.bool (decide (a>b)))
 |.geq=>some (.bool (decide (a≥b)))
 |.and=>some (.int k (dx .and k a b))
 |.or=>some (.int k (dx .or k a b))
 |.xor=>some (.int k (dx .xor k a b))
 |.andNot=>some (.int k (dx .andNot k a b))
 |_=>none
def ad0(op:BinOp)(a b:ByteArray):Option AV :=match op with
 |.eql=>some (.bool (a==b))
 |.neq=>some (.bool (!(a==b)))
 |_=>none
def uu:(k:K)→k.T→k.T→Bool
 |.int _,x,y=>(show Int from x)==y
 |.bool,x,y=>(show Bool from x)==y
 |.str,x,y=>(show ByteArray from x)==y
 |.sl _,_,_=>false
 |.mp _ _,_,_=>false
 |.pair a b,x,y=>uu a x.1 y.1&&uu b x.2 y.2
 |.one k,x,y=>uu k x y
def wy(kk:K){α:Type}(x:kk.T)(es:List (kk.T×α)):Option Nat:=es.findIdx? fun e=>uu kk x e.1
def kd(kk:K){α:Type}(x:kk.T)(es:List (kk.T×α)):Option α:=(wy kk x es).bind fun i=>(es[i]?).map (·.2)
def oO(kk:K){α:Type}(x:kk.T)(v:α)(es:List (kk.T×α)):List (kk.T×α):=match wy kk x es with
 |some i=>es.set i (x,v)
 |none=>es++[(x,v)]
def TQ(kk:K){α:Type}(x:kk.T)(es:List (kk.T×α)):List (kk.T×α):=match wy kk x es with
 |some i=>es.eraseIdx i
 |none=>es
def qh:(k:K)→k.T
 |.int _=>(0:Int)
 |.bool=>false
 |.str=>ByteArray.empty
 |.sl k=>([]:List k.T)
 |.pair a b=>(qh a,qh b)
 |.one k=>qh k
 |.mp kk vk=>([]:List (kk.T×vk.T))
def TR:K→Value→Bool
 |.int ik,.int ik' n=>decide (ik'=ik∧n=0)
 |.bool,.bool b => !b
 |.str,.string s=>decide (s=ByteArray.empty)
 |.sl _,.slice a n c=>decide (a=none∧n=0∧c=0)
 |_,_=>false
def Pu(t:TypeId)(k:K):Bool:=match P.info? t with
 |some i=>match i.zero with
  |some z=>TR k z
  |none=>false
 |none=>false
def Pv(Eqs:TypeId→Option K)(t:TypeId)(k:K):Bool:=k.flat&&(match k,P.underlying t with
 |.int ik,some (.int ik')=>decide (ik'=ik)
 |.bool,some .bool=>true
 |.str,some .string=>true
 |k,_=>k.isAgg&&decide (Eqs t=some k))
def mapOf(Eqs:TypeId→Option K)(t:TypeId):Option (K×K):=match P.underlying t with
 |some (.map a b)=>match sV P 8 a,sV P 8 b with
  |some kk,some vk=>if Pv P Eqs a kk&&Pu P b vk then some (kk,vk) else none
  |_,_=>none
 |_=>none
def bm{α:Type}(xs:List α)(i:Int):Option α:=if 0≤i then xs[i.toNat]? else none
def gF:Nat:=1073741824
def aR(n m:Nat):Bool:=decide (n+m≤gF)
def qi(n:Nat)(lo hi:Option AV):Option (Int×Int) :=match lo,hi with
 |none,none=>some (0,(n:Int))
 |some (.int .i64 l),none=>some (l,(n:Int))
 |none,some (.int .i64 h)=>some (0,h)
 |some (.int .i64 l),some (.int .i64 h)=>some (l,h)
 |_,_=>none
def bI(n:Nat)(l h:Int):Bool:=decide (0≤l)&&(decide (l≤h)&&decide (h≤(n:Int)))
def cut{α:Type}(xs:List α)(l h:Int):List α:=(xs.take h.toNat).drop l.toNat
def abE(s:ByteArray)(l h:Int):ByteArray:=s.extract l.toNat h.toNat
variable {R:Type}
def ic(k:K)(h:Heap)(v:AV):Option k.T:=if k.isAgg=v.isAgg then ep k (v.cells.map (dm h)) else none
def rowOf(h:Heap)(v:AV)(k:K):Option (List k.T) :=match dm h v with
 |.sl _ k' xs=>if e:k'=k then some (e▸xs) else none
 |.il=>some []
 |_=>none
def Iu(e:TypeId)(k:K):Bool :=match P.info? e with
 |some i=>(match i.zero with
  |some z=>decide (i.size=k.sz)&&(decide (z.cells.size=k.sz)&&decide (i.bytes≤65536))
  |none=>false)
 |none=>false
def qj(h:Heap)(id:Nat)(t:TypeId)(s x:AV)(K:bZ→Option R):Option R :=match A1 P t with
 |none=>none
 |some e =>
  match sV P 8 e with
  |none=>none
  |some kk =>
   match rowOf h x kk,Iu P e kk with
   |some ys,true =>
    match s with
    |.il=>cond (aR 0 ys.length) (K (.new (.bY id) [(id,.own (.row e kk) ys)])) none
    |.bY dv =>
     match h.get dv with
     |some (.own (.row e' k') xs) =>
      if c:e'=e∧k'=kk then cond (aR xs.length ys.length) (K (.wr (.bY id) ((h.del dv).set id (.own (.row e kk) (c.2▸xs++ys))))) none else none
     |_=>none
    |.sl ex k' xs =>
     if c:k'=kk then cond (ex&&((!ys.isEmpty || xs.isEmpty)&&aR xs.length ys.length)) (K (.new (.bY id) [(id,.own (.row e kk) (c▸xs++ys))])) none else none
    |_=>none
   |_,_=>none
def zx:AV→Bool
 |.no=>false
 |.agg _=>false
 |.pH _=>false
 |_=>true
def Nj(id:Nat):List AV→Bool
 |[]=>true
 |.bY i::r => !(i==id)&&Nj id r
 |_::r=>Nj id r
def stored(h:Heap)(vs:List AV):List AV×Heap:=(vs.map (dm h),di h vs)
def ux(h:Heap)(t:TypeId)(a v:AV)(K:bZ→Option R):Option R :=if v.cells.length=P.cellsOf t∧(P.info? t).isSome∧v.cells.all zx then
  match a with
  |.ref id s i off =>
   match h.get id with
   |some (.box ty cs)=>if i=0∧off+v.cells.length≤cs.length then K (.wr .no (h.set id (.box ty (fm cs off v.cells)))) else none
   |some (.own (.row ty kk) xs) =>
    (xs[i]?).bind fun x =>if s=kk.sz∧off+v.cells.length≤kk.sz∧Nj id v.cells then
      match ep kk (fm (enc kk x) off (stored h v.cells).1) with
      |some y=>K (.wr .no ((stored h v.cells).2.set id (.own (.row ty kk) (xs.set i y))))
      |none=>none
     else none
   |_=>none
  |_=>none
 else none
def nF(h:Heap)(t:TypeId)(a:AV)(K:bZ→Option R):Option R :=match a with
 |.ref id s i off =>
  match h.get id with
  |some (.box _ cs)=>if i=0 then(match fC P t (cs.drop off) with|some v=>K (.val v)|none=>none) else none
  |some (.own (.row _ kk) xs)=>if s=kk.sz then(xs[i]?).bind fun x=>match fC P t ((enc kk x).drop off) with|some v=>K (.val v)|none=>none else none
  |_=>none
 |.fp kk x off=>match fC P t ((enc kk x).drop off) with|some v=>K (.val v)|none=>none
 |_=>none
def eI(h:Heap)(t:TypeId)(x i:AV)(K:bZ→Option R):Option R :=match A1 P t with
 |none=>none
 |some e =>
  match x,i with
  |.sl _ kk xs,.int _ n=>if P.cellsOf e=kk.sz then(bm xs n).bind fun y=>K (.val (.fp kk y 0)) else none
  |.bY id,.int _ n =>
   match h.get id with
   |some (.own (.row _ kk) xs)=>if P.cellsOf e=kk.sz then cond (decide (0≤n)&&decide (n<(xs.length:Int))) (K (.val (.ref id kk.sz n.toNat 0))) none else none
   |_=>none
  |_,_=>none
def zy(x:AV)(lo hi mx:Option AV)(K:bZ→Option R):Option R :=match x,mx with
 |.str s,none =>
  match qi s.size lo hi with
  |some (l,u)=>cond (bI s.size l u) (K (.val (.str (abE s l u)))) none
  |none=>none
 |_,_=>none
def rj(_:Heap)(sz:Nat)(x:AV)(lo hi mx:Option AV)(K:bZ→Option R):Option R :=match x with
 |.il =>
  match qi 0 lo hi,mx with
  |some (l,u),none=>cond (bI 0 l u) (K (.val .il)) none
  |_,_=>none
 |.sl _ kk xs =>
  if sz=kk.sz then
   match qi xs.length lo hi with
   |some (l,u) =>
    match mx with
    |none=>cond (bI xs.length l u) (K (.val (.sl false kk (cut xs l u)))) none
    |some (.int .i64 m)=>cond (bI xs.length l u&&(hi.isSome&&decide (m=u))) (K (.val (.sl true kk (cut xs l u)))) none
    |_=>none
   |none=>none
  else none
 |_=>none
def abF(t:TypeId)(x:AV):Bool :=match P.underlying t,x with
 |some .string,.str _=>true
 |some (.slice _),.str _=>false
 |some (.slice _),_=>true
 |_,_=>false
def Nk(t:TypeId):Bool :=match P.underlying t with
 |some (.map _ _)=>true
 |_=>false
def GU(h:Heap)(x:AV)(K:bZ→Option R):Option R :=match dm h x with
 |.str s=>K (.val (.int .i64 (s.size:Int)))
 |.sl _ _ xs=>K (.val (.int .i64 (xs.length:Int)))
 |.il=>K (.val (.int .i64 0))
 |_=>none
def zz(h:Heap)(x:AV)(K:bZ→Option R):Option R :=match dm h x with
 |.mp _ _ es=>K (.val (.int .i64 (es.length:Int)))
 |_=>none
def mZ(Eqs:TypeId→Option K)(id:Nat)(t:TypeId)(K:bZ→Option R):Option R :=match mapOf P Eqs t with
 |some (kk,vk)=>K (.new (.bY id) [(id,.own (.map kk vk) [])])
 |none=>none
def qk(Eqs:TypeId→Option K)(h:Heap)(t:TypeId)(m i:AV)(ok:Bool)(K:bZ→Option R):Option R :=match mapOf P Eqs t,dm h m with
 |some (kk,vk),.mp Ps Yo es =>
  if c:Ps=kk∧Yo=vk then
   match ic kk h i with
   |some x=>K (.val (cond ok (.pH [cM vk ((kd kk x (c.1▸c.2▸es:List (kk.T×vk.T))).getD (qh vk)),.bool (kd kk x (c.1▸c.2▸es:List (kk.T×vk.T))).isSome]) (cM vk ((kd kk x (c.1▸c.2▸es:List (kk.T×vk.T))).getD (qh vk)))))
   |none=>none
  else none
 |_,_=>none
def jT(Eqs:TypeId→Option K)(h:Heap)(t:TypeId)(m i v:AV)(K:bZ→Option R):Option R :=match mapOf P Eqs t,m with
 |some (kk,vk),.bY id =>
  match h.get id with
  |some (.own (.map Ps Yo) es) =>
   if c:Ps=kk∧Yo=vk then
    match ic kk h i,ic vk h v,(v.cells.all fun c=>match c with | .bY j => !(j==id)|_=>true) with
    |some x,some y,true=>K (.wr (.pH []) ((di h v.cells).set id (.own (.map kk vk) (oO kk x y (c.1▸c.2▸es:List (kk.T×vk.T))))))
    |_,_,_=>none
   else none
  |_=>none
 |_,_=>none
def ql(Eqs:TypeId→Option K)(h:Heap)(t:TypeId)(m i:AV)(K:bZ→Option R):Option R :=match mapOf P Eqs t,m with
 |some (kk,vk),.bY id =>
  match h.get id with
  |some (.own (.map Ps Yo) es) =>
   if c:Ps=kk∧Yo=vk then
    match ic kk h i with
    |some x=>K (.wr (.pH []) (h.set id (.own (.map kk vk) (TQ kk x (c.1▸c.2▸es:List (kk.T×vk.T))))))
    |none=>none
   else none
  |_=>none
 |_,_=>none
def qm(id:Nat)(t:TypeId)(x:AV)(K:bZ→Option R):Option R :=match P.underlying t,x with
 |some .string,.str s=>K (.new (.bY id) [(id,.own .qg (s,0))])
 |_,_=>none
def rk(s:ByteArray)(p:Nat):Int:=(Utf8.decode s p).1
def C3(s:ByteArray)(p:Nat):Nat:=(Utf8.decode s p).2
def uy(h:Heap)(x:AV)(K:bZ→Option R):Option R :=match x with
 |.bY id=>match h.get id with
  |some (.own .qg x)=>cond (decide (x.2<x.1.size)) (K (.wr (.pH [.bool true,.int .i64 (x.2:Int),.int .i32 (rk x.1 x.2)]) (h.set id (.own .qg (x.1,x.2+C3 x.1 x.2))))) (K (.val (.pH [.bool false])))
  |_=>none
 |_=>none
def uz(h:Heap)(x:AV)(K:bZ→Option R):Option R :=match x with
 |.bY id=>match h.get id with
  |some (.own (.iter kk vk) (some c,_))=>K (.val (.pH [cM kk c.1,cM vk c.2]))
  |_=>none
 |_=>none
def Ix:TypeDesc→Bool
 |.bool=>true
 |_=>false
def zB:TypeDesc→Bool
 |.pointer _=>true
 |_=>false
def A2(Eqs:TypeId→Option K)(op:BinOp)(t:TypeId)(x y:AV)(K:bZ→Option R):Option R :=match x,y with
 |.int k a,.int k' b =>
  match op with
  |.shl=>cond (decide (b<0)) none (K (.val (.int k (Kh k a b))))
  |.shr=>cond (decide (b<0)) none (K (.val (.int k (mM k a b))))
  |op =>
  if k=k' then
   match op with
   |.quo=>cond (b==0) none (K (.val (.int k (k.wrap (a.tdiv b)))))
   |.rem=>cond (b==0) none (K (.val (.int k (a.tmod b))))
   |op=>match abD op k a b with
    |some v=>K (.val v)
    |none=>none
  else none
 |.str a,.str b=>match ad0 op a b with
  |some v=>K (.val v)
  |none=>none
 |.bool a,.bool b =>
  match op,(P.underlying t).map Ix with
  |.eql,some true=>K (.val (.bool (a==b)))
  |.neq,some true=>K (.val (.bool (!(a==b))))
  |_,_=>none
 |.agg a,.agg b =>
  match Eqs t with
  |none=>none
  |some k =>
   match op,ep k a,ep k b with
   |.eql,some x,some y=>K (.val (.bool (uu k x y)))
   |.neq,some x,some y=>K (.val (.bool (!(uu k x y))))
   |_,_,_=>none
 |.mL,.mL =>
  match op,(P.underlying t).map zB with
  |.eql,some true=>K (.val (.bool true))
  |.neq,some true=>K (.val (.bool false))
  |_,_=>none
 |.ref ..,.mL =>
  match op,(P.underlying t).map zB with
  |.eql,some true=>K (.val (.bool false))
  |.neq,some true=>K (.val (.bool true))
  |_,_=>none
 |_,_=>none
def aar(b:Bool)(x y:AV):AV :=match x,y with
 |.bool p,.bool q=>.bool (cond b p q)
 |x,y=>cond b x y
end
def fk(h:Heap)(ok:OK)(c:AV):Option ok.T :=match c with
 |.il=>match ok with
  |.row _ _=>some []
  |_=>none
 |.bY id=>match h.get id with
  |some (.own ok' x)=>if e:ok'=ok then some (e▸x) else none
  |_=>none
 |_=>none
def rl:AV→List Nat
 |.bY id=>[id]
 |_=>[]
def dn:(eg:List CK)→Heap→List AV→Option (sW eg)
 |[],_,[]=>some ()
 |.val k::r,h,cs =>
  match ep k ((cs.take k.sz).map (dm h)),dn r h (cs.drop k.sz) with
  |some x,some y=>some (x,y)
  |_,_=>none
 |.own ok::r,h,c::cs =>
  match fk h ok c,dn r h cs with
  |some x,some y=>some (x,y)
  |_,_=>none
 |_,_,_=>none
def sw:List CK→List AV→List AV
 |.val k::r,cs=>cs.take k.sz++sw r (cs.drop k.sz)
 |.own _::r,_::cs=>sw r cs
 |_,_=>[]
def g8:List CK→List AV→List Nat
 |.val k::r,cs=>g8 r (cs.drop k.sz)
 |.own _::r,c::cs=>rl c++g8 r cs
 |_,_=>[]
def aL:(eg:List CK)→Nat→sW eg→List AV
 |[],_,_=>[]
 |.val k::r,n,x=>enc k x.1++aL r (n+1) x.2
 |.own _::r,n,x=>.bY n::aL r (n+1) x.2
def bq:(eg:List CK)→Nat→sW eg→Heap
 |[],_,_=>[]
 |.val _::r,n,x=>bq r (n+1) x.2
 |.own ok::r,n,x=>(n,.own ok x.1)::bq r (n+1) x.2
def C4(h:Heap)(id:Nat)(ty:TypeId):Option (List AV) :=match h.get id with
 |some (.box BX cs)=>if BX=ty then some cs else none
 |_=>none
def sB:(b:BK)→Heap→Nat→Option b.T
 |.box ty c,h,i=>match C4 h i ty with
  |some cs=>dn c h cs
  |none=>none
 |.own ok,h,i=>fk h ok (.bY i)
def dD:(bs:List BK)→Heap→List Nat→Option (zw bs)
 |[],_,[]=>some ()
 |b::r,h,i::is =>
  match sB b h i,dD r h is with
  |some x,some y=>some (x,y)
  |_,_=>none
 |_,_,_=>none
def ke:(b:BK)→Nat→Nat→b.T→Heap
 |.box ty c,i,n,x=>(i,.box ty (aL c n x))::bq c n x
 |.own ok,i,_,x=>[(i,.own ok x)]
def bJ:(bs:List BK)→List Nat→Nat→zw bs→Heap
 |b::r,i::is,n,x=>ke b i n x.1++bJ r is (n+16) x.2
 |_,_,_,_=>[]
def C5:BK→Heap→Nat→List AV
 |.box _ c,h,i=>match h.get i with
  |some (.box _ cs)=>sw c cs
  |_=>[]
 |.own _,_,_=>[]
def iq:List BK→Heap→List Nat→List AV
 |b::r,h,i::is=>C5 b h i++iq r h is
 |_,_,_=>[]
def lB:BK→Heap→Nat→List Nat
 |.box _ c,h,i=>i::(match h.get i with
  |some (.box _ cs)=>g8 c cs
  |_=>[])
 |.own _,_,i=>[i]
def dE:List BK→Heap→List Nat→List Nat
 |b::r,h,i::is=>lB b h i++dE r h is
 |_,_,_=>[]
def jl(h:Heap):List Nat→Heap
 |[]=>h
 |i::r=>jl (h.del i) r
def GW:AV→Option Nat
 |.ref id _ 0 0=>some id
 |_=>none
def kQ:List AV→Option (List Nat)
 |[]=>some []
 |v::r=>match GW v,kQ r with
  |some i,some is=>some (i::is)
  |_,_=>none
def rm:List AV→Option (List Nat)
 |[]=>some []
 |.bY i::r=>match rm r with
  |some is=>some (i::is)
  |none=>none
 |_=>none
def dg:List PK→List AV→Option (List Nat)
 |[],[]=>some []
 |.val _::ps,_::vs=>dg ps vs
 |.ref::ps,v::vs=>match GW v,dg ps vs with
  |some i,some is=>some (i::is)
  |_,_=>none
 |.own::ps,.bY i::vs=>match dg ps vs with
  |some is=>some (i::is)
  |none=>none
 |.Gi f n::ps,.fn f' cap::vs =>
  if f'=f∧cap.length=n then match kQ cap,dg ps vs with
   |some a,some b=>some (a++b)
   |_,_=>none
  else none
 |.agg n::ps,.agg cs::vs =>
  if cs.length=n then match rm cs,dg ps vs with
   |some a,some b=>some (a++b)
   |_,_=>none
  else none
 |_,_=>none
def fU:(ps:List PK)→Heap→List AV→Option (Kg (mw ps))
 |[],_,[]=>some ()
 |.val k::ps,h,v::vs =>
  match ic k h v,fU ps h vs with
  |some x,some y=>some (x,y)
  |_,_=>none
 |.ref::ps,h,_::vs=>fU ps h vs
 |.own::ps,h,_::vs=>fU ps h vs
 |.Gi _ _::ps,h,_::vs=>fU ps h vs
 |.agg _::ps,h,_::vs=>fU ps h vs
 |_,_,_=>none
def dW:List PK→List AV→List AV
 |.val _::ps,v::vs=>v.cells++dW ps vs
 |_::ps,_::vs=>dW ps vs
 |_,_=>[]
def bf:(ps:List PK)→(ids:List Nat)→Nat→Kg (mw ps)→List (Nat×AV)
 |[],_,_,_=>[]
 |.val k::ps,ids,s,x=>(s,cM k x.1)::bf ps ids (s+1) x.2
 |.ref::ps,i::ids,s,x=>(s,.ref i 0 0 0)::bf ps ids (s+1) x
 |.ref::ps,[],s,x=>(s,.no)::bf ps [] (s+1) x
 |.own::ps,i::ids,s,x=>(s,.bY i)::bf ps ids (s+1) x
 |.own::ps,[],s,x=>(s,.no)::bf ps [] (s+1) x
 |.Gi f n::ps,ids,s,x=>(s,.fn f ((ids.take n).map fun i=>.ref i 0 0 0))::bf ps (ids.drop n) (s+1) x
 |.agg n::ps,ids,s,x=>(s,.agg ((ids.take n).map .bY))::bf ps (ids.drop n) (s+1) x
def oT:List CK→Nat→Nat
 |.val k::r,c+1=>k.sz+oT r c
 |.own _::r,c+1=>1+oT r c
 |_,_=>0
def ig:List CK→Nat→Bool
 |.own (.row _ _)::_,0=>true
 |_::r,c+1=>ig r c
 |_,_=>false
def TS(id:Nat):Option AV→Bool
 |some (.bY oP)=>oP==id
 |_=>false
def A3(c:List CK)(cs:List AV)(id s off:Nat)(a:Nat×Nat×Nat):Bool :=TS id (cs[oT c a.1]?)&&(decide (s=a.2.1)&&(decide (off=a.2.2)&&ig c a.1))
def pI(bs:List BK)(h:Heap)(ids:List Nat)(b:Nat)(alts:List (Nat×Nat×Nat))(v:AV):Option (Option (Fin alts.length×Nat)) :=match v with
 |.mL=>some none
 |.ref id s i off =>
  (match ids[b]?,bs[b]? with
  |some bi,some bk=>(match h.get bi with
   |some (.box _ cs)=>(match (List.finRange alts.length).find? (fun a=>A3 bk.eg cs id s off (alts.get a)) with
    |some a=>some (some (a,i))
    |none=>none)
   |_=>none)
  |_,_=>none)
 |_=>none
def C6(c:List CK)(h:Heap)(v:AV):Option (sW c) :=match v with
 |.agg cs=>dn c h cs
 |_=>none
def b6(bs:List BK):(rs:List RK)→Heap→List Nat→List AV→Option (nE rs)
 |[],_,_,[]=>some ()
 |.val k::r,h,ids,v::vs =>
  match ic k h v,b6 bs r h ids vs with
  |some x,some y=>some (x,y)
  |_,_=>none
 |.own ok::r,h,ids,v::vs =>
  match fk h ok v,b6 bs r h ids vs with
  |some x,some y=>some (x,y)
  |_,_=>none
 |.fY b alts::r,h,ids,v::vs =>
  match pI bs h ids b alts v,b6 bs r h ids vs with
  |some x,some y=>some (x,y)
  |_,_=>none
 |.agg c::r,h,ids,v::vs =>
  match C6 c h v,b6 bs r h ids vs with
  |some x,some y=>some (x,y)
  |_,_=>none
 |_,_,_,_=>none
def ir:List RK→List AV→List AV
 |.val _::r,v::vs=>v.cells++ir r vs
 |.agg c::r,v::vs=>sw c v.cells++ir r vs
 |_::r,_::vs=>ir r vs
 |_,_=>[]
def eZ:List RK→List AV→List Nat
 |.own _::r,v::vs=>rl v++eZ r vs
 |.agg c::r,v::vs=>g8 c v.cells++eZ r vs
 |_::r,_::vs=>eZ r vs
 |_,_=>[]
def xu(b n:Nat)(alts:List (Nat×Nat×Nat)):Option (Fin alts.length×Nat)→AV
 |none=>.mL
 |some (a,i)=>.ref (n+16*b+(alts.get a).1) (alts.get a).2.1 i (alts.get a).2.2
def bh:(rs:List RK)→(ids:List Nat)→(n m:Nat)→nE rs→List AV
 |[],_,_,_,_=>[]
 |.val k::r,ids,n,m,x=>cM k x.1::bh r ids n (m+1) x.2
 |.agg c::r,ids,n,m,x=>.agg (aL c m x.1)::bh r ids n (m+1) x.2
 |.own _::r,ids,n,m,x=>.bY m::bh r ids n (m+1) x.2
 |.fY b alts::r,ids,n,m,x=>xu b n alts x.1::bh r ids n (m+1) x.2
def aq:(rs:List RK)→(m:Nat)→nE rs→Heap
 |[],_,_=>[]
 |.own ok::r,m,x=>(m,.own ok x.1)::aq r (m+1) x.2
 |.agg c::r,m,x=>bq c m x.1++aq r (m+1) x.2
 |.val _::r,m,x=>aq r (m+1) x.2
 |.fY _ _::r,m,x=>aq r (m+1) x.2
def gu:List AV→AV
 |[v]=>v
 |vs=>.pH vs
def cO:List CK→Nat→List Nat
 |[],_=>[]
 |.val _::r,n=>cO r (n+1)
 |.own _::r,n=>n::cO r (n+1)
def cG:List BK→List Nat→Nat→List Nat
 |b::r,i::is,n=>i::(cO b.eg n++cG r is (n+16))
 |_,_,_=>[]
def bK:List RK→Nat→List Nat
 |[],_=>[]
 |.own _::r,m=>m::bK r (m+1)
 |.agg c::r,m=>cO c m++bK r (m+1)
 |.val _::r,m=>bK r (m+1)
 |.fY _ _::r,m=>bK r (m+1)
def aZ(n:Nat):List Nat:=(List.range n).map fun i=>1000+20*i
def sX(g:aX):List Nat:=cG g.bs (aZ g.bs.length) 2000++bK g.rs 3000
def Ki:List AV→Bool
 |[]=>true
 |.bY _::_=>false
 |_::r=>Ki r
def sY:List AV→Bool
 |[]=>true
 |v::r=>Ki v.cells&&sY r
def cI:List Nat→Bool
 |[]=>true
 |i::r => !(r.contains i)&&cI r
def zF(kept:List Nat)(mv:List AV):Bool:=cI kept&&kept.all fun i=>Nj i mv
section
variable (P:Program) (Eqs:TypeId→Option K) (Sg:FuncId→Option aX) (F:(f:FuncId)→(g:aX)→g.A→Option g.B)
variable {R:Type}
def wz(f:FuncId):List AV→FuncId
 |[]=>f
 |.fn g _::_=>f+1000*(g+1)
 |_::r=>wz f r
def C7:List AV→Bool
 |[]=>false
 |.bY _::_=>true
 |.agg cs::r=>(cs.any fun c=>match c with | .bY _=>true|_=>false) || C7 r
 |_::r=>C7 r
def keyOf(f:FuncId)(vs:List AV):FuncId:=if C7 vs&&(Sg (wz f vs+500000)).isSome then wz f vs+500000 else wz f vs
def Gj(bs:List BK)(r:RK):Bool:=match r with
 |.fY b alts=>match bs[b]? with
  |some bk=>(alts.all fun a=>ig bk.eg a.1)&&decide ((alts.map fun a=>(a.1,a.2.2)).Nodup)
  |none=>false
 |.agg c=>decide (c.length≤16)
 |_=>true
def sZ(bs:List BK)(rs:List RK):Bool:=rs.all (Gj bs)
def TT(f:FuncId)(g:aX):Bool:=sZ g.bs g.rs&&( (decide (g.bs.length≤8)&&(g.bs.all fun b=>decide (b.eg.length≤16)))&&((decide (g.rs.length≤100)&&decide (f<1000))&&cI (sX g)))
def s5{α R:Type}(o:Option α)(a:Option R)(f:α→Option R):Option R:=match o with
 |none=>a
 |some x=>f x
def ad1{R:Type}(n:Nat)(a:Fin n)(f:Fin n→Option R):Option R:=(List.finRange n).foldr (fun j r=>cond (a.val==j.val) (f j) r) none
def kR{R:Type}:(rs:List RK)→nE rs→(nE rs→Option R)→Option R
 |[],_,K=>K ()
 |.fY _ alts::r,x,K=>s5 x.1 (kR r x.2 fun z=>K (none,z)) (fun p=>ad1 alts.length p.1 fun a=>kR r x.2 fun z=>K (some (a,p.2),z))
 |.val _::r,x,K=>kR r x.2 fun z=>K (x.1,z)
 |.own _::r,x,K=>kR r x.2 fun z=>K (x.1,z)
 |.agg _::r,x,K=>kR r x.2 fun z=>K (x.1,z)
def kf(h:Heap)(id:Nat)(f:FuncId)(vs:List AV)(K:bZ→Option R):Option R :=match Sg (keyOf Sg f vs) with
 |none=>none
 |some g=>match g.x with
 |some u=>if f<1000 then(u h id vs).bind fun p=>cond p.1 (K p.2) none else none
 |none =>
  match dg g.ps vs,TT f g with
  |some is,true =>
   if is.isEmpty&&g.rs.all RK.plain then
   match fU g.ps h vs,dD g.bs h [],g.rs.all RK.plain with
   |some x,some b,true =>
    (F (keyOf Sg f vs) g (x,b)).bind fun y =>cond (g.rs.all RK.flat || sY vs) (K (.new (gu (bh g.rs [] id (id+128) y.1)) (aq g.rs (id+128) y.1))) (K (.wr (gu (bh g.rs [] id (id+128) y.1)) (aq g.rs (id+128) y.1++di h (dW g.ps vs))))
   |_,_,_=>none
   else
   match fU g.ps h vs,dD g.bs h is,zF (dE g.bs h is) (dW g.ps vs++iq g.bs h is)&&cI (cG g.bs is id++bK g.rs (id+128)) with
   |some x,some b,true =>
    (F (keyOf Sg f vs) g (x,b)).bind fun y=>kR g.rs y.1 fun z =>K (.wr (gu (bh g.rs is id (id+128) z)) (bJ g.bs is id y.2++(aq g.rs (id+128) z++jl (di h (dW g.ps vs++iq g.bs h is)) (dE g.bs h is))))
   |_,_,_=>none
  |_,_=>none
def s6{α:Type}(xs:List α)(i:Int)(ys:List α):Bool:=decide (0≤i)&&(decide (i≤xs.length)&&(decide (ys.length=1)&&aR xs.length ys.length))
def iu{α:Type}(xs:List α)(i:Int)(ys:List α):List α:=xs.take i.toNat++(ys++xs.drop i.toNat)
def kL{α:Type}(xs:List α)(i j:Int):Bool:=decide (0≤i)&&(decide (i<j)&&(decide (j≤xs.length)&&aR xs.length 0))
def eu{α:Type}(xs:List α)(i j:Int):List α:=xs.take i.toNat++xs.drop j.toNat
def s8(n:Int):Bool:=decide (0≤n)&&decide (n≤gF)
def TU(ty:TypeId)(k:K)(h:Heap)(id:Nat):List AV→Option (Bool×bZ)
 |[.bY o,.int .i64 i,.bY j]=>match fk h (.row ty k) (.bY o),fk h (.row ty k) (.bY j) with
  |some xs,some ys=>if o=j then none else some (s6 xs i ys,.wr (.bY id) ((id,.own (.row ty k) (iu xs i ys))::h.del o))
  |_,_=>none
 |_=>none
def Yp(ty:TypeId)(k:K)(h:Heap)(id:Nat):List AV→Option (Bool×bZ)
 |[.bY o,.int .i64 i,.int .i64 j]=>match fk h (.row ty k) (.bY o) with
  |some xs=>some (kL xs i j,.wr (.bY id) ((id,.own (.row ty k) (eu xs i j))::h.del o))
  |none=>none
 |_=>none
def Pw(ty:TypeId)(k:K)(_:Heap)(id:Nat):List AV→Option (Bool×bZ)
 |[.il,.int .i64 n]=>some (s8 n,.new (.bY id) [(id,.own (.row ty k) [])])
 |_=>none
def zG(id:Nat)(t:TypeId)(vs:List AV)(K:bZ→Option R):Option R :=K (.new (.ref id vs.length 0 0) [(id,.box t vs)])
def aas:AV→Bool
 |.no=>false
 |_=>true
def uA(t:TypeId)(parts:List (Nat×AV))(K:bZ→Option R):Option R :=match C2 P t,P.underlying t with
 |some z,some (.struct fs) =>
  match GS (fun i=>(fs[i]?).map fun f=>(f.offset,P.cellsOf f.type)) z parts,fs.toList.all (fun f=>(P.info? f.type).isSome)&&parts.all (fun p=>aas p.2) with
  |some cs,true=>K (.val (.agg cs))
  |_,_=>none
 |_,_=>none
def ta(k:K)(h:Heap):Nat→List (Nat×AV)→Option (List k.T)
 |_,[]=>some []
 |i,(j,v)::r =>
  if j=i then match ep k (v.cells.map (dm h)),ta k h (i+1) r with
   |some x,some xs=>some (x::xs)
   |_,_=>none
  else none
def xw(h:Heap)(id:Nat)(t:TypeId)(n:Nat)(parts:List (Nat×AV))(K:bZ→Option R):Option R :=match A1 P t with
 |none=>none
 |some e =>
  match sV P 8 e with
  |none=>none
  |some k =>
   match ta k h 0 parts,Iu P e k with
   |none,_=>none
   |some _,false=>none
   |some xs,true =>
    if parts.length=n∧n*k.sz≤1048576 then
     cond (sY (parts.map (·.2))) (K (.new (.bY id) [(id,.own (.row e k) xs)])) (K (.wr (.bY id) ((id,.own (.row e k) xs)::di h (parts.flatMap (·.2.cells)))))
    else none
def Yq:bZ→bZ
 |.new (.bY _) [(_,.own (.row _ k) xs)]=>.new (.sl true k xs) []
 |e=>e
def zH(mv:Bool)(h:Heap)(id:Nat)(t:TypeId)(n:Nat)(parts:List (Nat×AV))(K:bZ→Option R):Option R :=xw P h id t n parts fun e=>K (if mv then Yq e else e)
def C8(src dst:TypeId)(x:AV)(K:bZ→Option R):Option R :=match P.underlying src,P.underlying dst,x with
 |some (.int _),some (.int k),.int _ n=>K (.val (.int k (k.wrap n)))
 |some .string,some .string,.str s=>K (.val (.str s))
 |_,_,_=>none
def Rf(mx:Bool)(vs:List AV)(K:bZ→Option R):Option R :=match vs with
 |[.int k a,.int k' b]=>if k=k' then K (.val (.int k (cond mx (max a b) (min a b)))) else none
 |_=>none
def aat(t id:Nat):Bool:=(Sg (900000+t)).isSome&&(Sg (2000003+1000*(id / 256-128))).isSome
def dy(id:Nat)(h:Heap)(s:List (Nat×AV))(o:Oper)(K:bZ→Option R):Option R :=match o.op with
 |.move x | .assign x=>K (.val (ρ s x))
 |.pick c a b=>match ρ s c with
  |.bool t=>K (.val (aar t (ρ s a) (ρ s b)))
  |_=>none
 |.box t x=>if(ρ s x).cells.all zx then zG id t (ρ s x).cells K else none
 |.alloc t=>match C2 P t with
  |some z=>zG id t z K
  |none=>none
 |.build t ps=>uA P t (ps.toList.map fun p=>(p.1,ρ s p.2)) K
 |.buildSlice t n ps=>zH P (aat Sg t id) h id t n (ps.toList.map fun p=>(p.1,ρ s p.2)) K
 |.load t a=>nF P h t (ρ s a) K
 |.store t a v=>ux P h t (ρ s a) (ρ s v) K
 |.nilCheck x=>match ρ s x with
  |.ref id s i off=>K (.val (.ref id s i off))
  |.fp k x off=>K (.val (.fp k x off))
  |.fn f cap=>K (.val (.fn f cap))
  |_=>none
 |.binOp op t x y _=>A2 P Eqs op t (ρ s x) (ρ s y) K
 |.unOp .not _ x=>match ρ s x with
  |.bool b=>K (.val (.bool (!b)))
  |_=>none
 |.convert src dst x=>C8 P src dst (ρ s x) K
 |.makeFunc (.func f) first cap=>if first.size=0 then K (.val (.fn f (cap.toList.map (ρ s)))) else none
 |.slice t x lo hi mx=>match P.underlying t with
  |some .string=>zy (ρ s x) (lo.map (ρ s)) (hi.map (ρ s)) (mx.map (ρ s)) K
  |some (.slice e)=>if(P.info? e).isSome then rj h (P.cellsOf e) (ρ s x) (lo.map (ρ s)) (hi.map (ρ s)) (mx.map (ρ s)) K else none
  |_=>none
 |.fieldAddr t x f=>match jk P t f,ρ s x with
  |some (n,ft),.ref id s i off=>if P.cellsOf ft=0 then none else K (.val (.ref id s i (off+n)))
  |some (n,ft),.fp k x off=>if P.cellsOf ft=0 then none else K (.val (.fp k x (off+n)))
  |_,_=>none
 |.field t x f=>match jk P t f,ρ s x with
  |some (n,ft),.agg cs=>match fC P ft (cs.drop n) with
   |some v=>K (.val v)
   |none=>none
  |_,_=>none
 |.indexAddr t x i=>eI P h t (ρ s x) (ρ s i) K
 |.index t x i=>match P.underlying t,ρ s x,ρ s i with
  |some .string,.str b,.int _ n=>(if 0≤n then b[n.toNat]? else none).bind fun c=>K (.val (.int .u8 (c.toNat:Int)))
  |_,_,_=>none
 |.makeMap t none=>mZ P Eqs id t K
 |.lookup t m i ok=>qk P Eqs h t (ρ s m) (ρ s i) ok K
 |.mapUpdate t m i v=>jT P Eqs h t (ρ s m) (ρ s i) (ρ s v) K
 |.range t x=>qm P id t (ρ s x) K
 |.next x true=>uy h (ρ s x) K
 |.entry x=>uz h (ρ s x) K
 |.extract t i=>match ρ s t with
  |.pH vs=>match vs[i]? with
   |some v=>K (.val v)
   |none=>none
  |_=>none
 |.call c =>
  match c.callee with
  |.value f=>match ρ s f with
   |.fn f cap=>kf Sg F h id f (c.args.toList.map (ρ s)++cap) K
   |_=>none
  |.builtin .len=>match c.args.toList,c.argTypes.toList with
   |[x],[t]=>if Nk P t then zz h (ρ s x) K else if abF P t (ρ s x) then GU h (ρ s x) K else none
   |_,_=>none
  |.builtin .append=>match c.args.toList,c.argTypes.toList with
   |[x,y],[t,t']=>if t'=t then qj P h id t (ρ s x) (ρ s y) K else none
   |_,_=>none
  |.builtin .delete=>match c.args.toList,c.argTypes.toList with
   |[m,x],t::_=>ql P Eqs h t (ρ s m) (ρ s x) K
   |_,_=>none
  |.builtin .max=>Rf true (c.args.toList.map (ρ s)) K
  |.builtin .min=>Rf false (c.args.toList.map (ρ s)) K
  |_=>none
 |_=>none
def pJ:Op→Bool
 |.move _ | .assign _ | .extract .. | .unOp .. | .pick .. | .fieldAddr .. | .nilCheck _ | .makeFunc .. | .build .. | .slice ..=>true
 |.binOp op ..=>match op with
  |.eql | .neq=>false
  |_=>true
 |_=>false
def makes:Op→Bool
 |.box .. | .alloc _ | .buildSlice .. | .makeMap .. | .range ..=>true
 |.call c=>match c.callee with
  |.builtin .append | .value _=>true
  |_=>false
 |_=>false
def opId(rid i:Nat):Nat:=((rid+1)*128+i)*256
def xx(ops:Array Oper)(b:Array Nat):Bool :=(List.range ops.size).all fun i=>match ops[i]? with
  |some o=>(o.after.toList.all fun e => !Region.binds .any e || decide (e.on<i)) && b.getD i 0==o.after.toList.foldl (fun s e=>if Region.binds .any e then s ||| 2 ^ e.on ||| b.getD e.on 0 else s) 0
  |none=>false
def C9(ops:Array Oper)(b:Array Nat):Bool :=(List.range ops.size).all fun j=>(List.range j).all fun i =>(b.getD j 0).testBit i || (match ops[i]?,ops[j]? with
   |some x,some y=>x.apart ops y
   |_,_=>false)
def jc:Op→Option Operand
 |.load _ x=>some x
 |.indexAddr _ x _=>some x
 |_=>none
def Ch:Op→Bool
 |.store ..=>true
 |.call c=>match c.callee with
  |.value (.func f)=>f != 29
  |.value _=>true
  |_=>false
 |_=>false
def qn(ops:Array Oper)(i j:Nat):Bool :=match (ops[j]?).bind (jc ·.op) with
 |some (.tmp d)=>(List.range ops.size).all fun m => !(decide (min i j≤m)&&decide (m<max i j)) || (match (ops[m]?).bind (·.dst) with|some d'=>d' != d|none=>true)
 |some _=>true
 |none=>false
def sD:AV→List Nat
 |.ref id _ _ _=>[id]
 |.bY id=>[id]
 |_=>[]
def abG(ops:Array Oper)(b:Array Nat)(i:Nat)(tmps:List (Nat×AV)):List Nat :=(List.range ops.size).flatMap fun j=>if j==i || (b.getD j 0).testBit i || (b.getD i 0).testBit j then[] else match (ops[j]?).bind (jc ·.op) with
  |some x=>sD (ρ tmps x)
  |none=>[]
def late(ops:Array Oper)(j:Nat):Bool:=ops.size==50&&(j==27 || j==29)
def uB(ops:Array Oper)(b:Array Nat)(i:Nat)(tmps:List (Nat×AV))(o:Oper):Bool:=match jc o.op with
 |some x=>late ops i && !(sD (ρ tmps x)).isEmpty && !((List.range ops.size).all fun k=>k==i || (b.getD i 0).testBit k || (b.getD k 0).testBit i || (match ops[k]? with|some p => !Ch p.op|none=>true) || qn ops k i)
 |none=>false
def je(ops:Array Oper)(b:Array Nat)(i:Nat)(tmps:List (Nat×AV))(o:Oper):List Nat:=if Ch o.op then abG ops b i tmps else if uB ops b i tmps o then[1] else[]
def Nl(ops:Array Oper)(b:Array Nat)(i:Nat):Bool :=(List.range ops.size).all fun j =>j==i || (b.getD j 0).testBit i || (b.getD i 0).testBit j || (match ops[j]? with|some o=>pJ o.op|none=>true) || ((match ops[i]? with|some o=>Ch o.op|none=>false)&&(qn ops i j || (late ops j&&(match ops[j]? with|some o=>(jc o.op).isSome|none=>false))))
def ahead(rid:Nat)(Nm:Nat)(h:Heap):Heap:=h.filter fun p=>(p.1 / 32768 != rid+1) || Nm.testBit (p.1 / 256%128)
def jG(n:Nat)(o:Oper):Bool :=match o.dst with
 |some d=>decide (d<n)
 |none=>true
end
def tc(rid bits id:Nat):Bool:=(id / 32768 != rid+1) || bits.testBit (id / 256%128)
mutual
def vD(rid bits:Nat):AV→Bool
 |.ref id _ _ _=>tc rid bits id
 |.bY id=>tc rid bits id
 |.fn _ cap=>Da rid bits cap
 |.agg cs=>Da rid bits cs
 |.pH vs=>Da rid bits vs
 |.no=>true
 |.bool _=>true
 |.int _ _=>true
 |.str _=>true
 |.mL=>true
 |.il=>true
 |.fp _ _ _=>true
 |.sl _ _ _=>true
 |.mp _ _ _=>true
def Da(rid bits:Nat):List AV→Bool
 |[]=>true
 |v::r=>vD rid bits v&&Da rid bits r
end
def A4(rid bits:Nat):Heap→Bool
 |[]=>true
 |(id,.box _ cs)::r=>tc rid bits id&&Da rid bits cs&&A4 rid bits r
 |(id,.own _ _)::r=>tc rid bits id&&A4 rid bits r
def iV(draw:Bool)(rid:Nat)(ops:Array Oper)(b:Array Nat)(i Nm:Nat):bZ→Bool
 |.wr v h=>(!draw || Nl ops b i)&&vD rid (Nm ||| 2 ^ i) v&&A4 rid (Nm ||| 2 ^ i) h
 |.new v os=>vD rid (Nm ||| 2 ^ i) v&&(os.all fun p=>p.1 / 256==(rid+1)*128+i)&&A4 rid (Nm ||| 2 ^ i) os
 |.val v=>vD rid Nm v
def gG(ft:List Nat)(hp h:Heap):Heap:=(ft.filterMap fun i=>(hp.get i).map fun o=>(i,o))++h
def jf(ft:List Nat)(hp:Heap):bZ→bZ
 |.wr v h=>.wr v (gG ft hp h)
 |.val v=>.val v
 |.new v os=>.new v os
mutual
def td(ft:List Nat):AV→Bool
 |.ref id _ _ _ => !(ft.contains id)
 |.bY id => !(ft.contains id)
 |.fn _ cap=>wA ft cap
 |.agg cs=>wA ft cs
 |.pH vs=>wA ft vs
 |.no=>true
 |.bool _=>true
 |.int _ _=>true
 |.str _=>true
 |.mL=>true
 |.il=>true
 |.fp _ _ _=>true
 |.sl _ _ _=>true
 |.mp _ _ _=>true
def wA(ft:List Nat):List AV→Bool
 |[]=>true
 |v::r=>td ft v&&wA ft r
end
def wB(ft:List Nat):Heap→Bool
 |[]=>true
 |(id,.box _ cs)::r => !(ft.contains id)&&(wA ft cs&&wB ft r)
 |(id,.own _ _)::r => !(ft.contains id)&&wB ft r
def nG(ft:List Nat):bZ→Bool
 |.wr v h=>td ft v&&wB ft h
 |.val _ => !(ft.contains 1)
 |.new _ _=>true
section
variable (P:Program) (Eqs:TypeId→Option K) (Sg:FuncId→Option aX) (F:(f:FuncId)→(g:aX)→g.A→Option g.B)
variable {R:Type}
noncomputable def vt(n:Nat)(f:Nat→Option R):Option R:=open Classical in if h:∃r,∀j,j<n→f j=some r then some (Classical.choose h) else none
def BY(m:Nat)(d:AV):AV→AV
 |.bY i=>if i=m then d else .bY i
 |v=>v
def rp(id:Nat)(st:St)(o:Oper):Option St :=match o.op with
 |.range t x=>match P.underlying t,ρ st.tmps x with
  |some (.map _ _),.bY m=>match st.heap.get m with
   |some (.own (.map kk vk) es)=>some (({ tmps:=st.tmps.map fun p=>(p.1,BY m (.mp kk vk es) p.2),heap:=(id,.own (.iter kk vk) (none,es))::st.heap.del m }:St).put o.dst (.bY id))
   |_=>none
  |_,_=>none
 |_=>none
def xy(o:Oper):Option Operand :=match o.op with
 |.next x false=>some x
 |_=>none
noncomputable def mN(h:Heap)(x:AV)(K:AV→Heap→Option R):Option R :=match x with
 |.bY id=>match h.get id with
  |some (.own (.iter kk vk) p)=>cond p.2.isEmpty (K (.pH [.bool false]) h) (vt p.2.length fun j=>(p.2[j]?).bind fun c=>K (.pH [.bool true,cM kk c.1,cM vk c.2]) (h.set id (.own (.iter kk vk) (some c,p.2.eraseIdx j))))
  |_=>none
 |_=>none
def isNil(o:Oper):Option (Operand×Bool) :=match o.op with
 |.binOp op t x (.const v) _=>match op,P.underlying t,zu v with
  |.eql,some (.slice _),.il=>some (x,true)
  |.neq,some (.slice _),.il=>some (x,false)
  |_,_,_=>none
 |_=>none
noncomputable def xz(h:Heap)(x:AV)(want:Bool)(K:AV→Option R):Option R :=match dm h x with
 |.il=>K (.bool want)
 |.sl _ _ xs=>cond xs.isEmpty (vt 2 fun j=>K (.bool ((j==0)==want))) (K (.bool (!want)))
 |_=>none
noncomputable def bQ(rid:Nat)(draw:Bool)(ops:Array Oper)(b:Array Nat):List (Nat×Oper)→St→(St→Option R)→Option R
 |[],st,K=>K st
 |(i,o)::r,st,K =>
  let run (st:St):Option R :=match (if draw then none else rp P (opId rid i) st o) with
   |some fR=>bQ rid draw ops b r fR K
   |none =>
   match (if draw then none else xy o) with
   |some x=>mN st.heap (ρ st.tmps x) fun v h=>bQ rid draw ops b r (({ st with heap:=h }:St).put o.dst v) K
   |none =>
   match (if draw then none else isNil P o) with
   |some (x,want)=>xz st.heap (ρ st.tmps x) want fun v=>bQ rid draw ops b r (st.put o.dst v) K
   |none =>
   if draw then
    dy P Eqs Sg F (opId rid i) (jl (ahead rid (b.getD i 0) st.heap) (je ops b i st.tmps o)) st.tmps o fun e =>if iV true rid ops b i (b.getD i 0) (jf (je ops b i st.tmps o) (ahead rid (b.getD i 0) st.heap) e)&&nG (je ops b i st.tmps o) e then
      bQ rid draw ops b r ({ st with heap:=match jf (je ops b i st.tmps o) (ahead rid (b.getD i 0) st.heap) e with | .wr _ h=>h|e=>e.h st.heap }.put o.dst e.v) K else none
   else
    dy P Eqs Sg F (opId rid i) st.heap st.tmps o fun e =>if iV false rid ops b i (2 ^ i-1) e then bQ rid draw ops b r ({ st with heap:=match e with | .wr _ h=>h|e=>e.h st.heap }.put o.dst e.v) K else none
  let skip (st:St):Option R:=bQ rid draw ops b r (st.put o.dst (.pH [])) K
  match o.guard with
  |none=>run st
  |some (j,want) =>
   match (ops[j]?).bind (·.dst) with
   |none=>none
   |some d =>
    match look st.tmps d with
    |.bool t=>cond t (if want then run (st.put (some d) (.bool true)) else skip (st.put (some d) (.bool true))) (if want then skip (st.put (some d) (.bool false)) else run (st.put (some d) (.bool false)))
    |.pH _=>skip st
    |_=>none
end
mutual
def bS(rid:Nat):AV→AV
 |.ref id s i off=>if id / 32768=rid+1 then .no else .ref id s i off
 |.bY id=>if id / 32768=rid+1 then .no else .bY id
 |.fn f cap=>.fn f (nH rid cap)
 |.agg cs=>.agg (nH rid cs)
 |.pH vs=>.pH (nH rid vs)
 |.no=>.no
 |.bool b=>.bool b
 |.int k n=>.int k n
 |.str s=>.str s
 |.mL=>.mL
 |.il=>.il
 |.fp k x off=>.fp k x off
 |.sl ex k xs=>.sl ex k xs
 |.mp kk vk es=>.mp kk vk es
def nH(rid:Nat):List AV→List AV
 |[]=>[]
 |v::r=>bS rid v::nH rid r
end
def Db(rid:Nat):Ob→Ob
 |.box ty cs=>.box ty (nH rid cs)
 |.own ok x=>.own ok x
def mG(draw:Bool)(rid:Nat)(ops:Array Oper)(st:St):St :=if draw || ops.any (makes ·.op) then
  { tmps:=st.tmps.map fun p=>(p.1,bS rid p.2),heap:=(st.heap.filter fun p=>p.1 / 32768 != rid+1).map fun p=>(p.1,Db rid p.2) }
 else st
section
variable (P:Program) (Eqs:TypeId→Option K) (Sg:FuncId→Option aX) (F:(f:FuncId)→(g:aX)→g.A→Option g.B)
variable {R:Type}
noncomputable def jH(n rid:Nat)(ops:Array Oper)(draw:Bool)(st:St)(K:St→Option R):Option R :=let b:=if draw then Region.before ops else #[]
 if(ops.all fun o=>jG n o)&&(!draw || (xx ops b&&(C9 ops b&&cI (ops.toList.filterMap (·.dst)))))&&decide (ops.size≤128) then
  bQ P Eqs Sg F rid draw ops b (ops.toList.zipIdx.map fun p=>(p.2,p.1)) (mG draw rid ops st) K
 else none
inductive Src where
 |slot (s:Nat)
 |cap (s j:Nat)
structure Shape where
 BZ:List (Nat×K)
 boxes:List (Src×Nat×BK)
 rows:List (Nat×Nat×OK)
 fns:List (Nat×FuncId×List Nat)
def Shape.ks(sh:Shape):List K:=sh.BZ.map (·.2)
def Shape.bs(sh:Shape):List BK:=sh.boxes.map (·.2.2)
def Nn:List OK→Type
 |[]=>Unit
 |k::r=>k.T×Nn r
abbrev Shape.T(sh:Shape):Type:=Kg sh.ks×zw sh.bs×Nn (sh.rows.map (·.2.2))
def te(st:St):(l:List (Nat×K))→Option (Kg (l.map (·.2)))
 |[]=>some ()
 |(s,k)::r =>
  match ic k st.heap (look st.tmps s),te st r with
  |some x,some y=>some (x,y)
  |_,_=>none
def aau(st:St):Src→Option Nat
 |.slot s=>GW (look st.tmps s)
 |.cap s j=>match look st.tmps s with
  |.fn _ cap=>match cap[j]? with
   |some v=>GW v
   |none=>none
  |_=>none
def Iy(st:St):List (Src×Nat×BK)→Option (List Nat)
 |[]=>some []
 |p::r=>match aau st p.1,Iy st r with
  |some i,some is=>some (i::is)
  |_,_=>none
def pK(st:St):(l:List (Nat×Nat×OK))→Option (Nn (l.map (·.2.2)))
 |[]=>some ()
 |(s,_,ok)::r =>
  match fk st.heap ok (look st.tmps s),pK st r with
  |some x,some y=>some (x,y)
  |_,_=>none
def Ci(st:St)(sh:Shape)(ids:List Nat):List AV:=(sh.BZ.flatMap fun p=>(look st.tmps p.1).cells)++iq sh.bs st.heap ids
def Kj(st:St)(sh:Shape)(ids:List Nat):List Nat:=dE sh.bs st.heap ids++sh.rows.flatMap fun p=>rl (look st.tmps p.1)
def qo(st:St)(m:Nat):List (Nat×Nat×OK)→Bool
 |[]=>false
 |(s,id,_)::r=>(id==m&&(match look st.tmps s with | .bY i=>i==m|_=>false)) || qo st m r
def uC(sh:Shape):List Nat:=cG sh.bs (sh.boxes.map (·.2.1)) 9000++sh.rows.map (·.2.1)
def Px(st:St)(ids:List (Nat×Nat)):List (Nat×FuncId×List Nat)→Bool
 |[]=>true
 |(s,f,Gk)::r =>
  (match look st.tmps s with
  |.fn f' cap=>decide (f'=f)&&(match kQ cap with|some is=>decide (is.map (fun i=>(ids.find? (·.1==i)).map (·.2))=Gk.map some)|none=>false)
  |_=>false)&&Px st ids r
def dh(sh:Shape)(st:St):Option sh.T :=match Iy st sh.boxes with
 |none=>none
 |some ids =>
  match te st sh.BZ,dD sh.bs st.heap ids,pK st sh.rows,zF (Kj st sh ids) (Ci st sh ids)&&(cI (uC sh)&&((uC sh).all (fun m=>decide (2000≤m) || ((ids.zip (sh.boxes.map (·.2.1))).any fun p=>p.1==m&&p.2==m) || qo st m sh.rows)&&Px st (ids.zip (sh.boxes.map (·.2.1))) sh.fns)) with
  |some x,some y,some z,true=>some (x,y,z)
  |_,_,_,_=>none
def tf:(l:List (Nat×K))→Kg (l.map (·.2))→List (Nat×AV)
 |[],_=>[]
 |(s,k)::r,x=>(s,cM k x.1)::tf r x.2
def kS:List (Src×Nat×BK)→List (Nat×AV)
 |[]=>[]
 |(.slot s,id,_)::r=>(s,.ref id 0 0 0)::kS r
 |(.cap _ _,_,_)::r=>kS r
def Cj(l:List (Nat×FuncId×List Nat)):List (Nat×AV):=l.map fun p=>(p.1,.fn p.2.1 (p.2.2.map fun i=>.ref i 0 0 0))
def tg:(l:List (Nat×Nat×OK))→Nn (l.map (·.2.2))→Heap
 |[],_=>[]
 |(_,id,ok)::r,x=>(id,.own ok x.1)::tg r x.2
def aA(sh:Shape)(x:sh.T):St :={ tmps:=tf sh.BZ x.1++(kS sh.boxes++(Cj sh.fns++sh.rows.map fun p=>(p.1,.bY p.2.1))),heap:=bJ sh.bs (sh.boxes.map (·.2.1)) 9000 x.2.1++tg sh.rows x.2.2 }
def uD:Code→Nat
 |.region id _ _=>id
 |.seq a _=>uD a
 |.block _ a=>uD a
 |.loop a=>uD a
 |.scope a=>uD a
 |_=>0
def TV(s:Nat)(st:St):St:=match look st.tmps s with
 |.bY m=>match st.heap.get m with
  |some (.own (.row _ k) xs)=>{ tmps:=st.tmps.map fun p=>(p.1,BY m (.sl false k xs) p.2),heap:=st.heap.del m }
  |_=>st
 |_=>st
def Kk(o:Option Shape)(st:St):St:=match o with
 |some sh=>sh.rows.foldl (fun st p=>TV p.1 st) st
 |none=>st
noncomputable def aI(n:Nat)(ann:Nat→Option Shape)(J:(sh:Shape)→List Item→sh.T→Option R)(ret:St→Option R):Nat→List Item→St→Option R
 |0,_,_=>none
 |_+1,[],st=>ret st
 |m+1,.inBlock _::k,st=>aI n ann J ret m k st
 |m+1,.inScope _::k,st=>aI n ann J ret m k st
 |_+1,.inLoop c::k,st =>
  match ann (uD c) with
  |none=>none
  |some sh=>match dh sh st with
   |some x=>J sh (.inLoop c::k) x
   |none=>none
 |m+1,.code c::k,st =>
  match c with
  |.skip | .label _=>aI n ann J ret m k st
  |.seq a b=>aI n ann J ret m (.code a::.code b::k) st
  |.cond c a b=>match ρ st.tmps c with
   |.bool t=>cond t (aI n ann J ret m (.code a::k) st) (aI n ann J ret m (.code b::k) st)
   |_=>none
  |.block id c=>aI n ann J ret m (.code c::.inBlock id::k) st
  |.scope c=>aI n ann J ret m (.code c::.inScope c::k) st
  |.loop c=>aI n ann J ret m (.inLoop c::k) st
  |.exit id=>match exitTo id k with
   |some k'=>aI n ann J ret m k' st
   |none=>none
  |.ret=>ret st
  |.region id ops draw=>jH P Eqs Sg F n id ops draw (Kk (ann (500000+id)) st) fun fR=>aI n ann J ret m k fR
  |_=>none
 |_,_,_=>none
def A5(h:Heap)(tmps:List (Nat×AV))(rvs:List ResultVar):Option (List AV) :=match rvs with
 |[]=>some []
 |.tmp t::r=>match A5 h tmps r with
  |some vs=>some (look tmps t::vs)
  |none=>none
 |.cell a t::r=>match look tmps a with
  |.ref id _ 0 off=>(match h.get id with
   |some (.box _ cs)=>(match fC P t (cs.drop off),A5 h tmps r with
    |some v,some vs=>some (v::vs)
    |_,_=>none)
   |_=>none)
  |_=>none
def th(g:aX)(fn:Func)(st:St):Option g.B :=match A5 P st.heap st.tmps fn.results.toList with
 |none=>none
 |some vs =>
  match b6 g.bs g.rs st.heap (aZ g.bs.length) vs,dD g.bs st.heap (aZ g.bs.length),
   zF (dE g.bs st.heap (aZ g.bs.length)++eZ g.rs vs) (ir g.rs vs++iq g.bs st.heap (aZ g.bs.length))&&cI (sX g) with
  |some x,some y,true=>some (x,y)
  |_,_,_=>none
def entry(g:aX)(x:g.A):St :={ tmps:=bf g.ps (aZ g.bs.length) 0 x.1,heap:=bJ g.bs (aZ g.bs.length) 2000 x.2 }
def fuel:Nat:=100000
end
section
variable (P:Program) (Eqs:TypeId→Option K) (Sg:FuncId→Option aX) (An:FuncId→Nat→Option Shape) (G:(f:FuncId)→(g:aX)→Option (g.A→Option g.B))
variable (F:(f:FuncId)→(g:aX)→g.A→Option g.B)
def body(f:FuncId):Option (Func×Code):=(P.funcs[f]?).bind fun fn=>fn.body.map fun c=>(fn,c)
noncomputable def oQ(f:FuncId)(g:aX)(fn:Func):Nat→(sh:Shape)→List Item→sh.T→Option g.B
 |0,_,_,_=>none
 |n+1,sh,.inLoop c::k,x=>aI P Eqs Sg F fn.ntmps (An f) (oQ f g fn n) (th P g fn) fuel (.code c::.inLoop c::k) (aA sh x)
 |_+1,_,_,_=>none
noncomputable def No(f:FuncId)(g:aX)(n:Nat)(x:g.A):Option g.B :=match body P (f%1000) with
 |none=>none
 |some (fn,c)=>if decide (g.ps.length≤fn.ntmps)&&decide (g.bs.length≤8) then aI P Eqs Sg F fn.ntmps (An f) (oQ P Eqs Sg An F f g fn n) (th P g fn) fuel [.code c] (entry g x) else none
end
section
variable (P:Program) (Eqs:TypeId→Option K) (Sg:FuncId→Option aX) (An:FuncId→Nat→Option Shape) (G:(f:FuncId)→(g:aX)→Option (g.A→Option g.B))
noncomputable def Fn:Nat→(f:FuncId)→(g:aX)→g.A→Option g.B
 |0,f,g,x=>match G f g with
  |some u=>u x
  |none=>none
 |m+1,f,g,x=>match G f g with
  |some u=>u x
  |none=>No P Eqs Sg An (Fn m) f g m x
end
end Go.Vs
namespace Go.Vs
def ti:Code→List Item→List (List Item)
 |.seq a b,k=>ti a (.code b::k)++ti b k
 |.cond _ a b,k=>ti a k++ti b k
 |.block id c,k=>ti c (.inBlock id::k)
 |.scope c,k=>ti c (.inScope c::k)
 |.loop c,k=>(.inLoop c::k)::ti c (.inLoop c::k)
 |_,_=>[]
def aY(P:Program)(f:FuncId)(j:Nat):List Item :=match body P f with
 |some (_,c)=>(ti c []).getD j []
 |none=>[]
def round:List Item→List Item
 |.inLoop c::k=>.code c::.inLoop c::k
 |k=>k
theorem xD(a:Addr)(n m:Nat):(a.add n).add m=a.add (n+m):=by unfold Addr.add;by_cases h1:n=0<;>by_cases h2:m=0<;>simp[h1,h2,Nat.add_assoc]
theorem GX(a:Addr):a.add 0=a:=by simp[Addr.add]
theorem gH(a:Addr)(n:Nat):(a.add n).block=a.block:=by unfold Addr.add;split<;>rfl
theorem dp(g i n:Nat):(⟨g,i,none⟩:Addr).add n=⟨g,i+n,none⟩:=by unfold Addr.add;split<;>simp_all
def cW(Z:Nat→Prop)(w w':World):Prop:=∀b,Z b→w'.heap[b]? = w.heap[b]?
theorem cW.refl(Z:Nat→Prop)(w:World):cW Z w w:=fun _ _=>rfl
theorem cW.trans{Z:Nat→Prop}{w w1 w2:World}(h:cW Z w w1)(k:cW Z w1 w2):cW Z w w2:=fun b hb=>(k b hb).trans (h b hb)
theorem cW.cell{Z:Nat→Prop}{w w':World}(h:cW Z w w'){a:Addr}(ha:Z a.block):w'.cell? a=w.cell? a:=World.cell?_of_block (h _ ha)
def ajI{α:Type}(r:α→List Value→Prop)(Z:Nat→Prop)(sz:Nat)(w:World)(xs:List α)(v:Value):Prop :=∃A c,v=.slice A xs.length c∧xs.length≤c∧(A=none→c=0) ∧ ∀(i:Nat) (x:α),xs[i]? = some x→∃a us,A=some a∧Z a.block∧r x us∧∀(j:Nat) u,us[j]? = some u→w.cell? (a.add (i*sz+j))=some u
def Iz{α β:Type}(ra:α→List Value→Prop)(rb:β→List Value→Prop)(pa pb:Bool)(es:List (α×β))(cz:List MapEntry):Prop :=es.length=cz.length∧∀(i:Nat) (x:α×β) (e:MapEntry),es[i]? = some x→cz[i]? = some e →(ra x.1 e.key.cells.toList∧(pa=true→∃vs,e.key=.agg vs)∧(pa=false→e.key.cells=#[e.key]))∧rb x.2 e.val.cells.toList∧(pb=true→∃vs,e.val=.agg vs)∧(pb=false→e.val.cells=#[e.val])
def aQ(Z:Nat→Prop)(w:World):(k:K)→k.T→List Value→Prop
 |.int ik,n,vs=>vs=[.int ik n]
 |.bool,b,vs=>vs=[.bool b]
 |.str,s,vs=>vs=[.string s]
 |.sl k,xs,vs=>∃v,vs=[v]∧ajI (aQ Z w k) Z k.sz w xs v
 |.pair a b,x,vs=>∃us ws,vs=us++ws∧aQ Z w a x.1 us∧aQ Z w b x.2 ws
 |.one k,x,vs=>aQ Z w k x vs
 |.mp kk vk,es,vs=>∃A,vs=[.map A]∧((A=none∧es=[])∨∃m cz clock,A=some m∧Z m∧w.heap[m]? = some (.map cz clock)∧Iz (aQ Z w kk) (aQ Z w vk) kk.isAgg vk.isAgg es cz.toList)
variable {Z Z':Nat→Prop} {w w':World}
theorem aQ.len:∀{k:K} {x:k.T} {vs:List Value},aQ Z w k x vs→vs.length=k.sz
 |.int _,_,_,h=>by simp only[aQ]at h;subst h;rfl
 |.bool,_,_,h=>by simp only[aQ]at h;subst h;rfl
 |.str,_,_,h=>by simp only[aQ]at h;subst h;rfl
 |.sl _,_,_,h=>by simp only[aQ]at h;obtain⟨v,rfl,_⟩:=h;rfl
 |.pair a b,x,_,h=>by simp only[aQ]at h;obtain⟨us,ws,rfl,h1,h2⟩:=h;rw[List.length_append,aQ.len h1,aQ.len h2];rfl
 |.one k,x,_,h=>by simp only[aQ]at h;exact aQ.len (k:=k) h
 |.mp _ _,_,_,h=>by simp only[aQ]at h;obtain⟨A,rfl,_⟩:=h;rfl
theorem K.jI:∀k:K,0<k.sz
 |.int _=>Nat.one_pos
 |.bool=>Nat.one_pos
 |.str=>Nat.one_pos
 |.sl _=>Nat.one_pos
 |.pair a _=>adB (K.jI a) (Nat.le_add_right _ _)
 |.one k=>K.jI k
 |.mp _ _=>Nat.one_pos
theorem aQ.one:∀{k:K} {x:k.T} {vs:List Value},aQ Z w k x vs→∀u∈vs,u.oneCell'=true
 |.int _,_,_,h=>by simp only[aQ]at h;subst h;simp[Value.oneCell']
 |.bool,_,_,h=>by simp only[aQ]at h;subst h;simp[Value.oneCell']
 |.str,_,_,h=>by simp only[aQ]at h;subst h;simp[Value.oneCell']
 |.sl _,_,_,h=>by simp only[aQ]at h;obtain⟨v,rfl,A,c,rfl,_⟩:=h;simp[Value.oneCell']
 |.pair a b,x,_,h=>by
  simp only[aQ]at h;obtain⟨us,ws,rfl,h1,h2⟩:=h;intro u hu;rcases abH.1 hu with hu|hu
  ·exact aQ.one h1 u hu
  ·exact aQ.one h2 u hu
 |.one k,x,_,h=>by simp only[aQ]at h;exact aQ.one (k:=k) h
 |.mp _ _,_,_,h=>by simp only[aQ]at h;obtain⟨A,rfl,_⟩:=h;simp[Value.oneCell']
theorem Iz.imp{α β:Type}{ra ra':α→List Value→Prop}{rb rb':β→List Value→Prop}{pa pb:Bool}(ha:∀x vs,ra x vs→ra' x vs)(hb:∀x vs,rb x vs→rb' x vs){es:List (α×β)}{cz:List MapEntry}(h:Iz ra rb pa pb es cz):Iz ra' rb' pa pb es cz :=⟨h.1,fun i x e h1 h2=>by obtain⟨⟨a,b⟩,c,d⟩:=h.2 i x e h1 h2;exact⟨⟨ha _ _ a,b⟩,hb _ _ c,d⟩⟩
theorem aQ.mono(hz:∀b,Z b→Z' b)(hs:cW Z w w'):∀{k:K} {x:k.T} {vs:List Value},aQ Z w k x vs→aQ Z' w' k x vs
 |.int _,_,_,h=>h
 |.bool,_,_,h=>h
 |.str,_,_,h=>h
 |.sl k,xs,_,h=>by simp only[aQ]at h ⊢;obtain⟨v,rfl,A,c,rfl,hl,hn,he⟩:=h;refine⟨_,rfl,A,c,rfl,hl,hn,fun i x hx=>?_⟩;obtain⟨a,us,ha,hza,hr,hc⟩:=he i x hx;refine⟨a,us,ha,hz _ hza,aQ.mono hz hs hr,fun j u hu=>?_⟩;rw[hs.cell (by rw[gH];exact hza)];exact hc j u hu
 |.pair a b,x,_,h=>by simp only[aQ]at h ⊢;obtain⟨us,ws,rfl,h1,h2⟩:=h;exact⟨us,ws,rfl,aQ.mono hz hs h1,aQ.mono hz hs h2⟩
 |.one k,x,_,h=>by simp only[aQ]at h ⊢;exact aQ.mono hz hs (k:=k) h
 |.mp kk vk,es,_,h=>by simp only[aQ]at h ⊢;obtain⟨A,rfl,h⟩:=h;refine⟨A,rfl,h.imp (fun h=>h) fun⟨m,cz,clock,h1,h2,h3,h4⟩=>⟨m,cz,clock,h1,hz _ h2,(hs m h2).trans h3,h4.imp (fun _ _ h=>aQ.mono hz hs h) (fun _ _ h=>aQ.mono hz hs h)⟩⟩
def Yr:Value→Nat
 |.pointer (some a)=>a.block
 |.slice (some a) _ _=>a.block
 |_=>0
def ob:Value→Option Nat
 |.pointer (some a)=>some a.block
 |.slice (some a) _ c=>if c=0 then none else some a.block
 |.map (some m)=>some m
 |_=>none
mutual
def aD(Z:Nat→Prop)(ψ:Nat→Value)(h:Nat→Option Ob)(w:World):AV→Value→Prop
 |.no,_=>True
 |.bool b,v=>v=.bool b
 |.int k n,v=>v=.int k n
 |.str s,v=>v=.string s
 |.mL,v=>v=.pointer none
 |.il,v=>v=.slice none 0 0
 |.ref id s i off,v=>∃a,v=.pointer (some a)∧(h id≠none→a=⟨Yr (ψ id),i*s+off,none⟩)
 |.fp k x off,v=>∃a us,v=.pointer (some a)∧Z a.block∧aQ Z w k x us∧∀(j:Nat) u,us[off+j]? = some u→w.cell? (a.add j)=some u
 |.sl ex k xs,v=>aQ Z w (.sl k) xs [v]∧(ex=true→∃A c,v=.slice A c c)
 |.mp kk vk es,v=>aQ Z w (.mp kk vk) es [v]
 |.bY id,v=>(v.cells=#[v]∧v.oneCell'=true)∧(h id≠none→v=ψ id)
 |.fn f cap,v=>∃vs,v=.func (.func f) #[] vs∧ax Z ψ h w cap vs.toList
 |.agg cs,v=>∃vs,v=.agg vs∧ax Z ψ h w cs vs.toList
 |.pH cs,v=>∃vs,v=.tuple vs∧ax Z ψ h w cs vs.toList
def ax(Z:Nat→Prop)(ψ:Nat→Value)(h:Nat→Option Ob)(w:World):List AV→List Value→Prop
 |[],vs=>vs=[]
 |a::r,vs=>∃v us,vs=v::us∧aD Z ψ h w a v∧ax Z ψ h w r us
end
mutual
def aS(p:Nat→Prop):AV→Prop
 |.ref id _ _ _=>p id
 |.bY id=>p id
 |.fn _ cap=>aJ p cap
 |.agg cs=>aJ p cs
 |.pH vs=>aJ p vs
 |.no=>True
 |.bool _=>True
 |.int _ _=>True
 |.str _=>True
 |.mL=>True
 |.il=>True
 |.fp _ _ _=>True
 |.sl _ _ _=>True
 |.mp _ _ _=>True
def aJ(p:Nat→Prop):List AV→Prop
 |[]=>True
 |v::r=>aS p v∧aJ p r
end
section
variable {Z Z':Nat→Prop} {w w':World} {ψ ψ':Nat→Value} {h h':Nat→Option Ob} {p:Nat→Prop}
mutual
theorem aD.move(hz:∀b,Z b→Z' b)(hs:cW Z w w')(hh:∀id,p id→h' id≠none→h id≠none∧ψ' id=ψ id):∀{a:AV} {v:Value},aS p a→aD Z ψ h w a v→aD Z' ψ' h' w' a v
 |.no,_,_,_=>by simp only[aD]
 |.bool b,_,_,hr=>by simpa only[aD] using hr
 |.int k n,_,_,hr=>by simpa only[aD] using hr
 |.str s,_,_,hr=>by simpa only[aD] using hr
 |.mL,_,_,hr=>by simpa only[aD] using hr
 |.il,_,_,hr=>by simpa only[aD] using hr
 |.ref id s i off,_,hm,hr=>by simp only[aD,aS]at hr hm ⊢;obtain⟨a,rfl,ha⟩:=hr;refine⟨a,rfl,fun hn=>?_⟩;obtain⟨h1,h2⟩:=hh id hm hn;rw[h2];exact ha h1
 |.fp k x off,_,_,hr=>by simp only[aD]at hr ⊢;obtain⟨a,us,rfl,hza,hk,hc⟩:=hr;refine⟨a,us,rfl,hz _ hza,hk.mono hz hs,fun j u hu=>?_⟩;rw[hs.cell (by rw[gH];exact hza)];exact hc j u hu
 |.sl ex k xs,_,_,hr=>by simp only[aD]at hr ⊢;exact⟨aQ.mono hz hs hr.1,hr.2⟩
 |.mp kk vk es,_,_,hr=>by simp only[aD]at hr ⊢;exact aQ.mono hz hs hr
 |.bY id,_,hm,hr=>by simp only[aD,aS]at hr hm ⊢;refine⟨hr.1,fun hn=>?_⟩;obtain⟨h1,h2⟩:=hh id hm hn;rw[h2];exact hr.2 h1
 |.fn f cap,_,hm,hr=>by simp only[aD,aS]at hr hm ⊢;obtain⟨vs,rfl,hl⟩:=hr;exact⟨vs,rfl,ax.move hz hs hh hm hl⟩
 |.agg cs,_,hm,hr=>by simp only[aD,aS]at hr hm ⊢;obtain⟨vs,rfl,hl⟩:=hr;exact⟨vs,rfl,ax.move hz hs hh hm hl⟩
 |.pH cs,_,hm,hr=>by simp only[aD,aS]at hr hm ⊢;obtain⟨vs,rfl,hl⟩:=hr;exact⟨vs,rfl,ax.move hz hs hh hm hl⟩
theorem ax.move(hz:∀b,Z b→Z' b)(hs:cW Z w w')(hh:∀id,p id→h' id≠none→h id≠none∧ψ' id=ψ id):∀{a:List AV} {v:List Value},aJ p a→ax Z ψ h w a v→ax Z' ψ' h' w' a v
 |[],_,_,hr=>by simpa only[ax] using hr
 |a::r,_,hm,hr=>by simp only[ax,aJ]at hr hm ⊢;obtain⟨v,us,rfl,h1,h2⟩:=hr;exact⟨v,us,rfl,aD.move hz hs hh hm.1 h1,ax.move hz hs hh hm.2 h2⟩
end
mutual
theorem aS.top:∀a:AV,aS (fun _=>True) a
 |.no=>by simp only[aS]
 |.bool b=>by simp only[aS]
 |.int k n=>by simp only[aS]
 |.str s=>by simp only[aS]
 |.mL=>by simp only[aS]
 |.il=>by simp only[aS]
 |.ref id s i off=>by simp only[aS]
 |.fp k x off=>by simp only[aS]
 |.sl ex k xs=>by simp only[aS]
 |.mp kk vk es=>by simp only[aS]
 |.bY id=>by simp only[aS]
 |.fn f cap=>by simp only[aS];exact aJ.top cap
 |.agg cs=>by simp only[aS];exact aJ.top cs
 |.pH cs=>by simp only[aS];exact aJ.top cs
theorem aJ.top:∀a:List AV,aJ (fun _=>True) a
 |[]=>by simp only[aJ]
 |a::r=>by simp only[aJ];exact⟨aS.top a,aJ.top r⟩
end
theorem aD.less(hz:∀b,Z b→Z' b)(hs:cW Z w w')(hh:∀id,h' id≠none→h id≠none∧ψ' id=ψ id){a:AV}{v:Value}(hr:aD Z ψ h w a v):aD Z' ψ' h' w' a v :=aD.move (p:=fun _=>True) hz hs (fun id _ hn=>hh id hn) (aS.top a) hr
theorem ax.less(hz:∀b,Z b→Z' b)(hs:cW Z w w')(hh:∀id,h' id≠none→h id≠none∧ψ' id=ψ id){a:List AV}{v:List Value}(hr:ax Z ψ h w a v):ax Z' ψ' h' w' a v :=ax.move (p:=fun _=>True) hz hs (fun id _ hn=>hh id hn) (aJ.top a) hr
theorem ax.length:∀{a:List AV} {v:List Value},ax Z ψ h w a v→a.length=v.length
 |[],_,hr=>by simp only[ax]at hr;subst hr;rfl
 |a::r,_,hr=>by simp only[ax]at hr;obtain⟨v,us,rfl,_,h2⟩:=hr;simp[ax.length h2]
theorem ax.get:∀{a:List AV} {v:List Value} (i:Nat) {x:AV},ax Z ψ h w a v→a[i]? = some x→∃u,v[i]? = some u∧aD Z ψ h w x u
 |[],_,i,x,_,hx=>by simp at hx
 |a::r,_,0,x,hr,hx=>by simp only[ax]at hr;obtain⟨v,us,rfl,h1,h2⟩:=hr;simp only[List.getElem?_cons_zero,Option.some.injEq]at hx;subst hx;exact⟨v,rfl,h1⟩
 |a::r,_,i+1,x,hr,hx=>by simp only[ax]at hr;obtain⟨v,us,rfl,h1,h2⟩:=hr;obtain⟨u,hu,hr⟩:=ax.get i h2 (by simpa using hx);exact⟨u,by simpa using hu,hr⟩
theorem ax.append:∀{a b:List AV} {v u:List Value},ax Z ψ h w a v→ax Z ψ h w b u→ax Z ψ h w (a++b) (v++u)
 |[],b,_,u,hr,hb=>by simp only[ax]at hr;subst hr;exact hb
 |a::r,b,_,u,hr,hb=>by simp only[ax]at hr;obtain⟨v,us,rfl,h1,h2⟩:=hr;simp only[List.cons_append,ax];exact⟨v,us++u,rfl,h1,ax.append h2 hb⟩
theorem ax.split:∀{a b:List AV} {v:List Value},ax Z ψ h w (a++b) v→∃us ws,v=us++ws∧ax Z ψ h w a us∧ax Z ψ h w b ws
 |[],b,v,hr=>⟨[],v,rfl,by simp only[ax],hr⟩
 |a::r,b,v,hr=>by simp only[List.cons_append,ax]at hr;obtain⟨x,us,rfl,h1,h2⟩:=hr;obtain⟨j7,ws,rfl,h3,h4⟩:=ax.split h2;exact⟨x::j7,ws,rfl,by simp only[ax];exact⟨x,j7,rfl,h1,h3⟩,h4⟩
theorem ax.drop(n:Nat){a:List AV}{v:List Value}(hr:ax Z ψ h w a v):ax Z ψ h w (a.drop n) (v.drop n):=by
 by_cases hn:n≤a.length
 ·have uE:ax Z ψ h w (a.take n++a.drop n) v:=by rw[List.take_append_drop];exact hr
  obtain⟨us,ws,rfl,h1,h2⟩:=ax.split uE;have hl:=h1.length;rw[List.length_take,Nat.min_eq_left hn]at hl;rw[hl,List.drop_left];rw[←hl];exact h2
 ·have:=hr.length;rw[List.drop_eq_nil_of_le (by omega),List.drop_eq_nil_of_le (by omega)];simp only[ax]
theorem ax.take(n:Nat){a:List AV}{v:List Value}(hr:ax Z ψ h w a v):ax Z ψ h w (a.take n) (v.take n):=by
 by_cases hn:n≤a.length
 ·have uE:ax Z ψ h w (a.take n++a.drop n) v:=by rw[List.take_append_drop];exact hr
  obtain⟨us,ws,rfl,h1,h2⟩:=ax.split uE;have hl:=h1.length;rw[List.length_take,Nat.min_eq_left hn]at hl
  conv=>rhs;rw[hl,List.take_left]
  exact h1
 ·have:=hr.length;rw[List.take_of_length_le (by omega),List.take_of_length_le (by omega)];exact hr
theorem ax.set:∀{a:List AV} {v:List Value} (i:Nat) {x:AV} {u:Value},ax Z ψ h w a v→aD Z ψ h w x u→ax Z ψ h w (a.set i x) (v.set i u)
 |[],_,i,x,u,hr,_=>by simp only[ax]at hr;subst hr;simp only[List.set_nil,ax]
 |a::r,_,0,x,u,hr,hx=>by simp only[ax]at hr;obtain⟨v,us,rfl,h1,h2⟩:=hr;simp only[List.set_cons_zero,ax];exact⟨u,us,rfl,hx,h2⟩
 |a::r,_,i+1,x,u,hr,hx=>by simp only[ax]at hr;obtain⟨v,us,rfl,h1,h2⟩:=hr;simp only[List.set_cons_succ,ax];exact⟨v,_,rfl,h1,ax.set i h2 hx⟩
theorem jB:∀{k:K} {x:k.T} {vs:List Value},aQ Z w k x vs→ax Z ψ h w (enc k x) vs
 |.int _,_,_,hr=>by simp only[aQ]at hr;subst hr;simp[enc,ax,aD]
 |.bool,_,_,hr=>by simp only[aQ]at hr;subst hr;simp[enc,ax,aD]
 |.str,_,_,hr=>by simp only[aQ]at hr;subst hr;simp[enc,ax,aD]
 |.sl k,xs,_,hr=>by have uE:=hr;simp only[aQ]at uE;obtain⟨v,rfl,_⟩:=uE;simp only[enc,ax,aD];exact⟨v,[],rfl,⟨hr,by simp⟩,rfl⟩
 |.pair a b,x,_,hr=>by simp only[aQ]at hr;obtain⟨us,ws,rfl,h1,h2⟩:=hr;simp only[enc];exact ax.append (jB h1) (jB h2)
 |.one k,x,_,hr=>by simp only[aQ]at hr;simp only[enc];exact jB (k:=k) hr
 |.mp kk vk,es,_,hr=>by have uE:=hr;simp only[aQ]at uE;obtain⟨A,rfl,_⟩:=uE;simp only[enc,ax,aD];exact⟨_,[],rfl,hr,rfl⟩
theorem TW{k:K}{v:Value}(hr:aD Z ψ h w .il v):aQ Z w (.sl k) [] [v]:=by simp only[aD]at hr;subst hr;simp only[aQ];exact⟨_,rfl,none,0,rfl,abZ _,fun _=>rfl,fun i x hx=>by simp at hx⟩
theorem Ck:∀{k:K} {cs:List AV} {x:k.T} {r:List AV} {vs:List Value},dec k cs=some (x,r)→ax Z ψ h w cs vs→∃us ws,vs=us++ws∧aQ Z w k x us∧ax Z ψ h w r ws
 |.int ik,cs,x,r,vs,hd,hr=>by
  simp only[dec]at hd;unfold Is at hd
  split at hd
  ·split at hd
   ·rename_i he;subst he
    cases hd
    simp only[ax,aD]at hr;obtain⟨v,us,rfl,rfl,h2⟩:=hr;exact⟨[_],us,rfl,by simp only[aQ],h2⟩
   ·cases hd
  ·cases hd
 |.bool,cs,x,r,vs,hd,hr=>by
  simp only[dec]at hd;unfold Cg at hd
  split at hd
  ·cases hd
   simp only[ax,aD]at hr;obtain⟨v,us,rfl,rfl,h2⟩:=hr;exact⟨[_],us,rfl,by simp only[aQ],h2⟩
  ·cases hd
 |.str,cs,x,r,vs,hd,hr=>by
  simp only[dec]at hd;unfold It at hd
  split at hd
  ·cases hd
   simp only[ax,aD]at hr;obtain⟨v,us,rfl,rfl,h2⟩:=hr;exact⟨[_],us,rfl,by simp only[aQ],h2⟩
  ·cases hd
 |.sl k,cs,x,r,vs,hd,hr=>by
  simp only[dec]at hd;unfold Pq at hd
  split at hd
  ·split at hd
   ·rename_i he;subst he
    cases hd
    simp only[ax]at hr;obtain⟨v,us,rfl,h1,h2⟩:=hr;simp only[aD]at h1;exact⟨[_],us,rfl,h1.1,h2⟩
   ·cases hd
  ·cases hd
   simp only[ax]at hr;obtain⟨v,us,rfl,h1,h2⟩:=hr;exact⟨[_],us,rfl,TW h1,h2⟩
  ·cases hd
 |.pair a b,cs,x,r,vs,hd,hr=>by
  simp only[dec]at hd
  split at hd
  ·rename_i x1 r1 h1
   split at hd
   ·rename_i y1 r2 h2
    cases hd
    obtain⟨us,ws,rfl,k1,k2⟩:=Ck h1 hr;obtain⟨j7,ws',rfl,k3,k4⟩:=Ck h2 k2;exact⟨us++j7,ws',by rw[List.append_assoc],by simp only[aQ];exact⟨us,j7,rfl,k1,k3⟩,k4⟩
   ·cases hd
  ·cases hd
 |.one k,cs,x,r,vs,hd,hr=>by simp only[dec]at hd;obtain⟨us,ws,e,k1,k2⟩:=Ck (k:=k) hd hr;exact⟨us,ws,e,by simp only[aQ];exact k1,k2⟩
 |.mp kk vk,cs,x,r,vs,hd,hr=>by
  simp only[dec]at hd;unfold Pr at hd
  split at hd
  ·split at hd
   ·rename_i he;obtain⟨rfl,rfl⟩:=he
    cases hd
    simp only[ax]at hr;obtain⟨v,us,rfl,h1,h2⟩:=hr;simp only[aD]at h1;exact⟨[_],us,rfl,h1,h2⟩
   ·cases hd
  ·cases hd
theorem eR{k:K}{cs:List AV}{x:k.T}{vs:List Value}(hd:ep k cs=some x)(hr:ax Z ψ h w cs vs):aQ Z w k x vs:=by
 unfold ep at hd
 split at hd
 ·rename_i x' h1
  cases hd
  obtain⟨us,ws,rfl,k1,k2⟩:=Ck h1 hr;simp only[ax]at k2;subst k2;rw[List.append_nil];exact k1
 ·cases hd
theorem nI{k:K}{x:k.T}{v:Value}(hr:aQ Z w k x v.cells.toList)(hp:k.isAgg=true→∃vs,v=.agg vs)(hn:k.isAgg=false→v.cells=#[v]):aD Z ψ h w (cM k x) v:=by
 cases k with
 |int ik=>rw[hn rfl]at hr;simp only[aQ]at hr;simp only[cM,aD];simpa using hr
 |bool=>rw[hn rfl]at hr;simp only[aQ]at hr;simp only[cM,aD];simpa using hr
 |str=>rw[hn rfl]at hr;simp only[aQ]at hr;simp only[cM,aD];simpa using hr
 |sl k=>rw[hn rfl]at hr;simp only[cM,aD];exact⟨hr,by simp⟩
 |mp kk vk=>rw[hn rfl]at hr;simp only[cM,aD];exact hr
 |pair a b =>obtain⟨vs,rfl⟩:=hp rfl;simp only[cM,aD];exact⟨vs,rfl,jB hr⟩
 |one k =>obtain⟨vs,rfl⟩:=hp rfl;simp only[cM,aD];exact⟨vs,rfl,jB hr⟩
end
end Go.Vs
namespace Go.Vs
theorem Heap.jJ{n m:Nat}(bp:m≠n):∀h:Heap,(h.del n).get m=h.get m
 |[]=>rfl
 |(i,o)::r=>by
  simp only[Heap.del]
  split
  ·rename_i hi;rw[Heap.jJ bp r];simp only[Heap.get];rw[if_neg (by omega)]
  ·simp only[Heap.get]
   split
   ·rfl
   ·exact Heap.jJ bp r
theorem Heap.iH(n:Nat):∀h:Heap,(h.del n).get n=none
 |[]=>rfl
 |(i,o)::r=>by
  simp only[Heap.del]
  split
  ·exact Heap.iH n r
  ·rename_i hi;simp only[Heap.get];rw[if_neg hi];exact Heap.iH n r
theorem Heap.IA(h:Heap)(n:Nat)(o:Ob):(h.set n o).get n=some o:=by simp[Heap.set,Heap.get]
theorem Heap.Np{n m:Nat}(bp:m≠n)(h:Heap)(o:Ob):(h.set n o).get m=h.get m:=by simp only[Heap.set,Heap.get];rw[if_neg (by omega)];exact Heap.jJ bp h
theorem Heap.xF{n m:Nat}{h:Heap}{o:Ob}(hg:(h.del n).get m=some o):h.get m=some o∧m≠n:=by
 by_cases bp:m=n
 ·subst bp;rw[Heap.iH]at hg;cases hg
 ·rw[Heap.jJ bp]at hg;exact⟨hg,bp⟩
theorem Heap.get_append(a b:Heap)(n:Nat):(a++b).get n=(match a.get n with|some o=>some o|none=>b.get n):=by
 induction a with
 |nil=>rfl
 |cons p r ih =>
  obtain⟨i,o⟩:=p;simp only[List.cons_append,Heap.get]
  split
  ·rfl
  ·exact ih
def pM(Z:Nat→Prop)(w:World)(k:K)(xs:List k.T)(vs:List Value):Prop :=∀(i:Nat) (x:k.T),xs[i]? = some x→aQ Z w k x ((vs.drop (i*k.sz)).take k.sz)
abbrev Hp:=Nat→Option Ob
def fK(w:World)(e:TypeId)(size:Nat)(v:Value)(n:Nat)(vs:List Value):Prop :=vs.length=n*size ∧((n=0∧∃A,v=.slice A 0 0) ∨ ∃g cap cur,v=.slice (some ⟨g,0,none⟩) n cap∧0<cap∧w.heap[g]? = some (.cells cur e (0,0))∧n≤cap∧cap≤maxLen∧cur.size=cap*size∧cur.toList.take (n*size)=vs)
theorem fK.of{w:World}{base e size n:Nat}{v:Value}{vs:List Value}(h:w.ownsRow base e size v n vs):fK w e size v n vs:=by
 obtain⟨h1,h2⟩:=h;refine⟨h1,?_⟩;rcases h2 with⟨rfl,h2⟩|⟨g,cap,cur,rfl,_,h3,h4,h5,h6,h7⟩
 ·exact .inl ⟨h2,none,rfl⟩
 ·by_cases hc:cap=0
  ·subst hc;have:n=0:=by omega
   subst this;exact .inl ⟨rfl,_,rfl⟩
  ·exact .inr ⟨g,cap,cur,rfl,by omega,h3,h4,h5,h6,h7⟩
theorem fK.slice{w:World}{e size n:Nat}{v:Value}{vs:List Value}(h:fK w e size v n vs):∃A c,v=.slice A n c:=by
 rcases h.2 with⟨h0,A,rfl⟩|⟨g,cap,cur,rfl,_⟩
 ·subst h0;exact⟨A,0,rfl⟩
 ·exact⟨_,_,rfl⟩
theorem fK.one{w:World}{e size n:Nat}{v:Value}{vs:List Value}(h:fK w e size v n vs):v.cells=#[v]∧v.oneCell'=true:=by obtain⟨A,c,rfl⟩:=h.slice;exact⟨rfl,by simp[Value.oneCell']⟩
theorem fK.kept{w w':World}{e size n:Nat}{v:Value}{vs:List Value}(ho:fK w e size v n vs)(hk:∀g,ob v=some g→w'.heap[g]? = w.heap[g]?):fK w' e size v n vs:=by
 obtain⟨h1,h2⟩:=ho;refine⟨h1,?_⟩;rcases h2 with h2|⟨g,cap,cur,rfl,hc,hh,r⟩
 ·exact .inl h2
 ·exact .inr ⟨g,cap,cur,rfl,hc,(hk g (by simp only[ob];rw[if_neg (by omega)])).trans hh,r⟩
def kM(Z:Nat→Prop)(w:World):(ok:OK)→Value→ok.T→Prop
 |.row ty k,v,xs=>∃vs,fK w ty k.sz v xs.length vs∧pM Z w k xs vs
 |.map kk vk,v,es=>∃m cz clock,v=.map (some m)∧w.heap[m]? = some (.map cz clock)∧Iz (aQ Z w kk) (aQ Z w vk) kk.isAgg vk.isAgg es cz.toList∧cz.toList.Pairwise (fun a b=>a.born≠b.born)∧∀e∈cz.toList,e.born<clock
 |.iter kk vk,v,x=>∃r m since seen cz clock,v=.pointer (some ⟨r,0,none⟩)∧w.heap[r]? = some (.mapIter (some m) since seen clock)∧Z m∧w.heap[m]? = some (.map cz clock) ∧ cz.toList.Pairwise (fun a b=>a.born≠b.born)∧since=clock∧(∀e∈cz.toList,e.born<clock)∧Iz (aQ Z w kk) (aQ Z w vk) kk.isAgg vk.isAgg x.2 (cz.toList.filter fun e => !seen.contains e.born) ∧(match x.1 with|none=>True|some c=>∃e∈cz.toList,seen.back? = some e.born∧Iz (aQ Z w kk) (aQ Z w vk) kk.isAgg vk.isAgg [c] [e])
 |.qg,v,x=>∃r,v=.pointer (some ⟨r,0,none⟩)∧w.heap[r]? = some (.stringIter x.1 x.2)
theorem kM.lt{Z:Nat→Prop}{w:World}:∀{ok:OK} {v:Value} {x:ok.T} {b:Nat},kM Z w ok v x→ob v=some b→b<w.heap.size
 |.row ty k,v,xs,b,h,hb=>by
  obtain⟨vs,⟨_,h⟩,_⟩:=h;rcases h with⟨_,A,rfl⟩|⟨g,cap,cur,rfl,hc,h2,_⟩
  ·cases A<;>simp[ob]at hb
  ·simp only[ob]at hb;rw[if_neg (by omega)]at hb
   cases hb
   exact(abv.1 h2).1
 |.map _ _,v,_,b,h,hb=>by obtain⟨m,cz,clock,rfl,h2,_⟩:=h;simp only[ob,Option.some.injEq]at hb;subst hb;exact(abv.1 h2).1
 |.iter _ _,v,_,b,h,hb=>by obtain⟨r,m,since,seen,cz,clock,rfl,h2,_⟩:=h;simp only[ob,Option.some.injEq]at hb;subst hb;exact(abv.1 h2).1
 |.qg,v,_,b,h,hb=>by obtain⟨r,rfl,h2⟩:=h;simp only[ob,Option.some.injEq]at hb;subst hb;exact(abv.1 h2).1
theorem kM.one{Z:Nat→Prop}{w:World}:∀{ok:OK} {v:Value} {x:ok.T},kM Z w ok v x→v.cells=#[v]∧v.oneCell'=true
 |.row ty k,v,xs,h=>by obtain⟨vs,h,_⟩:=h;obtain⟨A,c,rfl⟩:=h.slice;exact⟨rfl,by simp[Value.oneCell']⟩
 |.map _ _,v,_,h=>by obtain⟨m,cz,clock,rfl,_⟩:=h;exact⟨rfl,by simp[Value.oneCell']⟩
 |.iter _ _,v,_,h=>by obtain⟨r,m,since,seen,cz,clock,rfl,_⟩:=h;exact⟨rfl,by simp[Value.oneCell']⟩
 |.qg,v,_,h=>by obtain⟨r,rfl,_⟩:=h;exact⟨rfl,by simp[Value.oneCell']⟩
theorem kM.kept{Z Z':Nat→Prop}{w w':World}(hz:∀b,Z b→Z' b)(sm:cW Z w w'):∀{ok:OK} {v:Value} {x:ok.T},(∀g,ob v=some g→w'.heap[g]? = w.heap[g]?)→kM Z w ok v x→kM Z' w' ok v x
 |.row ty k,v,xs,hk,h=>by obtain⟨vs,h1,h2⟩:=h;exact⟨vs,h1.kept hk,fun i x hx=>(h2 i x hx).mono hz sm⟩
 |.map _ _,v,_,hk,h=>by obtain⟨m,cz,clock,rfl,h2,h3,h4⟩:=h;exact⟨m,cz,clock,rfl,(hk m rfl).trans h2,h3.imp (fun _ _ h=>h.mono hz sm) (fun _ _ h=>h.mono hz sm),h4⟩
 |.iter _ _,v,x,hk,h=>by
  obtain⟨r,m,since,seen,cz,clock,rfl,h2,h3,h4,h5,h6,h7,h8,h9⟩:=h;refine⟨r,m,since,seen,cz,clock,rfl,(hk r rfl).trans h2,hz _ h3,(sm m h3).trans h4,h5,h6,h7,h8.imp (fun _ _ h=>h.mono hz sm) (fun _ _ h=>h.mono hz sm),?_⟩
  split
  ·trivial
  ·rename_i c hc;rw[hc]at h9;obtain⟨e,he,oI,B2⟩:=h9;exact⟨e,he,oI,B2.imp (fun _ _ h=>h.mono hz sm) (fun _ _ h=>h.mono hz sm)⟩
 |.qg,v,_,hk,h=>by obtain⟨r,rfl,h2⟩:=h;exact⟨r,rfl,(hk r rfl).trans h2⟩
structure Good(Z:Nat→Prop)(ψ:Nat→Value)(h:Hp)(w:World)(B0:Nat)(O:Nat→Prop):Prop where
 box:∀id ty cs,h id=some (.box ty cs)→∃g vs,ψ id=.pointer (some ⟨g,0,none⟩)∧w.heap[g]? = some (.cells vs ty (0,0))∧ax Z ψ h w cs vs.toList∧∀u∈vs.toList,u.oneCell'=true
 row:∀id ok x,h id=some (.own ok x)→kM Z w ok (ψ id) x
 live:∀id g,h id≠none→ob (ψ id)=some g→¬Z g∧(B0≤g∨O g)
 apart:∀id oP g,h id≠none→h oP≠none→ob (ψ id)=some g→ob (ψ oP)=some g→id=oP
 kT:∀b,Z b→b<w.heap.size
variable {Z Z':Nat→Prop} {ψ ψ':Nat→Value} {h h':Hp} {w w':World} {B0:Nat} {O:Nat→Prop}
theorem Good.sub(g:Good Z ψ h w B0 O)(hs:∀id o,h' id=some o→h id=some o):Good Z ψ h' w B0 O:=by
 have hn:∀id,h' id≠none→h id≠none:=fun id hn=>by obtain⟨o,ho⟩:=abT.1 hn;rw[hs id o ho];simp
 refine⟨fun id ty cs hb=>?_,fun id ok x hb=>g.row id ok x (hs _ _ hb),fun id b h1 h2=>g.live id b (hn id h1) h2,fun id oP b h1 h2 h3 h4=>g.apart id oP b (hn _ h1) (hn _ h2) h3 h4,g.kT⟩;obtain⟨b,vs,h1,h2,h3,h4⟩:=g.box id ty cs (hs _ _ hb);exact⟨b,vs,h1,h2,ax.less (fun _ h=>h) (cW.refl _ _) (fun id bV=>⟨hn id bV,rfl⟩) h3,h4⟩
theorem Good.freeze(g:Good Z ψ h w B0 O)(hs:∀id o,h' id=some o→h id=some o)(hz:∀b,Z b→Z' b) (Dc:∀b,Z' b→Z b∨∃id,h id≠none∧h' id=none∧ob (ψ id)=some b):Good Z' ψ h' w B0 O:=by
 have hn:∀id,h' id≠none→h id≠none:=fun id hn=>by obtain⟨o,ho⟩:=abT.1 hn;rw[hs id o ho];simp
 have lt:∀id b,h id≠none→ob (ψ id)=some b→b<w.heap.size:=by
  intro id b h1 h2;obtain⟨o,ho⟩:=abT.1 h1
  cases o with
  |box ty cs =>obtain⟨gg,vs,e1,e2,_⟩:=g.box id ty cs ho;rw[e1]at h2;simp only[ob,Option.some.injEq]at h2;subst h2;exact(abv.1 e2).1
  |own ok x=>exact(g.row id ok x ho).lt h2
 refine⟨fun id ty cs hb=>?_,fun id ok x hb=>?_,fun id b h1 h2=>⟨fun hzb=>?_,(g.live id b (hn id h1) h2).2⟩,fun id oP b h1 h2 h3 h4=>g.apart id oP b (hn _ h1) (hn _ h2) h3 h4,fun b hb=>?_⟩
 ·obtain⟨b,vs,h1,h2,h3,h4⟩:=g.box id ty cs (hs _ _ hb);exact⟨b,vs,h1,h2,ax.less hz (cW.refl _ _) (fun id bV=>⟨hn id bV,rfl⟩) h3,h4⟩
 ·exact(g.row id ok x (hs _ _ hb)).kept hz (cW.refl _ _) (fun _ _=>rfl)
 ·rcases Dc b hzb with h3|⟨oP,h3,h4,h5⟩
  ·exact(g.live id b (hn id h1) h2).1 h3
  ·have:=g.apart id oP b (hn id h1) h3 h2 h5;subst this;exact h1 h4
 ·rcases Dc b hb with h3|⟨oP,h3,h4,h5⟩
  ·exact g.kT b h3
  ·exact lt oP b h3 h5
theorem xG{ty:TypeId}{k:K}{xs:List k.T}{v:Value}{vs:List Value}(ho:fK w ty k.sz v xs.length vs)(hv:pM Z w k xs vs)(hz:∀b,Z b→Z' b)(hb:∀b,ob v=some b→Z' b) :
  aQ Z' w (.sl k) xs [v]:=by
 simp only[aQ];refine⟨v,rfl,?_⟩;obtain⟨hl,e⟩:=ho;rcases e with⟨h0,A,rfl⟩|⟨g,cap,cur,rfl,Nq,hh,hc,_,hs,ajK⟩
 ·have:xs=[]:=abU h0;subst this;exact⟨A,0,rfl,abZ _,fun _=>rfl,fun i x hx=>by simp at hx⟩
 ·refine⟨some ⟨g,0,none⟩,cap,rfl,hc,fun e=>(by cases e),fun i x hx=>?_⟩;have hi:i<xs.length:=(abg.1 hx).1;refine⟨⟨g,0,none⟩,_,rfl,hb g (by simp only[ob];rw[if_neg (by omega)]),(hv i x hx).mono hz (cW.refl _ _),fun j u hu=>?_⟩;rw[dp,Nat.zero_add];simp only[World.cell?,hh];rw[List.getElem?_take]at hu
  split at hu
  ·rename_i hj;rw[List.getElem?_drop]at hu;rw[←ajK,List.getElem?_take]at hu
   split at hu
   ·simpa using hu
   ·cases hu
  ·cases hu
theorem GY{hh:Heap}{a:AV}{v:Value}(g:Good Z ψ hh.get w B0 O)(hz:∀b,Z b→Z' b)(hb:∀id b,a=.bY id→hh.get id≠none→ob (ψ id)=some b→Z' b)(hr:aD Z ψ hh.get w a v):aD Z' ψ hh.get w (dm hh a) v:=by
 unfold dm
 split
 ·rename_i id
  split
  ·rename_i ty k xs hg;simp only[aD]at hr;have hv:=hr.2 (by rw[hg];simp);subst hv;obtain⟨vs,h1,h2⟩:=g.row id (.row ty k) xs hg;simp only[aD];exact⟨xG h1 h2 hz (fun b hbb=>hb id b rfl (by rw[hg];simp) hbb),by simp⟩
  ·rename_i kk vk es hg;simp only[aD]at hr;have hv:=hr.2 (by rw[hg];simp);subst hv;obtain⟨m,cz,clock,h1,h2,h3,_⟩:=g.row id (.map kk vk) es hg;simp only[aD,aQ];refine⟨some m,by rw[h1],.inr ⟨m,cz,clock,rfl,hb id m rfl (by rw[hg];simp) (by rw[h1];rfl),h2,h3.imp (fun _ _ h=>h.mono hz (cW.refl _ _)) (fun _ _ h=>h.mono hz (cW.refl _ _))⟩⟩
  ·simp only[aD]
 ·exact hr.less hz (cW.refl _ _) (fun id bV=>⟨bV,rfl⟩)
theorem qp{hh:Heap}(g:Good Z ψ hh.get w B0 O)(hz:∀b,Z b→Z' b):∀{cs:List AV} {vs:List Value},(∀id b,AV.bY id∈cs→hh.get id≠none→ob (ψ id)=some b→Z' b)→ax Z ψ hh.get w cs vs→ax Z' ψ hh.get w (cs.map (dm hh)) vs
 |[],_,_,hr=>by simpa only[ax,List.map_nil] using hr
 |a::r,_,hb,hr=>by simp only[ax,List.map_cons]at hr ⊢;obtain⟨v,us,rfl,h1,h2⟩:=hr;exact⟨v,us,rfl,GY g hz (fun id b e=>hb id b (by rw[e];simp)) h1,qp g hz (fun id b e=>hb id b (aa5 _ e)) h2⟩
theorem Rg(hh:Heap)(a:AV):∀id o,(drop1 hh a).get id=some o→hh.get id=some o:=by
 intro id o hg;unfold drop1 at hg
 split at hg
 ·exact(Heap.xF hg).1
 ·exact hg
theorem fD:∀(cs:List AV) (hh:Heap),∀id o,(di hh cs).get id=some o→hh.get id=some o
 |[],_,_,_,hg=>hg
 |c::r,hh,id,o,hg=>Rg hh c id o (fD r (drop1 hh c) id o hg)
theorem Dd:∀(cs:List AV) (hh:Heap) (id:Nat),AV.bY id∈cs→(di hh cs).get id=none
 |[],_,_,hm=>by simp at hm
 |c::r,hh,id,hm=>by
  simp only[di];rcases abn.1 hm with rfl|hm
  ·cases hg:(di (drop1 hh (.bY id)) r).get id with
   |none=>rfl
   |some o =>have:=fD r _ id o hg;simp only[drop1,Heap.iH]at this;cases this
  ·exact Dd r _ id hm
theorem rq:∀(cs:List AV) (hh:Heap) (id:Nat),AV.bY id∉cs→(di hh cs).get id=hh.get id
 |[],_,_,_=>rfl
 |c::r,hh,id,hm=>by
  simp only[di];rw[rq r _ id (fun h=>hm (List.mem_cons_of_mem _ h))];unfold drop1
  split
  ·rename_i oP;exact Heap.jJ (fun e=>hm (by rw[e];simp)) hh
  ·rfl
def sS(Z:Nat→Prop)(ψ:Nat→Value)(h:Hp)(cs:List AV):Nat→Prop:=fun b=>Z b∨∃id,AV.bY id∈cs∧h id≠none∧ob (ψ id)=some b
theorem jK{hh:Heap}(g:Good Z ψ hh.get w B0 O)(cs:List AV):Good (sS Z ψ hh.get cs) ψ (di hh cs).get w B0 O :=g.freeze (fD cs hh) (fun _ hb=>.inl hb) (fun b hb=>by
  rcases hb with hb|⟨id,h1,h2,h3⟩
  ·exact .inl hb
  ·exact .inr ⟨id,h2,Dd cs hh id h1,h3⟩)
end Go.Vs
namespace Go.Vs
def Own(ψ:Nat→Value)(h:Hp)(b:Nat):Prop:=∃id,h id≠none∧ob (ψ id)=some b
structure dF(ψ:Nat→Value)(h:Hp)(w w':World):Prop where
 os:w'.os=w.os
 tape:w'.tape=w.tape
 output:w'.output=w.output
 size:w.heap.size≤w'.heap.size
 block:∀b,b<w.heap.size→¬Own ψ h b→w'.heap[b]? = w.heap[b]?
structure Next(Z:Nat→Prop)(ψ:Nat→Value)(h:Hp)(w:World)(B0:Nat)(O:Nat→Prop)(N:Nat→Prop)(Z':Nat→Prop)(ψ':Nat→Value)(h':Hp)(w':World):Prop where
 g9:∀b,Z b→Z' b
 fS:∀b,Z' b→Z b∨Own ψ h b∨w.heap.size≤b
 keep:dF ψ h w w'
 ids:∀id,h' id≠none→(h id≠none∧ψ' id=ψ id)∨N id
 fq:Good Z' ψ' h' w' B0 O
variable {Z Z':Nat→Prop} {ψ ψ':Nat→Value} {h h':Hp} {w w':World} {B0:Nat} {O:Nat→Prop} {N:Nat→Prop}
theorem dF.refl(ψ:Nat→Value)(h:Hp)(w:World):dF ψ h w w:=⟨rfl,rfl,rfl,abZ _,fun _ _ _=>rfl⟩
theorem dF.same(k:dF ψ h w w')(g:Good Z ψ h w B0 O):cW Z w w':=fun b hb=>k.block b (g.kT b hb) (fun⟨id,h1,h2⟩=>(g.live id b h1 h2).1 hb)
theorem Next.same(n:Next Z ψ h w B0 O N Z' ψ' h' w')(g:Good Z ψ h w B0 O):cW Z w w':=n.keep.same g
theorem Next.refl(g:Good Z ψ h w B0 O):Next Z ψ h w B0 O N Z ψ h w :=⟨fun _ h=>h,fun _ h=>.inl h,dF.refl _ _ _,fun _ bV=>.inl ⟨bV,rfl⟩,g⟩
theorem Next.rep(n:Next Z ψ h w B0 O N Z' ψ' h' w')(g:Good Z ψ h w B0 O){a:AV}{v:Value}(hm:aS (fun id=>¬N id) a)(hr:aD Z ψ h w a v):aD Z' ψ' h' w' a v :=hr.move n.g9 (n.same g) (fun id hp bV=>(n.ids id bV).resolve_right hp) hm
theorem Good.ck(g:Good Z ψ h w B0 O){b:Nat}(ho:Own ψ h b):b<w.heap.size:=by
 obtain⟨id,h1,h2⟩:=ho;obtain⟨o,ho⟩:=abT.1 h1
 cases o with
 |box ty cs =>obtain⟨gg,vs,e1,e2,_⟩:=g.box id ty cs ho;rw[e1]at h2;simp only[ob,Option.some.injEq]at h2;subst h2;exact(abv.1 e2).1
 |own ok x=>exact(g.row id ok x ho).lt h2
theorem Good.more(g:Good Z ψ h w B0 O)(k:dF ψ h w w')(vE:∀b,Own ψ h b→w'.heap[b]? = w.heap[b]?) (hold:∀id,¬N id→h' id=h id∧ψ' id=ψ id) (bD:∀id ty cs,h id=some (.box ty cs)→aJ (fun i=>¬N i) cs) (TX:∀id ty cs,N id→h' id=some (.box ty cs)→∃g vs,ψ' id=.pointer (some ⟨g,0,none⟩)∧w'.heap[g]? = some (.cells vs ty (0,0))∧ax Z ψ' h' w' cs vs.toList∧∀u∈vs.toList,u.oneCell'=true) (qq:∀id ok x,N id→h' id=some (.own ok x)→kM Z w' ok (ψ' id) x) (De:∀id b,N id→h' id≠none→ob (ψ' id)=some b→w.heap.size≤b) (Nr:∀id oP b,N id→N oP→h' id≠none→h' oP≠none→ob (ψ' id)=some b→ob (ψ' oP)=some b→id=oP) (hB:B0≤w.heap.size) :
  Next Z ψ h w B0 O N Z ψ' h' w':=by
 have vu:∀id,h' id≠none→(h id≠none∧ψ' id=ψ id)∨N id:=fun id bV=>by
  by_cases hn:N id
  ·exact .inr hn
  ·obtain⟨e1,e2⟩:=hold id hn;exact .inl ⟨by rwa [e1]at bV,e2⟩
 have sm:cW Z w w':=k.same g;have A6:∀id b,¬N id→h' id≠none→ob (ψ' id)=some b→Own ψ h b:=fun id b hn h1 h2=>by obtain⟨e1,e2⟩:=hold id hn;exact⟨id,by rwa [e1]at h1,by rwa [e2]at h2⟩
 refine⟨fun _ h=>h,fun _ h=>.inl h,k,vu,⟨fun id ty cs hb=>?_,fun id ok x hb=>?_,fun id b h1 h2=>?_,fun id oP b h1 h2 h3 h4=>?_,fun b hb=>adB (g.kT b hb) k.size⟩⟩
 ·by_cases hn:N id
  ·exact TX id ty cs hn hb
  ·obtain⟨e1,e2⟩:=hold id hn;rw[e1]at hb;obtain⟨gg,vs,h1,h2,h3,h4⟩:=g.box id ty cs hb;have ho:Own ψ h gg:=⟨id,by rw[hb];simp,by rw[h1];rfl⟩;exact⟨gg,vs,by rw[e2,h1],(vE gg ho).trans h2,h3.move (fun _ h=>h) sm (fun i hp bV=>(vu i bV).resolve_right hp) (bD id ty cs hb),h4⟩
 ·by_cases hn:N id
  ·exact qq id ok x hn hb
  ·obtain⟨e1,e2⟩:=hold id hn;rw[e1]at hb;rw[e2];exact(g.row id ok x hb).kept (fun _ h=>h) sm (fun gg Rh=>vE gg ⟨id,by rw[hb];simp,Rh⟩)
 ·by_cases hn:N id
  ·have:=De id b hn h1 h2;exact⟨fun hz=>by have:=g.kT b hz;omega,.inl (by omega)⟩
  ·obtain⟨e1,e2⟩:=hold id hn;rw[e1]at h1;rw[e2]at h2;exact g.live id b h1 h2
 ·by_cases hn:N id<;>by_cases Ns:N oP
  ·exact Nr id oP b hn Ns h1 h2 h3 h4
  ·have:=De id b hn h1 h3;have:=g.ck (A6 oP b Ns h2 h4);omega
  ·have:=De oP b Ns h2 h4;have:=g.ck (A6 id b hn h1 h3);omega
  ·obtain⟨e1,e2⟩:=hold id hn;obtain⟨e3,e4⟩:=hold oP Ns;rw[e1]at h1;rw[e2]at h3;rw[e3]at h2;rw[e4]at h4;exact g.apart id oP b h1 h2 h3 h4
end Go.Vs
namespace Go.Vs
variable {P:Program} {Z Z':Nat→Prop} {ψ ψ':Nat→Value} {h h':Hp} {w w':World} {B0:Nat} {O:Nat→Prop} {N:Nat→Prop}
theorem uF{α:Type}:∀(vs cs:List α) (off:Nat),off+vs.length≤cs.length→fm cs off vs=cs.take off++vs++cs.drop (off+vs.length)
 |[],cs,off,_=>by simp[fm]
 |v::r,cs,off,hl=>by
  simp only[List.length_cons]at hl;simp only[fm];rw[uF r (cs.set off v) (off+1) (by rw[List.length_set];omega)];have h1:(cs.set off v).take (off+1)=cs.take off++[v]:=by rw[List.take_set,List.take_succ_eq_append_getElem (by omega),List.set_append_right _ _ (by rw[List.length_take];omega)];rw[List.length_take,Nat.min_eq_left (by omega)];simp
  have h2:(cs.set off v).drop (off+1+r.length)=cs.drop (off+(r.length+1)):=by rw[List.drop_set_of_lt (by omega)];congr 1;omega
  rw[h1,h2,List.append_assoc,List.append_assoc,List.append_assoc];rfl
theorem iv{t:TypeId}{b:Bool}(hb:GR P t=some b):(isAgg t).run P w=.ok b w:=by
 unfold GR at hb;obtain⟨d,hd,rfl⟩:=acS.1 hb;simp only[isAgg,Sem.run_bind,run_underlying hd,Result.andThen_ok]
 cases d<;>rfl
theorem vF{t:TypeId}{d:TypeDesc}(hd:P.underlying t=some d):∃i,P.info? t=some i:=by
 unfold Program.underlying at hd
 split at hd
 ·rename_i heq;exact⟨_,heq⟩
 ·rename_i heq;exact⟨_,heq⟩
 ·cases hd
theorem eJ{t:TypeId}{i:TypeInfo}(hi:P.info? t=some i):(sizeOf t).run P w=.ok (P.cellsOf t) w:=by simp[sizeOf,typeInfo,hi,Program.cellsOf]
theorem A7{t:TypeId}{b:Bool}(hb:GR P t=some b):∃i,P.info? t=some i:=by unfold GR at hb;obtain⟨d,hd,rfl⟩:=acS.1 hb;exact vF hd
theorem kU{t:TypeId}{cs:List AV}{us:List Value}{a:Addr}{x:AV}(hr:ax Z ψ h w cs us)(hc:∀(j:Nat) u,us[j]? = some u→w.cell? (a.add j)=some u)(hx:fC P t cs=some x) :
  ∃V,(Instr.loadAt t (.pointer (some a))).run P w=.ok V w∧aD Z ψ h w x V:=by
 unfold fC at hx;have hlen:=hr.length
 split at hx
 ·rename_i hb
  split at hx
  ·rename_i hl
   cases hx
   obtain⟨i,hi⟩:=A7 hb;refine⟨.agg (us.take (P.cellsOf t)).toArray,?_,by simp only[aD];exact⟨_,rfl,by simpa using hr.take (P.cellsOf t)⟩⟩;have aK:(us.take (P.cellsOf t)).length=P.cellsOf t:=by rw[List.length_take];omega
   have hld:=run_loadCells_list (P:=P) w a (us.take (P.cellsOf t)) (fun j v hv=>hc j v (by
    rw[List.getElem?_take]at hv;split at hv
    ·exact hv
    ·cases hv))
   rw[aK]at hld;simp[Instr.loadAt,Instr.sureAddr,loadVar,iv hb,eJ hi,hld]
  ·cases hx
 ·rename_i hb
  split at hx
  ·rename_i c r
   cases hx
   simp only[ax]at hr;obtain⟨v,j7,rfl,h1,h2⟩:=hr;refine⟨v,?_,h1⟩;have:=hc 0 v rfl;rw[GX]at this;simp[Instr.loadAt,Instr.sureAddr,loadVar,iv hb,this]
  ·cases hx
 ·cases hx
theorem my{t:TypeId}{i:TypeInfo}(hi:P.info? t=some i)(g off:Nat)(V:Value)(cur:Array Value)(ty:TypeId)(hg:w.heap[g]? = some (.cells cur ty (0,0)))(hs:V.cells.size=P.cellsOf t) (hl:off+V.cells.size≤cur.size) (h1:∀v∈V.cells.toList,v.oneCell'=true) :
  (Instr.storeAt t (.pointer (some ⟨g,off,none⟩)) V).run P w=.ok () (w.setRow g (cur.toList.take off++V.cells.toList++cur.toList.drop (off+V.cells.size)).toArray):=by
 have xH:=run_storeCells_at P g off ty V.cells.toList 0 cur w hg (by simpa using hl) h1;simp only[Nat.add_zero,Array.length_toList]at xH;simp[Instr.storeAt,Instr.sureAddr,storeVar,eJ hi,hs,xH]
def fE{α:Type}(f:Nat→α)(i:Nat)(v:α):Nat→α:=fun j=>if j=i then v else f j
theorem bE{α:Type}(f:Nat→α)(i:Nat)(v:α):fE f i v i=v:=by simp[fE]
theorem dI{α:Type}(f:Nat→α){i j:Nat}(v:α)(bp:j≠i):fE f i v j=f j:=by simp[fE,bp]
theorem dF.alloc(ψ:Nat→Value)(h:Hp)(w:World)(o:Obj):dF ψ h w (w.alloc o) :=⟨rfl,rfl,rfl,by rw[World.size_alloc];omega,fun b hb _=>heap_alloc_old w o hb⟩
theorem Df(g:Good Z ψ h w B0 O)(hB:B0≤w.heap.size)(id:Nat)(ty:TypeId){cs:List AV}{vs:Array Value}(hN:N id)(hr:ax Z ψ h w cs vs.toList)(h1:∀u∈vs.toList,u.oneCell'=true) (bD:∀i ty cs,h i=some (.box ty cs)→aJ (fun i=>i≠id) cs) (hm:aJ (fun i=>i≠id) cs) :
  Next Z ψ h w B0 O N Z (fE ψ id (.pointer (some ⟨w.heap.size,0,none⟩))) (fE h id (some (.box ty cs))) (w.alloc (.cells vs ty)):=by
 have n:Next Z ψ h w B0 O (·=id) Z (fE ψ id (.pointer (some ⟨w.heap.size,0,none⟩))) (fE h id (some (.box ty cs))) (w.alloc (.cells vs ty)):=by
  refine g.more (dF.alloc _ _ _ _) (fun b hb=>heap_alloc_old w _ (g.ck hb)) (fun i hi=>⟨dI _ _ hi,dI _ _ hi⟩) (fun i BX cs' hb=>?_) (fun i BX cs' hi hb=>?_) (fun i ok x hi hb=>?_) (fun i b hi bp hb=>?_) (fun i i' b hi wC _ _ _ _=>by subst hi;exact wC.symm) hB
  ·exact bD i BX cs' hb
  ·subst hi;rw[bE]at hb;cases hb;refine⟨w.heap.size,vs,bE _ _ _,heap_alloc_new _ _,?_,h1⟩;refine hr.move (fun _ h=>h) ((dF.alloc ψ h w _).same g) (fun j hj bp=>?_) hm;rw[dI _ _ hj]at bp;exact⟨bp,dI _ _ hj⟩
  ·subst hi;rw[bE]at hb;cases hb
  ·subst hi;rw[bE]at hb;simp only[ob,Option.some.injEq]at hb;omega
 exact⟨n.g9,n.fS,n.keep,fun i hi=>(n.ids i hi).imp (fun h=>h) (fun e=>by subst e;exact hN),n.fq⟩
theorem TY{h:Hp}{id:Nat}{o:Ob}(bV:h id≠none):∀i,fE h id (some o) i≠none→h i≠none:=fun i hi=>by
 by_cases e:i=id
 ·subst e;exact bV
 ·rwa [dI _ _ e]at hi
theorem Good.write(g:Good Z ψ h w B0 O)(id:Nat)(bV:h id≠none)(k:dF ψ h w w')(TZ:∀b,ob (ψ id)≠some b→b<w.heap.size→w'.heap[b]? = w.heap[b]?)(o':Ob) (TX:∀ty cs,o'=.box ty cs→∃gg vs,ψ id=.pointer (some ⟨gg,0,none⟩)∧w'.heap[gg]? = some (.cells vs ty (0,0))∧ax Z ψ h w' cs vs.toList∧∀u∈vs.toList,u.oneCell'=true) (qq:∀ok x,o'=.own ok x→kM Z w' ok (ψ id) x) :
  Next Z ψ h w B0 O N Z ψ (fE h id (some o')) w':=by
 have hs:=TY (o:=o') bV;have sm:=k.same g;refine⟨fun _ h=>h,fun _ h=>.inl h,k,fun i hi=>.inl ⟨hs i hi,rfl⟩,⟨fun i ty cs hb=>?_,fun i ok x hb=>?_,fun i b h1 h2=>g.live i b (hs i h1) h2,fun i i' b h1 h2 h3 h4=>g.apart i i' b (hs i h1) (hs i' h2) h3 h4,fun b hb=>adB (g.kT b hb) k.size⟩⟩
 ·by_cases e:i=id
  ·subst e;rw[bE]at hb;cases hb;obtain⟨gg,vs,h1,h2,h3,h4⟩:=TX _ _ rfl;exact⟨gg,vs,h1,h2,h3.less (fun _ h=>h) (cW.refl _ _) (fun j hj=>⟨hs j hj,rfl⟩),h4⟩
  ·rw[dI _ _ e]at hb;obtain⟨gg,vs,h1,h2,h3,h4⟩:=g.box i ty cs hb;refine⟨gg,vs,h1,?_,h3.less (fun _ h=>h) sm (fun j hj=>⟨hs j hj,rfl⟩),h4⟩;rw[TZ gg (fun hh=>e (g.apart i id gg (by rw[hb];simp) bV (by rw[h1];rfl) hh)) (Array.getElem?_eq_some_iff.1 h2).1];exact h2
 ·by_cases e:i=id
  ·subst e;rw[bE]at hb;cases hb;exact qq _ _ rfl
  ·rw[dI _ _ e]at hb;exact(g.row i ok x hb).kept (fun _ h=>h) sm (fun gg Rh=>TZ gg (fun hh=>e (g.apart i id gg (by rw[hb];simp) bV Rh hh)) (g.ck ⟨i,by rw[hb];simp,Rh⟩))
theorem dF.setRow{gg:Nat}(ho:Own ψ h gg)(arr:Array Value):dF ψ h w (w.setRow gg arr) :=⟨rfl,rfl,rfl,by simp[World.setRow],fun b _ hb=>by have:gg≠b:=fun e=>hb (e▸ho);simp[World.setRow,Array.getElem?_modify,this]⟩
theorem setRow_other{gg b:Nat}(arr:Array Value)(bp:gg≠b):(w.setRow gg arr).heap[b]? = w.heap[b]? := by simp[World.setRow,Array.getElem?_modify,bp]
theorem Dg(g:Good Z ψ h w B0 O){id:Nat}{ty:TypeId}{cs vs:List AV}(hb:h id=some (.box ty cs)){t:TypeId}{i:TypeInfo}(hi:P.info? t=some i){off:Nat}{V:Value} (hv:ax Z ψ h w vs V.cells.toList) (h1:∀u∈V.cells.toList,u.oneCell'=true) (hs:V.cells.size=P.cellsOf t) (hl:off+vs.length≤cs.length) {a:Addr} (ha:a=⟨Yr (ψ id),off,none⟩) :
  ∃w',(Instr.storeAt t (.pointer (some a)) V).run P w=.ok () w'∧Next Z ψ h w B0 O N Z ψ (fE h id (some (.box ty (fm cs off vs)))) w':=by
 obtain⟨gg,arr,e1,e2,e3,e4⟩:=g.box id ty cs hb;have hlen:=hv.length;have T0:=e3.length;simp only[Array.length_toList]at hlen T0;have bV:h id≠none:=by rw[hb];simp
 have ho:Own ψ h gg:=⟨id,bV,by rw[e1];rfl⟩;rw[e1]at ha;simp only[Yr]at ha;subst ha;refine⟨_,my hi gg off V arr ty e2 hs (by omega) h1,?_⟩;have kk:=dF.setRow (w:=w) ho ((arr.toList.take off++V.cells.toList++arr.toList.drop (off+V.cells.size)).toArray);refine g.write id bV kk (fun b hb _=>setRow_other _ (fun e=>hb (by rw[e1];simp[ob,e]))) _ (fun BX cs' he=>?_) (fun _ _ he=>by cases he)
 cases he
 refine⟨gg,_,e1,setRow_heap w gg arr _ ty _ e2,?_,?_⟩
 ·rw[uF _ _ _ hl];have h5:ax Z ψ h w (cs.take off++vs++cs.drop (off+vs.length)) (arr.toList.take off++V.cells.toList++arr.toList.drop (off+V.cells.size)):=by rw[←hlen];exact((e3.take off).append hv).append (e3.drop (off+vs.length))
  exact h5.less (fun _ h=>h) (kk.same g) (fun j hj=>⟨hj,rfl⟩)
 ·intro u hu;rw[List.toList_toArray]at hu;rcases abH.1 hu with hu|hu
  ·rcases abH.1 hu with hu|hu
   ·exact e4 u (adS hu)
   ·exact h1 u hu
  ·exact e4 u (adM hu)
theorem abI{α:Type}(cur V:List α)(m off sz L:Nat)(h:off+V.length≤sz)(h1:m+sz≤L)(h2:L≤cur.length) :
  ((cur.take (m+off)++V++cur.drop (m+off+V.length)).take L |>.drop m |>.take sz)=((cur.drop m).take sz).take off++V++((cur.drop m).take sz).drop (off+V.length):=by
 apply adG;intro q;simp only[List.getElem?_take,List.getElem?_drop,List.getElem?_append,List.length_append,List.length_take,List.length_drop];rw[Nat.min_eq_left (show m+off≤cur.length by omega),Nat.min_eq_left (show off≤min sz (cur.length-m) by omega)]
 repeat' split
 all_goals first|rfl|(exfalso;omega)|(congr 1;omega)|(rw[List.getElem?_eq_none (by omega)])
theorem Ys{α:Type}(cur V:List α)(m off sz L p:Nat)(h:off+V.length≤sz)(h1:m+sz≤L)(h2:L≤cur.length)(h3:p+sz≤L)(h4:p+sz≤m∨m+sz≤p) :
  ((cur.take (m+off)++V++cur.drop (m+off+V.length)).take L |>.drop p |>.take sz)=(cur.drop p).take sz:=by
 apply adG;intro q;simp only[List.getElem?_take,List.getElem?_drop,List.getElem?_append,List.length_append,List.length_take];rw[Nat.min_eq_left (show m+off≤cur.length by omega)]
 repeat' split
 all_goals first|rfl|(exfalso;omega)|(congr 1;omega)|(rw[List.getElem?_eq_none (by omega)])
theorem aQ.Dh{k:K}{x:k.T}{vs us:List Value}(e:vs=us)(hr:aQ Z w k x vs):aQ Z w k x us:=e▸hr
theorem Di(g:Good Z ψ h w B0 O){id:Nat}{ty:TypeId}{kk:K}{xs:List kk.T}(hb:h id=some (.own (.row ty kk) xs)){t:TypeId}{i:TypeInfo}(hi:P.info? t=some i){n off:Nat}{x y:kk.T}{V:Value} (hx:xs[n]? = some x) (hs:V.cells.size=P.cellsOf t) (hl:off+V.cells.size≤kk.sz) {a:Addr} (ha:a=⟨Yr (ψ id),n*kk.sz+off,none⟩) (hy:∀us,aQ Z w kk x us→aQ Z w kk y (us.take off++V.cells.toList++us.drop (off+V.cells.size))) (h1:∀u∈V.cells.toList,u.oneCell'=true) :
  ∃w',(Instr.storeAt t (.pointer (some a)) V).run P w=.ok () w'∧Next Z ψ h w B0 O N Z ψ (fE h id (some (.own (.row ty kk) (xs.set n y)))) w':=by
 obtain⟨vs,ho,hv⟩:=g.row id (.row ty kk) xs hb;have bV:h id≠none:=by rw[hb];simp
 have hn:n<xs.length:=(abg.1 hx).1;have Nq:=kk.jI;have hmul:n*kk.sz+kk.sz≤xs.length*kk.sz:=by rw[←Nat.succ_mul];exact acE _ hn
 obtain⟨hl1,e⟩:=ho;rcases e with⟨h0,_⟩|⟨gg,cap,cur,e1,e2,e3,e4,e5,e6,e7⟩
 ·omega
 have abJ:xs.length*kk.sz≤cap*kk.sz:=acE _ e4;have oJ:ob (ψ id)=some gg:=by rw[e1];simp only[ob];rw[if_neg (by omega)]
 have ho:Own ψ h gg:=⟨id,bV,oJ⟩;have Kl:a=⟨gg,n*kk.sz+off,none⟩:=by rw[ha,e1];rfl
 subst Kl;refine⟨_,my hi gg (n*kk.sz+off) V cur ty e3 hs (by omega) h1,?_⟩;have hk:=dF.setRow (w:=w) ho ((cur.toList.take (n*kk.sz+off)++V.cells.toList++cur.toList.drop (n*kk.sz+off+V.cells.size)).toArray);have sm:=hk.same g;refine g.write id bV hk (fun b hb _=>setRow_other _ (fun e=>hb (by rw[oJ,e]))) _ (fun _ _ he=>by cases he) (fun ok' x' he=>?_)
 cases he
 have vv:cur.toList.length=cap*kk.sz:=by rw[Array.length_toList];exact e6
 have hVl:V.cells.toList.length=V.cells.size:=Array.length_toList
 let kg:=cur.toList.take (n*kk.sz+off)++V.cells.toList++cur.toList.drop (n*kk.sz+off+V.cells.size)
 have Nt:kg.length=cap*kk.sz:=by simp only[kg,List.length_append,List.length_take,List.length_drop,vv,hVl];omega
 have Yt:(xs.set n y).length=xs.length:=List.length_set;have wD:vs=cur.toList.take (xs.length*kk.sz):=e7.symm;refine⟨kg.take (xs.length*kk.sz),⟨by rw[List.length_take,Nt,Yt];omega,.inr ⟨gg,cap,kg.toArray,by rw[Yt];exact e1,e2,setRow_heap w gg cur _ ty _ e3,by rw[Yt];exact e4,e5,by simpa using Nt,by rw[Yt]⟩⟩,fun j z hz=>?_⟩;have hj:j<xs.length:=by have:=(abg.1 hz).1;rwa [Yt]at this
 have hmj:j*kk.sz+kk.sz≤xs.length*kk.sz:=by rw[←Nat.succ_mul];exact acE _ hj
 have ad4:∀p,p+kk.sz≤xs.length*kk.sz→(vs.drop p).take kk.sz=(cur.toList.drop p).take kk.sz:=fun p hp=>by rw[wD,List.drop_take,List.take_take,Nat.min_eq_left (by omega)]
 by_cases Tw:j=n
 ·subst Tw;rw[List.getElem?_set_self hn]at hz;cases hz;have hu:=hy _ (hv j x hx);rw[ad4 _ hmj,←hVl]at hu;refine aQ.mono (fun _ h=>h) sm (aQ.Dh ?_ hu);have:=abI cur.toList V.cells.toList (j*kk.sz) off kk.sz (xs.length*kk.sz) (by omega) hmj (by omega);rw[←this,hVl]
 ·rw[List.getElem?_set_ne (fun e=>Tw e.symm)]at hz;have hu:=hv j z hz;rw[ad4 _ hmj]at hu;refine aQ.mono (fun _ h=>h) sm (aQ.Dh ?_ hu);have h4:j*kk.sz+kk.sz≤n*kk.sz∨n*kk.sz+kk.sz≤j*kk.sz:=by
   rcases adT j n with h|h
   ·left;rw[←Nat.succ_mul];exact acE _ h
   ·right;rw[←Nat.succ_mul];exact acE _ (by omega)
  have:=Ys cur.toList V.cells.toList (n*kk.sz) off kk.sz (xs.length*kk.sz) (j*kk.sz) (by omega) hmul (by omega) hmj h4;rw[←this,hVl]
theorem wE{k:K}{ys:List k.T}{u:Value}(hr:aQ Z w (.sl k) ys [u]) :
  (u=.slice none 0 0∧ys=[])∨∃a c news,u=.slice (some a) ys.length c∧ys.length≤c∧news.length=ys.length*k.sz∧(∀(j:Nat) q,news[j]? = some q→w.cell? (a.add j)=some q)∧(∀q∈news,q.oneCell'=true)∧pM Z w k ys news:=by
 simp only[aQ]at hr;obtain⟨v,hv,A,c,rfl,hl,hn,he⟩:=hr
 cases hv
 cases A with
 |none =>
  left
  cases ys with
  |nil=>exact⟨by rw[hn rfl];rfl,rfl⟩
  |cons y r=>obtain⟨a,us,h1,_⟩:=he 0 y rfl;cases h1
 |some a =>
  right;have he':∀i (hi:i<ys.length),∃us,aQ Z w k ys[i] us∧∀(j:Nat) u,us[j]? = some u→w.cell? (a.add (i*k.sz+j))=some u:=fun i hi=>by
   obtain⟨a',us,h1,_,h3,h4⟩:=he i _ (aba hi)
   cases h1
   exact⟨us,h3,h4⟩
  have Nq:=k.jI
  let news:=(List.range (ys.length*k.sz)).map fun j=>(w.cell? (a.add j)).getD default
  have GZ:∀j,j<ys.length*k.sz→∃q,w.cell? (a.add j)=some q∧q.oneCell'=true:=fun j hj=>by
   have hi:j / k.sz<ys.length:=Nat.div_lt_of_lt_mul (by rw[Nat.mul_comm];exact hj);obtain⟨us,h3,h4⟩:=he' (j / k.sz) hi;have hm:j%k.sz<us.length:=by rw[h3.len];exact adR _ Nq
   refine⟨us[j%k.sz],?_,h3.one _ (acB hm)⟩;have:=h4 (j%k.sz) _ (aba hm)
   rwa [Nat.mul_comm,Nat.div_add_mod]at this
  have pN:∀j,j<ys.length*k.sz→∃q,news[j]? = some q∧w.cell? (a.add j)=some q:=fun j hj=>by obtain⟨q,hq,_⟩:=GZ j hj;exact⟨q,by simp[news,List.getElem?_map,List.getElem?_range hj,hq],hq⟩
  have hlen:news.length=ys.length*k.sz:=by simp[news]
  refine⟨a,c,news,rfl,hl,hlen,fun j q hq=>?_,fun q hq=>?_,fun i x hx=>?_⟩
  ·have hj:j<ys.length*k.sz:=by rw[←hlen];exact(abg.1 hq).1
   obtain⟨q',h1,h2⟩:=pN j hj;rw[h1]at hq;cases hq;exact h2
  ·obtain⟨j,hj,rfl⟩:=List.mem_iff_getElem.1 hq;obtain⟨q',h1,h2⟩:=pN j (by omega);obtain⟨q2,h3,h4⟩:=GZ j (by omega);rw[List.getElem?_eq_getElem hj]at h1;cases h1;rw[h2]at h3;cases h3;exact h4
  ·have hi:i<ys.length:=(abg.1 hx).1;obtain⟨us,h3,h4⟩:=he' i hi;rw[List.getElem?_eq_getElem hi]at hx;cases hx;refine aQ.Dh ?_ h3;have hul:=h3.len;have hmul:i*k.sz+k.sz≤ys.length*k.sz:=by rw[←Nat.succ_mul];exact acE _ hi
   apply adG;intro q;rw[List.getElem?_take,List.getElem?_drop];by_cases hq:q<k.sz
   ·rw[if_pos hq];obtain⟨q',h5,h6⟩:=pN (i*k.sz+q) (by omega);rw[h5];have h7:=h4 q _ (aba (by omega));rw[List.getElem?_eq_getElem (by omega)];rw[h6]at h7;cases h7;rfl
   ·rw[if_neg hq,List.getElem?_eq_none (by omega)]
theorem Ri{hh:Heap}(g:Good Z ψ hh.get w B0 O){x:AV}{u:Value}{k:K}{ys:List k.T}(hx:rowOf hh x k=some ys)(hr:aD Z ψ hh.get w x u) :
  (u=.slice none 0 0∧ys=[])∨∃a c news,u=.slice (some a) ys.length c∧ys.length≤c∧news.length=ys.length*k.sz∧(∀(j:Nat) q,news[j]? = some q→w.cell? (a.add j)=some q)∧(∀q∈news,q.oneCell'=true)∧pM Z w k ys news:=by
 unfold rowOf at hx
 split at hx
 ·rename_i ex k' xs heq
  split at hx
  ·rename_i e;subst e
   cases hx
   cases x with
   |sl ex' k'' xs' =>
    simp only[dm]at heq
    cases heq
    simp only[aD]at hr;exact wE hr.1
   |bY id =>
    simp only[dm]at heq
    split at heq
    ·rename_i ty kk zs hg
     cases heq
     simp only[aD]at hr;have hv:=hr.2 (by rw[hg];simp);subst hv;obtain⟨vs,ho,hv⟩:=g.row id (.row ty _) _ hg;have h1:=wE (xG (Z':=fun b=>Z b∨ob (ψ id)=some b) ho hv (fun b hb=>.inl hb) (fun b hb=>.inr hb));rcases h1 with h1|⟨a,c,news,h1,h2,h3,h4,h5,_⟩
     ·exact .inl h1
     ·right;refine⟨a,c,news,h1,h2,h3,h4,h5,?_⟩;have Rj:news=vs:=by
       obtain⟨hl,e⟩:=ho;rcases e with⟨e,_⟩|⟨gg,cap,cur,e,_,e3,_,_,_,e7⟩
       ·rw[e,Nat.zero_mul]at h3 hl;rw[List.eq_nil_of_length_eq_zero h3,List.eq_nil_of_length_eq_zero hl]
       ·rw[e]at h1;cases h1;apply adG;intro j;by_cases hj:j<xs.length*k'.sz
        ·have hn:=h4 j _ (aba (by omega));rw[dp,Nat.zero_add]at hn;simp only[World.cell?,e3]at hn;have A8:vs[j]? = cur.toList[j]? := by rw[←e7,List.getElem?_take,if_pos hj]
         rw[A8,List.getElem?_eq_getElem (by omega)];simpa using hn.symm
        ·rw[List.getElem?_eq_none (by omega),List.getElem?_eq_none (by omega)]
      rw[Rj];exact hv
    ·cases heq
    ·cases heq
   |_=>simp only[dm]at heq<;>cases heq
  ·cases hx
 ·rename_i heq
  cases hx
  cases x with
  |il=>simp only[aD]at hr;exact .inl ⟨hr,rfl⟩
  |bY id=>simp only[dm]at heq;split at heq<;>cases heq
  |_=>simp only[dm]at heq<;>cases heq
 ·cases hx
structure pO(P:Program)(e:TypeId)(k:K)(i:TypeInfo)(z:Value):Prop where
 info:P.info? e=some i
 zero:i.zero=some z
 size:i.size=k.sz
 xI:z.cells.size=k.sz
 bytes:i.bytes≤65536
theorem cV{e:TypeId}{k:K}(he:Iu P e k=true):∃i z,pO P e k i z:=by
 unfold Iu at he
 split at he
 ·rename_i i hi
  split at he
  ·rename_i z hz;simp only[Bool.and_eq_true,decide_eq_true_eq]at he;exact⟨i,z,hi,hz,he.1,he.2.1,he.2.2⟩
  ·cases he
 ·cases he
theorem pM.append{k:K}{xs ys:List k.T}{vs us:List Value}(h1:pM Z w k xs vs)(h2:pM Z w k ys us)(hl:vs.length=xs.length*k.sz):pM Z w k (xs++ys) (vs++us):=fun i x hx=>by
 by_cases hi:i<xs.length
 ·rw[List.getElem?_append_left hi]at hx;have hm:i*k.sz+k.sz≤xs.length*k.sz:=by rw[←Nat.succ_mul];exact acE _ hi
  have h3:=h1 i x hx;rw[List.drop_append_of_le_length (by omega),List.take_append_of_le_length (by rw[List.length_drop];omega)];exact h3
 ·rw[List.getElem?_append_right (by omega)]at hx;have h3:=h2 (i-xs.length) x hx;have e:i*k.sz=vs.length+(i-xs.length)*k.sz:=by rw[hl,←Nat.add_mul];congr 1;omega
  rw[e,List.drop_append,List.drop_eq_nil_of_le (by omega),List.nil_append,Nat.add_sub_cancel_left];exact h3
theorem pM.Km{k:K}{xs:List k.T}{vs:List Value}(h:pM Z w k xs vs)(sm:cW Z w w'):pM Z w' k xs vs:=fun i x hx=>(h i x hx).mono (fun _ h=>h) sm
theorem Kn(g:Good Z ψ h w B0 O)(hB:B0≤w.heap.size)(id:Nat)(hN:N id){ok:OK}{x:ok.T}{v:Value}(kk:dF ψ h w w')(vE:∀b,Own ψ h b→w'.heap[b]? = w.heap[b]?) (ho:kM Z w' ok v x) (hb:∀b,ob v=some b→w.heap.size≤b) (bD:∀i ty cs,h i=some (.box ty cs)→aJ (fun i=>i≠id) cs) :
  Next Z ψ h w B0 O N Z (fE ψ id v) (fE h id (some (.own ok x))) w':=by
 have n:Next Z ψ h w B0 O (·=id) Z (fE ψ id v) (fE h id (some (.own ok x))) w':=by
  refine g.more kk vE (fun i hi=>⟨dI _ _ hi,dI _ _ hi⟩) (fun i BX cs' hb=>bD i BX cs' hb) (fun i BX cs' hi hb=>?_) (fun i ok x hi hb=>?_) (fun i b hi bp hbb=>?_) (fun i i' b hi wC _ _ _ _=>by subst hi;exact wC.symm) hB
  ·subst hi;rw[bE]at hb;cases hb
  ·subst hi;rw[bE]at hb;cases hb;rw[bE];exact ho
  ·subst hi;rw[bE]at hbb;exact hb b hbb
 exact⟨n.g9,n.fS,n.keep,fun i hi=>(n.ids i hi).imp (fun h=>h) (fun e=>by subst e;exact hN),n.fq⟩
theorem tj(g:Good Z ψ h w B0 O)(hB:B0≤w.heap.size)(id:Nat)(ty:TypeId)(hN:N id){k:K}{xs:List k.T}{vs:List Value}{v:Value}(kk:dF ψ h w w')(vE:∀b,Own ψ h b→w'.heap[b]? = w.heap[b]?) (ho:fK w' ty k.sz v xs.length vs) (hv:pM Z w' k xs vs) (hb:∀b,ob v=some b→w.heap.size≤b) (bD:∀i ty cs,h i=some (.box ty cs)→aJ (fun i=>i≠id) cs) :
  Next Z ψ h w B0 O N Z (fE ψ id v) (fE h id (some (.own (.row ty k) xs))) w':=Kn g hB id hN (ok:=.row ty k) kk vE ⟨vs,ho,hv⟩ hb bD
theorem dF.grown{row:Option Nat}(hg:w.grownBy w' row)(hr:∀b,row=some b→Own ψ h b):dF ψ h w w' :=⟨hg.os,hg.tape,hg.output,hg.size,fun b hb hn=>hg.block b hb (fun e=>hn (hr b e.symm))⟩
theorem tl(g:Good Z ψ h w B0 O)(hB:B0≤w.heap.size)(id dv:Nat)(hN:N id){ok:OK}{x y:ok.T}(ho:h dv=some (.own ok x))(bp:dv≠id) (hg:w.grownBy w' (ob (ψ dv))) {v:Value} (hv:kM Z w' ok v y) (hb:ob v=ob (ψ dv)∨∀b,ob v=some b→w.heap.size≤b) (bD:∀i ty cs,h i=some (.box ty cs)→aJ (fun i=>i≠id) cs) :
  Next Z ψ h w B0 O N Z (fE ψ id v) (fE (fE h dv none) id (some (.own ok y))) w':=by
 have hold:h dv≠none:=by rw[ho];simp
 have oJ:∀b,ob (ψ dv)=some b→ob (ψ dv)=some b:=fun _ h=>h;have kk:dF ψ h w w':=dF.grown hg (fun b e=>⟨dv,hold,oJ b e⟩);have sm:=kk.same g;have other:∀i b,h i≠none→i≠dv→ob (ψ i)=some b→w'.heap[b]? = w.heap[b]? := fun i b h1 h2 h3 =>hg.block b (g.ck ⟨i,h1,h3⟩) (fun e=>h2 (g.apart i dv b h1 hold h3 (oJ b e.symm)));have at_:∀i,i≠id→fE (fE h dv none) id (some (.own ok y)) i≠none→h i≠none∧i≠dv:=fun i hi h1=>by
  rw[dI _ _ hi]at h1;by_cases e:i=dv
  ·subst e;rw[bE]at h1;exact absurd rfl h1
  ·rw[dI _ _ e]at h1;exact⟨h1,e⟩
 have ids:∀i,fE (fE h dv none) id (some (.own ok y)) i≠none→(h i≠none∧fE ψ id v i=ψ i)∨i=id:=fun i h1=>by
  by_cases e:i=id
  ·exact .inr e
  ·exact .inl ⟨(at_ i e h1).1,dI _ _ e⟩
 have vob:∀b,ob v=some b→ob (ψ dv)=some b∨w.heap.size≤b:=fun b hbb=>by
  rcases hb with hb|hb
  ·left;rw[←hb];exact hbb
  ·right;exact hb b hbb
 refine⟨fun _ h=>h,fun _ h=>.inl h,kk,fun i h1=>(ids i h1).imp (fun h=>h) (fun e=>by subst e;exact hN),⟨fun i BX cs sK=>?_,fun i ok' z sK=>?_,fun i b h1 h2=>?_,fun i i' b h1 h2 h3 h4=>?_,fun b hz=>adB (g.kT b hz) kk.size⟩⟩
 ·by_cases e:i=id
  ·subst e;rw[bE]at sK;cases sK
  ·have Dk:=at_ i e (by rw[sK];simp);rw[dI _ _ e,dI _ _ Dk.2]at sK;obtain⟨gg,us,h1,h2,h3,h4⟩:=g.box i BX cs sK;refine⟨gg,us,by rw[dI _ _ e];exact h1,(other i gg Dk.1 Dk.2 (by rw[h1];rfl)).trans h2,?_,h4⟩;exact h3.move (fun _ h=>h) sm (fun j hj hn=>(ids j hn).resolve_right hj) (bD i BX cs sK)
 ·by_cases e:i=id
  ·subst e;rw[bE]at sK;cases sK;rw[bE];exact hv
  ·have Dk:=at_ i e (by rw[sK];simp);rw[dI _ _ e,dI _ _ Dk.2]at sK;rw[dI _ _ e];exact(g.row i ok' z sK).kept (fun _ h=>h) sm (fun gg Rh=>other i gg Dk.1 Dk.2 Rh)
 ·by_cases e:i=id
  ·subst e;rw[bE]at h2;rcases vob b h2 with h3|h3
   ·exact g.live dv b hold h3
   ·exact⟨fun hz=>by have:=g.kT b hz;omega,.inl (by omega)⟩
  ·rw[dI _ _ e]at h2;exact g.live i b (at_ i e h1).1 h2
 ·have key:∀j,j≠id→fE (fE h dv none) id (some (.own ok y)) j≠none→ob (ψ j)=some b→ob v=some b→False:=fun j hj h5 h6 h7=>by
   obtain⟨h8,h9⟩:=at_ j hj h5;rcases vob b h7 with oI|oI
   ·exact h9 (g.apart j dv b h8 hold h6 oI)
   ·have:=g.ck ⟨j,h8,h6⟩;omega
  by_cases e:i=id<;>by_cases e':i'=id
  ·rw[e,e']
  ·subst e;rw[bE]at h3;rw[dI _ _ e']at h4;exact(key i' e' h2 h4 h3).elim
  ·subst e';rw[bE]at h4;rw[dI _ _ e]at h3;exact(key i e h1 h3 h4).elim
  ·rw[dI _ _ e]at h3;rw[dI _ _ e']at h4;exact g.apart i i' b (at_ i e h1).1 (at_ i' e' h2).1 h3 h4
def Yu(w:World)(sz:Nat)(u:Value)(m:Nat)(news:List Value):Prop :=news.length=m*sz∧(∀q∈news,q.oneCell'=true)∧((u=.slice none 0 0∧m=0)∨∃a c,u=.slice (some a) m c∧∀(j:Nat) q,news[j]? = some q→w.cell? (a.add j)=some q)
theorem IB{hh:Heap}(g:Good Z ψ hh.get w B0 O){x:AV}{u:Value}{k:K}{ys:List k.T}(hx:rowOf hh x k=some ys)(hr:aD Z ψ hh.get w x u):∃news,Yu w k.sz u ys.length news∧pM Z w k ys news:=by
 rcases Ri g hx hr with⟨rfl,rfl⟩|⟨a,c,news,h1,_,h2,h3,h4,h5⟩
 ·exact⟨[],⟨by simp,by simp,.inl ⟨rfl,rfl⟩⟩,fun i x hx=>by simp at hx⟩
 ·exact⟨news,⟨h2,h4,.inr ⟨a,c,h1,h3⟩⟩,h5⟩
theorem gI{t ty e:TypeId}{i:TypeInfo}(ht:P.underlying t=some (.slice e))(hi:P.info? e=some i)(A:Option Addr)(n c:Nat)(hc:n≤c)(A':Option Addr)(c':Nat) :
  (Builtin.append_ #[t,t] ty #[.slice A n c,.slice A' 0 c']).run P w=.ok (.slice A n c) w:=by
 cases A<;>cases A'<;>simp[Builtin.append_,run_underlying ht,sizeOf,typeInfo,hi,Builtin.lenOf,Builtin.firstCells,hc,storeCells,loadCells,loadCellsFrom]
theorem eT{t ty e:TypeId}{k:K}{i:TypeInfo}{z:Value}(ht:P.underlying t=some (.slice e))(he:pO P e k i z){v:Value}{n:Nat}{xs:List Value}(ho:fK w e k.sz v n xs) {u:Value} {m:Nat} {news:List Value} (hu:Yu w k.sz u m news) (hm:n+m≤gF) :
  ∃v' w',(Builtin.append_ #[t,t] ty #[v,u]).run P w=.ok v' w'∧fK w' e k.sz v' (n+m) (xs++news)∧w.grownBy w' (ob v)∧(ob v'=ob v∨∀b,ob v'=some b→w.heap.size≤b):=by
 obtain⟨h1,h3,hu⟩:=hu;obtain⟨A0,c0,X2⟩:=ho.slice;by_cases hm0:m=0
 ·subst hm0;have ad6:news=[]:=abU (by rw[h1,Nat.zero_mul]);subst ad6;have A9:n≤c0:=by
   rcases ho.2 with⟨h0,A,e⟩|⟨g,cap,cur,e,hc,h2,h3,_⟩
   ·omega
   ·rw[X2]at e;cases e;exact h3
  refine⟨v,w,?_,by simpa using ho,World.grownBy.refl w _,.inl rfl⟩;subst X2;rcases hu with⟨rfl,_⟩|⟨a,c,rfl,_⟩<;>exact gI ht he.info A0 n c0 A9 _ _
 ·rcases hu with⟨_,h0⟩|⟨a,c,rfl,h2⟩
  ·exact absurd h0 hm0
  have hb:=he.bytes;unfold gF at hm;have nJ:(n+m)*i.bytes≤140737488355328:=acH (aem hm hb) (by decide);have new:∀v',w.heap.size≤w.heap.size→∀(w':World),w'.ownsRow w.heap.size e k.sz v' (n+m) (xs++news)→∀b,ob v'=some b→w.heap.size≤b:=fun v' _ w' pP b hb=>by
   rcases pP.2 with⟨rfl,_⟩|⟨g,cap,cur,rfl,h5,_⟩
   ·simp[ob]at hb
   ·simp only[ob]at hb
    split at hb
    ·cases hb
    ·cases hb;exact h5
  rcases ho.2 with⟨rfl,A,rfl⟩|⟨g,cap,cur,rfl,abJ,h4,h5,h6,h7,h8⟩
  ·have Ba:xs=[]:=abU (by rw[ho.1,Nat.zero_mul]);subst Ba;have oJ:ob (.slice A 0 0)=none:=by cases A<;>simp[ob]
   cases A with
   |none =>obtain⟨v',w',hr,h4,h5,_,h6⟩:=run_append_own_at (P:=P) w w.heap.size t ty e i z k.sz i.bytes ht he.info he.zero he.size rfl he.xI k.jI (.slice none 0 0) 0 [] ⟨by simp,.inl ⟨rfl,rfl⟩⟩ a m c news h1 h2 h3 (by simp only[maxLen];omega) nJ (abZ _);exact⟨v',w',hr,fK.of h4,by rw[oJ];exact h5,.inr (new v' (abZ _) w' h4)⟩
   |some b0 =>obtain⟨v',w',hr,h4,h5⟩:=run_append_arg_grows (P:=P) w t ty e i z k.sz i.bytes ht he.info he.zero he.size rfl he.xI k.jI b0 0 0 [] (by simp) (by simp) a m c news h1 h2 (by omega) (by simp only[maxLen];omega) nJ;exact⟨v',w',hr,fK.of h4,by rw[oJ];exact h5,.inr (new v' (abZ _) w' h4)⟩
  ·have wF:w.ownsRow 0 e k.sz (.slice (some ⟨g,0,none⟩) n cap) n xs:=⟨ho.1,.inr ⟨g,cap,cur,rfl,adL _,h4,h5,h6,h7,h8⟩⟩;have oJ:ob (.slice (some ⟨g,0,none⟩) n cap)=some g:=by simp only[ob];rw[if_neg (by omega)]
   obtain⟨v',w',hr,h4,h5,_,h6⟩:=run_append_own_at (P:=P) w 0 t ty e i z k.sz i.bytes ht he.info he.zero he.size rfl he.xI k.jI _ n xs wF a m c news h1 h2 h3 (by simp only[maxLen];omega) nJ (adL _);refine⟨v',w',hr,fK.of h4,by rw[oJ];exact h5,?_⟩;rw[oJ];rcases h4.2 with⟨rfl,h0⟩|⟨g',ajL,kg,rfl,_,_,h9,_⟩
   ·omega
   ·have Yv:ob (.slice (some ⟨g',0,none⟩) (n+m) ajL)=some g':=by simp only[ob];rw[if_neg (by omega)]
    rw[Yv];simp only[Value.ownBlock,Option.some.injEq]at h6;rcases h6 with h6|h6
    ·left;rw[h6]
    ·right;intro b hb;cases hb;omega
theorem aD.sL{h h':Hp}(hs:∀id o,h' id=some o→h id=some o){a:AV}{v:Value}(hr:aD Z ψ h w a v):aD Z ψ h' w a v :=hr.less (fun _ h=>h) (cW.refl _ _) (fun id bV=>by obtain⟨o,ho⟩:=abT.1 bV;exact⟨by rw[hs id o ho];simp,rfl⟩)
theorem ax.sL{h h':Hp}(hs:∀id o,h' id=some o→h id=some o){a:List AV}{v:List Value}(hr:ax Z ψ h w a v):ax Z ψ h' w a v :=hr.less (fun _ h=>h) (cW.refl _ _) (fun id bV=>by obtain⟨o,ho⟩:=abT.1 bV;exact⟨by rw[hs id o ho];simp,rfl⟩)
theorem sE{hh:Heap}(g:Good Z ψ h w B0 O)(bL:∀id o,hh.get id=some o→h id=some o)(hB:B0≤w.heap.size){id:Nat}(hN:N id){t ty e:TypeId}{k:K}{i:TypeInfo}{z:Value}(ht:P.underlying t=some (.slice e))(he:pO P e k i z) {x:AV} {u:Value} {ys:List k.T} (hx:rowOf hh x k=some ys) (hr:aD Z ψ h w x u) (hm:ys.length≤gF) (bD:∀i ty cs,h i=some (.box ty cs)→aJ (fun i=>i≠id) cs) :
  ∃v' w',(Builtin.append_ #[t,t] ty #[.slice none 0 0,u]).run P w=.ok v' w'∧Next Z ψ h w B0 O N Z (fE ψ id v') (fE h id (some (.own (.row e k) ys))) w'∧v'.cells=#[v']∧v'.oneCell'=true:=by
 obtain⟨news,zJ,hv⟩:=IB (g.sub bL) hx (hr.sL bL);have Gl:fK w e k.sz (.slice none 0 0) 0 []:=⟨by simp,.inl ⟨rfl,none,rfl⟩⟩;obtain⟨v',w',eC,h4,h5,h6⟩:=eT (ty:=ty) ht he Gl zJ (by omega);have hg:w.grownBy w' none:=h5;have kk:dF ψ h w w':=dF.grown hg (fun b e=>by cases e);have sm:=kk.same g;refine⟨v',w',eC,tj g hB id e hN (vs:=news) kk (fun b hb=>hg.block b (g.ck hb) (by simp)) (by simpa using h4) (fun i x hx=>(hv i x hx).mono (fun _ h=>h) sm) (fun b hb=>?_) bD,h4.one⟩;rcases h6 with h6|h6
 ·rw[h6]at hb;simp[ob]at hb
 ·exact h6 b hb
theorem B3{hh:Heap}(g:Good Z ψ h w B0 O)(bL:∀id o,hh.get id=some o→h id=some o)(hB:B0≤w.heap.size){id dv:Nat}(hN:N id)(bp:dv≠id){t ty e:TypeId}{k:K}{i:TypeInfo}{z:Value}(ht:P.underlying t=some (.slice e))(he:pO P e k i z) {xs:List k.T} (ho:h dv=some (.own (.row e k) xs)) {x:AV} {u:Value} {ys:List k.T} (hx:rowOf hh x k=some ys) (hr:aD Z ψ h w x u) (hm:xs.length+ys.length≤gF) (bD:∀i ty cs,h i=some (.box ty cs)→aJ (fun i=>i≠id) cs) :
  ∃v' w',(Builtin.append_ #[t,t] ty #[ψ dv,u]).run P w=.ok v' w'∧Next Z ψ h w B0 O N Z (fE ψ id v') (fE (fE h dv none) id (some (.own (.row e k) (xs++ys)))) w'∧v'.cells=#[v']∧v'.oneCell'=true:=by
 obtain⟨news,zJ,hv⟩:=IB (g.sub bL) hx (hr.sL bL);obtain⟨vs,ho0,X2⟩:=g.row dv (.row e k) xs ho;obtain⟨v',w',eC,h4,h5,h6⟩:=eT (ty:=ty) ht he ho0 zJ hm;have hold:h dv≠none:=by rw[ho];simp
 have kk:dF ψ h w w':=dF.grown h5 (fun b e=>⟨dv,hold,e⟩);have sm:=kk.same g;refine⟨v',w',eC,tl g hB id dv hN ho bp h5 (ok:=.row e k) (y:=xs++ys) ⟨_,by rw[List.length_append];exact h4,(X2.append hv ho0.1).Km sm⟩ h6 bD,h4.one⟩
theorem Dl{hh:Heap}(g:Good Z ψ h w B0 O)(bL:∀id o,hh.get id=some o→h id=some o)(hB:B0≤w.heap.size){id:Nat}(hN:N id){t ty e:TypeId}{k:K}{i:TypeInfo}{z:Value}(ht:P.underlying t=some (.slice e))(he:pO P e k i z) {xs:List k.T} {v:Value} (hd:aD Z ψ h w (.sl true k xs) v) {x:AV} {u:Value} {ys:List k.T} (hx:rowOf hh x k=some ys) (hr:aD Z ψ h w x u) (Nq:0<ys.length∨xs=[]) (hm:xs.length+ys.length≤gF) (bD:∀i ty cs,h i=some (.box ty cs)→aJ (fun i=>i≠id) cs) :
  ∃v' w',(Builtin.append_ #[t,t] ty #[v,u]).run P w=.ok v' w'∧Next Z ψ h w B0 O N Z (fE ψ id v') (fE h id (some (.own (.row e k) (xs++ys)))) w'∧v'.cells=#[v']∧v'.oneCell'=true:=by
 simp only[aD]at hd;obtain⟨hd,hex⟩:=hd;obtain⟨A,c,Tx⟩:=hex trivial;rcases wE hd with⟨rfl,rfl⟩|⟨a,c',ad7,h1,_,h2,h3,h4,h5⟩
 ·have:=sE (ty:=ty) (N:=N) g bL hB hN ht he hx hr (by omega) bD;simpa using this
 ·rw[h1]at Tx;cases Tx;obtain⟨news,⟨h6,h7,hu⟩,hv⟩:=IB (g.sub bL) hx (hr.sL bL);by_cases hy0:ys.length=0
  ·have hy:ys=[]:=abU hy0;have Ba:xs=[]:=Nq.resolve_left (by omega);subst Ba;have Gl:fK w e k.sz (.slice (some a) 0 0) 0 []:=⟨by simp,.inl ⟨rfl,_,rfl⟩⟩;refine⟨v,w,?_,tj g hB id e hN (vs:=[]) (dF.refl _ _ _) (fun _ _=>rfl) (by rw[hy,h1];exact Gl) (fun i x hx=>by rw[hy]at hx;simp at hx) (fun b hb=>by rw[h1]at hb;simp[ob]at hb) bD,by rw[h1];exact Gl.one⟩;rw[h1];rw[hy0]at hu;rcases hu with⟨rfl,_⟩|⟨b,cu,rfl,_⟩<;>exact gI ht he.info _ _ _ (abZ _) _ _
  rcases hu with⟨_,h0⟩|⟨b,cu,rfl,h8⟩
  ·omega
  ·have hb:=he.bytes;unfold gF at hm;have nJ:(xs.length+ys.length)*i.bytes≤140737488355328:=acH (aem hm hb) (by decide);obtain⟨v',w',eC,h9,oI⟩:=run_append_arg_grows (P:=P) w t ty e i z k.sz i.bytes ht he.info he.zero he.size rfl he.xI k.jI a xs.length xs.length ad7 h2 h3 b ys.length cu news h6 h8 (by omega) (by simp only[maxLen];omega) nJ;have kk:dF ψ h w w':=dF.grown oI (fun b e=>by cases e);have sm:=kk.same g;have h9':fK w' e k.sz v' (xs++ys).length (ad7++news):=by rw[List.length_append];exact fK.of h9
   subst h1;refine⟨v',w',eC,tj g hB id e hN kk (fun b hb=>oI.block b (g.ck hb) (by simp)) h9' ((h5.append hv h2).Km sm) (fun b hb=>?_) bD,h9'.one⟩;rcases h9.2 with⟨e1,_⟩|⟨gg,cap,cur,e1,e2,_⟩
   ·rw[e1]at hb;simp[ob]at hb
   ·rw[e1]at hb;simp only[ob]at hb
    split at hb
    ·cases hb
    ·cases hb;omega
theorem xJ:∀(vs:List Value) (k off:Nat) (cells:Array Value),(vs.zipIdx k).foldl (fun cs (p:Value×Nat)=>cs.setIfInBounds (off+p.2) p.1) cells=(fm cells.toList (off+k) vs).toArray
 |[],k,off,cells=>by simp[fm]
 |v::r,k,off,cells=>by simp only[List.zipIdx_cons,List.foldl_cons,fm];rw[xJ r (k+1) off];simp[Nat.add_assoc]
theorem Bb(V:Array Value)(off:Nat)(cells:Array Value) :
  V.zipIdx.foldl (fun cs (p:Value×Nat)=>cs.setIfInBounds (off+p.2) p.1) cells=(fm cells.toList off V.toList).toArray:=by
 rw[←Array.foldl_toList,Array.toList_zipIdx];exact xJ V.toList 0 off cells
theorem vG{α:Type}:∀(vs cs:List α) (off:Nat),(fm cs off vs).length=cs.length
 |[],_,_=>rfl
 |v::r,cs,off=>by simp only[fm];rw[vG r];simp
theorem ax.fm:∀{vs cs:List AV} {us ds:List Value} (off:Nat),ax Z ψ h w vs us→ax Z ψ h w cs ds→ax Z ψ h w (fm cs off vs) (fm ds off us)
 |[],cs,us,ds,off,h1,h2=>by simp only[ax]at h1;subst h1;exact h2
 |v::r,cs,us,ds,off,h1,h2=>by simp only[ax]at h1;obtain⟨u,j7,rfl,h3,h4⟩:=h1;simp only[Vs.fm];exact ax.fm (off+1) h4 (h2.set off h3)
theorem aD.cells{a:AV}{v:Value}(hk:a≠.no)(hr:aD Z ψ h w a v):ax Z ψ h w a.cells v.cells.toList:=by
 cases a with
 |no=>exact absurd rfl hk
 |agg cs=>simp only[aD]at hr;obtain⟨vs,rfl,hr⟩:=hr;simpa[AV.cells,Value.cells] using hr
 |bool b=>simp only[aD]at hr;subst hr;simp[AV.cells,Value.cells,ax,aD]
 |int k n=>simp only[aD]at hr;subst hr;simp[AV.cells,Value.cells,ax,aD]
 |str s=>simp only[aD]at hr;subst hr;simp[AV.cells,Value.cells,ax,aD]
 |mL=>simp only[aD]at hr;subst hr;simp[AV.cells,Value.cells,ax,aD]
 |il=>simp only[aD]at hr;subst hr;simp[AV.cells,Value.cells,ax,aD]
 |ref id s i off=>obtain⟨a,rfl,h2⟩:=(by simpa only[aD] using hr:∃a,v=.pointer (some a)∧_);simp only[AV.cells,Value.cells,ax];exact⟨_,[],by simp,hr,rfl⟩
 |fp k x off=>obtain⟨a,us,rfl,h2⟩:=(by simpa only[aD] using hr:∃a us,v=.pointer (some a)∧_);simp only[AV.cells,Value.cells,ax];exact⟨_,[],by simp,hr,rfl⟩
 |sl ex k xs =>
  have uE:=hr;simp only[aD,aQ]at uE;obtain⟨⟨v',hv,A,c,rfl,_⟩,_⟩:=uE
  cases hv
  simp only[AV.cells,Value.cells,ax];exact⟨_,[],by simp,hr,rfl⟩
 |bY id =>have uE:=hr;simp only[aD]at uE;obtain⟨⟨hc,_⟩,_⟩:=uE;simp only[AV.cells,ax,hc];exact⟨_,[],by simp,hr,rfl⟩
 |mp kk vk es =>
  have uE:=hr;simp only[aD,aQ]at uE;obtain⟨A,hv,_⟩:=uE
  cases hv
  simp only[AV.cells,Value.cells,ax];exact⟨_,[],by simp,hr,rfl⟩
 |fn f cap =>have uE:=hr;simp only[aD]at uE;obtain⟨vs,rfl,_⟩:=uE;simp only[AV.cells,Value.cells,ax];exact⟨_,[],by simp,hr,rfl⟩
 |pH vs =>have uE:=hr;simp only[aD]at uE;obtain⟨us,rfl,_⟩:=uE;simp only[AV.cells,Value.cells,ax];exact⟨_,[],by simp,hr,rfl⟩
def vH(Z:Nat→Prop)(ψ:Nat→Value)(h:Hp)(w:World):List (Nat×AV)→List (Nat×Value)→Prop
 |[],[]=>True
 |p::r,q::s=>p.1=q.1∧p.2≠.no∧aD Z ψ h w p.2 q.2∧vH Z ψ h w r s
 |_,_=>False
theorem Ko{place:Nat→Option (Nat×Nat)}:∀{ps:List (Nat×AV)} {qs:List (Nat×Value)} {cs cs':List AV} {cells:Array Value},vH Z ψ h w ps qs→ax Z ψ h w cs cells.toList→GS place cs ps=some cs' → ∃hM,Instr.fill place cells qs=some hM∧ax Z ψ h w cs' hM.toList
 |[],[],cs,cs',cells,_,hr,hf=>by simp only[GS]at hf;cases hf;exact⟨cells,rfl,hr⟩
 |[],_::_,_,_,_,hp,_,_=>hp.elim
 |_::_,[],_,_,_,hp,_,_=>hp.elim
 |(i,a)::ps,(j,v)::qs,cs,cs',cells,hp,hr,hf=>by
  obtain⟨rfl,sM,hv,hp⟩:=hp;simp only[GS]at hf;simp only at sM hv;have Tx:=hv.cells sM;have hl:=Tx.length;have zK:=hr.length;simp only[Array.length_toList]at hl zK;simp only[Instr.fill]
  split at hf
  ·cases hf
  ·rename_i off size hpl;simp only[hpl]
   split at hf
   ·cases hf
   ·rename_i hc;have X3:a.cells.length=size:=Decidable.not_not.1 (fun e=>hc (.inl e));have q9:¬off+a.cells.length>cs.length:=fun e=>hc (.inr e);rw[if_neg (by simp only[Bool.or_eq_true,decide_eq_true_eq];omega)];refine Ko hp ?_ hf;rw[Bb,List.toList_toArray];exact Tx.fm off hr
theorem T1(fs:Array Field)(hi:∀f∈fs.toList,∃i,P.info? f.type=some i):(fs.mapM fun f=>do pure (f.offset,←sizeOf f.type):Sem (Array (Nat×Nat))).run P w=.ok (fs.map fun f=>(f.offset,P.cellsOf f.type)) w:=by
 rw[←Array.toArray_toList (xs:=fs)];generalize fs.toList=l at hi;have key:∀(l:List Field) (acc:Array (Nat×Nat)),(∀f∈l,∃i,P.info? f.type=some i) →(l.foldlM (fun(bs:Array (Nat×Nat)) f=>do let y ←(do pure (f.offset,←sizeOf f.type):Sem (Nat×Nat));pure (bs.push y)) acc:Sem (Array (Nat×Nat))).run P w=.ok (acc++(l.map fun f=>(f.offset,P.cellsOf f.type)).toArray) w:=by
  intro l
  induction l with
  |nil=>intro acc _;simp
  |cons f r ih =>intro acc hl;obtain⟨i,hi⟩:=hl f (by simp);simp only[List.foldlM_cons,Sem.run_bind,eJ hi,Result.andThen_ok,Sem.run_pure];rw[ih _ (fun f hf=>hl f (List.mem_cons_of_mem _ hf))];simp
 have:=key l #[] hi;simp only[Array.mapM_eq_foldlM,List.size_toArray,List.foldlM_toArray'];simpa using this
theorem IC(v:Value):aD Z ψ h w (zu v) v:=by
 cases v with
 |bool b=>simp only[zu,aD]
 |int k n=>simp only[zu,aD]
 |string s=>simp only[zu,aD]
 |pointer a =>
  simp only[zu];split
  ·rename_i e;subst e;simp only[aD]
  ·simp only[aD]
 |slice a n c =>
  simp only[zu];split
  ·rename_i e;obtain⟨rfl,rfl,rfl⟩:=e;simp only[aD]
  ·simp only[aD]
 |func fn first cap =>
  cases fn with
  |func f =>
   simp only[zu];split
   ·rename_i e;have h1:first=#[]:=adP e.1
    have h2:cap=#[]:=adP e.2;subst h1;subst h2;simp only[aD];exact⟨#[],rfl,by simp[ax]⟩
   ·simp only[aD]
  |_=>simp only[zu,aD]
 |_=>simp only[zu,aD]
theorem Dm:∀vs:List Value,ax Z ψ h w (vs.map zu) vs
 |[]=>by simp[ax]
 |v::r=>by simp only[List.map_cons,ax];exact⟨v,r,rfl,IC v,Dm r⟩
theorem Kp(v:Value):aD Z ψ h w (wx v) v:=by
 cases v with
 |agg cs=>simp only[wx,aD];exact⟨cs,rfl,Dm _⟩
 |_=>simp only[wx];exact IC _
theorem G1(v:Value):(zu v).cells=[zu v]:=by
 cases v with
 |pointer a=>simp only[zu];split<;>rfl
 |slice a n c=>simp only[zu];split<;>rfl
 |func fn first cap =>
  cases fn with
  |func f=>simp only[zu];split<;>rfl
  |_=>rfl
 |_=>rfl
theorem Dn(v:Value):ax Z ψ h w (wx v).cells v.cells.toList:=by
 cases v with
 |agg cs=>simp only[wx,AV.cells,Value.cells];exact Dm _
 |_ =>simp only[wx];rw[G1];simp only[ax];exact⟨_,[],rfl,IC _,rfl⟩
theorem rr{t:TypeId}{zs:List AV}(hz:C2 P t=some zs):∃i z,P.info? t=some i∧i.zero=some z∧zs=(wx z).cells∧∀u∈z.cells.toList,u.oneCell'=true:=by
 unfold C2 at hz;obtain⟨i,hi,Bc⟩:=acR.1 hz;obtain⟨z,Gb,M5⟩:=acR.1 Bc
 split at M5
 ·rename_i gO
  cases M5
  exact⟨i,z,hi,Gb,rfl,fun u hu=>acQ.1 gO u hu⟩
 ·cases M5
theorem xK{t:TypeId}{i:TypeInfo}{z:Value}(hi:P.info? t=some i)(hz:i.zero=some z):(zeroValue t).run P w=.ok z w:=by simp[zeroValue,typeInfo,hi,hz]
theorem Rk{t:TypeId}{fs:Array Field}{zs cs:List AV}{ps:List (Nat×AV)}{qs:Array (Nat×Value)}(hz:C2 P t=some zs)(ht:P.underlying t=some (.struct fs))(gO:fs.toList.all (fun f=>(P.info? f.type).isSome)=true) (hp:vH Z ψ h w ps qs.toList) (hf:GS (fun i=>(fs[i]?).map fun f=>(f.offset,P.cellsOf f.type)) zs ps=some cs) :
  ∃V,(Instr.build t qs).run P w=.ok V w∧aD Z ψ h w (.agg cs) V:=by
 obtain⟨i,z,hi,hzz,rfl,_⟩:=rr hz;obtain⟨hM,h1,h2⟩:=Ko hp (Dn z) hf;have hpl:=T1 (P:=P) (w:=w) fs (fun f hf=>abM.1 (acQ.1 gO f hf));refine⟨.agg hM,?_,by simp only[aD];exact⟨_,rfl,h2⟩⟩;have X4:Instr.fill (fun x=>(fs.map fun f=>(f.offset,P.cellsOf f.type))[x]?) z.cells qs.toList=some hM:=by rw[←h1];congr 1;funext x;simp
 simp only[Instr.build,Sem.run_bind,xK hi hzz,run_underlying ht,Result.andThen_ok,hpl,X4];rfl
theorem Nu:∀(k:K) (cs:List AV) (x:k.T) (r:List AV),dec k cs=some (x,r)→cs.head?≠some .no
 |.int ik,cs,x,r,h,hc=>by
  cases cs with
  |nil=>simp at hc
  |cons a s=>simp at hc;subst hc;simp[dec,Is]at h
 |.bool,cs,x,r,h,hc=>by
  cases cs with
  |nil=>simp at hc
  |cons a s=>simp at hc;subst hc;simp[dec,Cg]at h
 |.str,cs,x,r,h,hc=>by
  cases cs with
  |nil=>simp at hc
  |cons a s=>simp at hc;subst hc;simp[dec,It]at h
 |.sl k,cs,x,r,h,hc=>by
  cases cs with
  |nil=>simp at hc
  |cons a s=>simp at hc;subst hc;simp[dec,Pq]at h
 |.pair a b,cs,x,r,h,hc=>by
  simp only[dec]at h
  split at h
  ·rename_i x1 r1 h1;exact Nu a cs x1 r1 h1 hc
  ·cases h
 |.one k,cs,x,r,h,hc=>by simp only[dec]at h;exact Nu k cs x r h hc
 |.mp kk vk,cs,x,r,h,hc=>by
  cases cs with
  |nil=>simp at hc
  |cons a s=>simp at hc;subst hc;simp[dec,Pr]at h
theorem G2{k:K}{hh:Heap}{a:AV}{x:k.T}(h:ep k (a.cells.map (dm hh))=some x):a≠.no:=by
 rintro rfl;unfold ep at h
 split at h
 ·rename_i x' h1;exact Nu k _ _ _ h1 (by simp[AV.cells,dm])
 ·cases h
theorem Kq{k:K}{hh:Heap}(g:Good Z ψ hh.get w B0 O)(hz:∀b,Z b→Z' b):∀{ps:List (Nat×AV)} {qs:List (Nat×Value)} {xs:List k.T} {i:Nat} {cells:Array Value},(∀p∈ps,∀id b,AV.bY id∈p.2.cells→hh.get id≠none→ob (ψ id)=some b→Z' b)→vH Z ψ hh.get w ps qs→ta k hh i ps=some xs→(i+ps.length)*k.sz≤cells.size → ∃hM flat,Instr.fill (fun i=>some (i*k.sz,k.sz)) cells qs=some hM∧hM.toList=cells.toList.take (i*k.sz)++flat++cells.toList.drop ((i+ps.length)*k.sz)∧flat.length=ps.length*k.sz∧pM Z' w k xs flat∧(∀q∈flat,q.oneCell'=true)∧xs.length=ps.length
 |[],[],xs,i,cells,_,_,hl,_=>by simp only[ta]at hl;cases hl;exact⟨cells,[],rfl,by simp,by simp,fun i x hx=>by simp at hx,by simp,rfl⟩
 |[],_::_,_,_,_,_,hp,_,_=>hp.elim
 |_::_,[],_,_,_,_,hp,_,_=>hp.elim
 |(j,a)::ps,(j',v)::qs,xs,i,cells,hb,hp,hl,hs=>by
  obtain⟨hjj,sM,hv,hp⟩:=hp;simp only at hjj sM hv;subst hjj;simp only[ta]at hl
  split at hl
  ·rename_i e;subst e
   split at hl
   ·rename_i y ys h1 h2
    cases hl
    simp only[List.length_cons]at hs;have Tx:=hv.cells sM;have hvw:=qp g hz (hb (j,a) (by simp)) Tx;have hk:=eR h1 hvw;have Rl:=hk.len;rw[Array.length_toList]at Rl;have j8:j*k.sz+k.sz≤cells.size:=by have:(j+1)*k.sz≤(j+(ps.length+1))*k.sz:=acE _ (by omega);rw[Nat.succ_mul]at this;omega
    simp only[Instr.fill];rw[if_neg (by simp only[Bool.or_eq_true,decide_eq_true_eq];omega),Bb];obtain⟨hM,flat,h3,h4,h5,h6,h7,h8⟩:=Kq g hz (ps:=ps) (qs:=qs) (xs:=ys) (i:=j+1) (cells:=(fm cells.toList (j*k.sz) v.cells.toList).toArray) (fun p hp=>hb p (aa5 _ hp)) hp h2 (by rw[List.size_toArray,vG];have e9:cells.toList.length=cells.size:=Array.length_toList;rw[e9,show j+1+ps.length=j+(ps.length+1) by omega];exact hs);refine⟨hM,v.cells.toList++flat,h3,?_,?_,?_,?_,by simp[h8]⟩
    ·rw[h4,List.toList_toArray,uF _ _ _ (by rw[Array.length_toList,Array.length_toList];omega)];have e1:(j+1)*k.sz=j*k.sz+k.sz:=ad8 _ _;have e2:(j+1+ps.length)*k.sz=(j+(ps.length+1))*k.sz:=by congr 1;omega
     rw[List.length_cons,e1,e2];have l1:(cells.toList.take (j*k.sz)++v.cells.toList).length=j*k.sz+k.sz:=by rw[List.length_append,List.length_take,Array.length_toList,Array.length_toList];omega
     rw[←l1,List.take_left];have l2:(j+(ps.length+1))*k.sz=(cells.toList.take (j*k.sz)++v.cells.toList).length+(ps.length*k.sz):=by rw[l1,Nat.add_mul,Nat.add_mul];omega
     have hd:(cells.toList.take (j*k.sz)++v.cells.toList++cells.toList.drop (j*k.sz+v.cells.toList.length)).drop ((j+(ps.length+1))*k.sz)=cells.toList.drop ((j+(ps.length+1))*k.sz):=by rw[l2,List.drop_append,List.drop_eq_nil_of_le (by omega),List.nil_append,Nat.add_sub_cancel_left,List.drop_drop];congr 1;rw[l1,Array.length_toList];omega
     rw[hd];simp[List.append_assoc]
    ·rw[List.length_append,h5,Array.length_toList,Rl,List.length_cons,Nat.succ_mul];omega
    ·intro n x hx
     cases n with
     |zero =>
      simp only[List.getElem?_cons_zero,Option.some.injEq]at hx;subst hx;have abL:v.cells.toList.length=k.sz:=by rw[Array.length_toList];exact Rl
      rw[Nat.zero_mul,List.drop_zero,←abL,List.take_left];exact hk
     |succ n =>
      have:=h6 n x (by simpa using hx);have abL:v.cells.toList.length=k.sz:=by rw[Array.length_toList];exact Rl
      have e:(n+1)*k.sz=v.cells.toList.length+n*k.sz:=by rw[abL,Nat.succ_mul];omega
      rw[e,List.drop_append,List.drop_eq_nil_of_le (by omega),List.nil_append,Nat.add_sub_cancel_left];exact this
    ·intro q hq;rcases abH.1 hq with hq|hq
     ·exact hk.one q hq
     ·exact h7 q hq
   ·cases hl
  ·cases hl
theorem Next.drop{Z1:Nat→Prop}{h1:Hp}(n:Next Z1 ψ h1 w B0 O N Z' ψ' h' w')(hz:∀b,Z b→Z1 b)(Bc:∀b,Z1 b→Z b∨Own ψ h b)(bL:∀id o,h1 id=some o→h id=some o):Next Z ψ h w B0 O N Z' ψ' h' w':=by
 have hn:∀id,h1 id≠none→h id≠none:=fun id hn=>by obtain⟨o,ho⟩:=abT.1 hn;rw[bL id o ho];simp
 have ho:∀b,Own ψ h1 b→Own ψ h b:=fun b ⟨id,h2,h3⟩=>⟨id,hn id h2,h3⟩;refine⟨fun b hb=>n.g9 b (hz b hb),fun b hb=>?_,⟨n.keep.os,n.keep.tape,n.keep.output,n.keep.size,fun b hb sM=>n.keep.block b hb (fun h=>sM (ho b h))⟩,fun id bV=>(n.ids id bV).imp (fun⟨h2,h3⟩=>⟨hn id h2,h3⟩) (fun h=>h),n.fq⟩;rcases n.fS b hb with h2|h2|h2
 ·exact(Bc b h2).imp (fun h=>h) (fun h=>.inl h)
 ·exact .inr (.inl (ho b h2))
 ·exact .inr (.inr h2)
theorem vH.sL{h h':Hp}(hs:∀id o,h' id=some o→h id=some o):∀{ps:List (Nat×AV)} {qs:List (Nat×Value)},vH Z ψ h w ps qs→vH Z ψ h' w ps qs:=by
 intro ps
 induction ps with
 |nil=>intro qs hp;cases qs with
  |nil=>trivial
  |cons q r=>exact hp.elim
 |cons p r ih=>intro qs hp;cases qs with
  |nil=>exact hp.elim
  |cons q s=>exact⟨hp.1,hp.2.1,hp.2.2.1.sL hs,ih hp.2.2.2⟩
theorem Kr{hh:Heap}{Z1:Nat→Prop}(g:Good Z1 ψ h w B0 O)(g0:Good Z ψ hh.get w B0 O)(hz:∀b,Z b→Z1 b)(hB:B0≤w.heap.size){id:Nat}(hN:N id){t e:TypeId}{k:K}{i:TypeInfo}{z:Value}(ht:P.underlying t=some (.slice e))(he:pO P e k i z) {ps:List (Nat×AV)} {qs:Array (Nat×Value)} {xs:List k.T} (Ty:∀p∈ps,∀id b,AV.bY id∈p.2.cells→hh.get id≠none→ob (ψ id)=some b→Z1 b) (hp:vH Z ψ hh.get w ps qs.toList) (hl:ta k hh 0 ps=some xs) (hn:ps.length*k.sz≤1048576) (bD:∀i ty cs,h i=some (.box ty cs)→aJ (fun i=>i≠id) cs) :
  ∃v' w',(Instr.buildSlice t ps.length qs).run P w=.ok v' w'∧Next Z1 ψ h w B0 O N Z1 (fE ψ id v') (fE h id (some (.own (.row e k) xs))) w'∧(v'.cells=#[v']∧v'.oneCell'=true)∧(∀b,Own ψ h b→w'.heap[b]? = w.heap[b]?)∧(∀b,ob v'=some b→w.heap.size≤b)∧∃A c,v'=.slice A c c:=by
 let Ks:Array Value:=(Array.range (ps.length*k.sz)).map (z.cells[· % z.cells.size]!)
 have B4:Ks.size=ps.length*k.sz:=by simp[Ks]
 obtain⟨hM,flat,h1,h2,h3,h4,h5,h6⟩:=Kq (Z':=Z1) g0 hz (ps:=ps) (qs:=qs.toList) (xs:=xs) (i:=0) (cells:=Ks) Ty hp hl (by rw[Nat.zero_add,B4];exact abZ _);have aav:hM.toList=flat:=by rw[h2,Nat.zero_mul,List.take_zero,List.nil_append,Nat.zero_add,List.drop_eq_nil_of_le (by rw[Array.length_toList,B4];exact Nat.le_refl _),List.append_nil]
 have Rm:hM.size=ps.length*k.sz:=by rw[←Array.length_toList,aav];exact h3
 have Nq:=k.jI;have hlen:ps.length≤1048576:=acH (Nat.le_mul_of_pos_right _ Nq) hn;have wF:(w.alloc (.cells hM e)).ownsRow 0 e k.sz (.slice (some ⟨w.heap.size,0,none⟩) ps.length ps.length) xs.length flat:=by have:=World.ownsRow_lit (base:=0) (e:=e) (size:=k.sz) w hM ps.length (adL _) (by simp only[maxLen];omega) Rm;rw[h6,←aav];exact this
 refine⟨.slice (some ⟨w.heap.size,0,none⟩) ps.length ps.length,w.alloc (.cells hM e),?_,tj g hB id e hN (vs:=flat) (dF.alloc _ _ _ _) (fun b hb=>heap_alloc_old w _ (g.ck hb)) (fK.of wF) (h4.Km ((dF.alloc ψ h w _).same g)) (fun b hb=>by simp only[ob]at hb;split at hb<;>cases hb;exact abZ _) bD,(fK.of wF).one,fun b hb=>heap_alloc_old w _ (g.ck hb),fun b hb=>by simp only[ob]at hb;split at hb<;>cases hb;exact abZ _,_,_,rfl⟩
 ·show _=Result.ok (Value.slice (some ⟨w.heap.size,0,none⟩) ps.length ps.length) _;have Dp:¬ps.length*k.sz>2 ^ 24:=by omega
  have hc:P.cellsOf e=k.sz:=by simp[Program.cellsOf,he.info,he.size]
  simp only[Instr.buildSlice,Sem.run_bind,run_underlying ht,Result.andThen_ok,eJ he.info,hc];rw[if_neg Dp];have Gm:(newRow e hM).run P w=.ok ⟨w.heap.size,0,none⟩ (w.alloc (.cells hM e)):=rfl;by_cases h0:ps.length*k.sz=0
  ·have Yw:Ks=#[]:=adP (by rw[B4,h0]);have Bc:(Array.range (ps.length*k.sz)).map (fun x=>(#[]:Array Value)[x%(#[]:Array Value).size]!)=#[]:=adP (by simp[h0]);rw[if_pos h0];rw[Yw]at h1;simp only[Sem.run_pure,Result.andThen_ok,Bc,h1,Sem.run_bind,Gm]
  ·rw[if_neg h0];simp only[Sem.run_bind,xK he.info he.zero,Result.andThen_ok,Sem.run_pure];rw[show(Array.range (ps.length*k.sz)).map (fun x=>z.cells[x%z.cells.size]!)=Ks from rfl,h1];simp only[Sem.run_bind,Gm,Result.andThen_ok,Sem.run_pure]
theorem T2(g:Good Z ψ h w B0 O)(hB:B0≤w.heap.size){id:Nat}{e:TypeId}{k:K}{xs:List k.T}{v':Value}(n:Next Z ψ h w B0 O N Z (fE ψ id v') (fE h id (some (.own (.row e k) xs))) w') (vE:∀b,Own ψ h b→w'.heap[b]? = w.heap[b]?) (Gm:∀b,ob v'=some b→w.heap.size≤b) (hex:∃A c,v'=.slice A c c) :
  Next Z ψ h w B0 O N (fun b=>Z b∨ob v'=some b) ψ h w'∧aD (fun b=>Z b∨ob v'=some b) ψ h w' (.sl true k xs) v':=by
 have qq:kM Z w' (.row e k) v' xs:=by
  have:=n.fq.row id (.row e k) xs (bE _ _ _)
  rwa [bE]at this
 obtain⟨vs,ho,hv⟩:=qq;have m:Next Z ψ h w B0 O (fun _=>False) Z ψ h w':=g.more n.keep vE (fun _ _=>⟨rfl,rfl⟩) (fun i ty cs hb=>by
  have e:(fun _:Nat=>¬False)=fun _=>True:=by funext i;simp
  rw[e];exact aJ.top cs) (fun _ _ _ h=>h.elim) (fun _ _ _ h=>h.elim) (fun _ _ h=>h.elim) (fun _ _ _ h=>h.elim) hB
 have hz:∀b,Z b→Z b∨ob v'=some b:=fun b h=>.inl h;refine⟨⟨hz,fun b hb=>hb.imp (fun h=>h) fun h=>.inr (Gm b h),m.keep,fun i hi=>.inl ((m.ids i hi).resolve_right (fun h=>h)),⟨fun i ty cs hb=>?_,fun i ok x hb=>?_,fun i b h1 h2=>?_,m.fq.apart,fun b hb=>?_⟩⟩,?_⟩
 ·obtain⟨gg,vs,f1,f2,f3,f4⟩:=m.fq.box i ty cs hb;exact⟨gg,vs,f1,f2,ax.less hz (cW.refl _ _) (fun _ h=>⟨h,rfl⟩) f3,f4⟩
 ·exact(m.fq.row i ok x hb).kept hz (cW.refl _ _) (fun _ _=>rfl)
 ·obtain⟨k1,k2⟩:=m.fq.live i b h1 h2;refine⟨fun hb=>hb.elim k1 fun hb=>?_,k2⟩;have:=g.ck ⟨i,h1,h2⟩;have:=Gm b hb;omega
 ·rcases hb with hb|hb
  ·exact m.fq.kT b hb
  ·exact kM.lt (ok:=.row e k) ⟨vs,ho,hv⟩ hb
 ·simp only[aD];exact⟨xG ho hv (fun b h=>.inl h) (fun b h=>.inr h),fun _=>hex⟩
end Go.Vs
