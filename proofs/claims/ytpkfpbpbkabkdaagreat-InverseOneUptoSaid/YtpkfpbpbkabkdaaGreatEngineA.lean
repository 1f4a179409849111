/- The value semantics of the -/
import Derived.Control
import Derived.Calls
import Derived.Orders
import GoSem.Machine.Frame
import Derived.Laws.AppendOwn
import GoSem.Core.Utf8
import Derived.Below
import Derived.Laws.OwnMore
import Derived.Laws.Rows
import Derived.Deep.Draws
import Derived.Laws.CopyRow
import Derived.Laws.Cells
import Derived.Laws.Sem
import Derived.Maps.AppendAt
import Derived.ArgAppend
import Derived.WalkKit
namespace Go.Vs
abbrev aaY:=@List.getElem?_eq_getElem
abbrev aci:=@List.getElem?_eq_some_iff
abbrev acm:=@List.mem_cons_of_mem
abbrev acp:=@List.mem_cons
abbrev acq:=@List.mem_append_left
abbrev acr:=@Array.getElem?_eq_some_iff
abbrev ac2:=@List.mem_append_right
abbrev ac4:=@List.mem_cons_self
abbrev ac5:=@Option.some.inj
abbrev ac8:=@List.mem_append
abbrev ac9:=@Option.ne_none_iff_exists'
abbrev adh:=@List.mem_of_getElem?
abbrev adi:=@List.nodup_cons
abbrev adj:=@Nat.le_refl
abbrev adq:=@Option.isSome_iff_exists
abbrev adv:=@List.getElem_mem
abbrev adx:=@List.eq_nil_of_length_eq_zero
abbrev ady:=@List.mem_of_find?_eq_some
abbrev adA:=@Array.getElem?_eq_getElem
abbrev adB:=@Nat.mul_le_mul_right
abbrev adC:=@Nat.le_trans
abbrev adE:=@List.mem_map
abbrev adF:=@List.rel_of_pairwise_cons
abbrev adG:=@Option.bind_eq_some_iff
abbrev adK:=@List.all_eq_true
abbrev aee:=@Option.map_eq_some_iff
abbrev aev:=@List.drop_eq_getElem_cons
abbrev aew:=@List.length_filter_le
abbrev aex:=@List.Perm.append_right
abbrev aey:=@List.mem_range
abbrev aez:=@Nat.lt_of_lt_of_le
abbrev aeA:=@List.nodup_append
abbrev aeB:=@List.mem_iff_getElem?
abbrev aeC:=@List.append_of_mem
abbrev aeD:=@List.mem_flatten
abbrev aeE:=@List.find?_some
abbrev aeF:=@Array.mem_of_getElem?
abbrev aeG:=@Nat.zero_le
abbrev aeH:=@Array.all_eq_true_iff_forall_mem
abbrev aeI:=@List.length_pos_of_mem
abbrev aeJ:=@Array.eq_empty_of_size_eq_zero
abbrev aeK:=@List.mem_filter
abbrev aeL:=@List.countP_le_length
abbrev aeM:=@List.getElem?_of_mem
abbrev aeN:=@List.ext_getElem?
abbrev aeO:=@List.getElem_of_mem
abbrev aeP:=@List.perm_middle
abbrev aeQ:=@List.perm_append_comm
abbrev aeR:=@List.pairwise_iff_getElem
abbrev aeS:=@List.mem_of_mem_drop
abbrev aeT:=@Nat.lt_or_ge
abbrev aeU:=@List.drop_eq_nil_of_le
abbrev aeV:=@Nat.mod_lt
abbrev aeW:=@List.Perm.refl
abbrev aeX:=@List.Pairwise.of_cons
abbrev aeY:=@List.mem_of_mem_erase
abbrev aeZ:=@List.mem_erase_of_ne
abbrev ae0:=@List.map_congr_left
abbrev ae1:=@Nat.succ_mul
abbrev ae2:=@List.mem_filterMap
abbrev ae3:=@Nat.mul_le_mul
abbrev ae5:=@List.pairwise_map
inductive K where
 |int (k:IntKind)|bool|str|sl (k:K)|pair (a b:K)|one (k:K)|mp (kk vk:K)
 deriving DecidableEq
def K.T:K→Type
 |.int _=>Int
 |.bool=>Bool
 |.str=>ByteArray
 |.sl k=>List k.T
 |.pair a b=>a.T×b.T
 |.one k=>k.T
 |.mp kk vk=>List (kk.T×vk.T)
def K.sz:K→Nat
 |.pair a b=>a.sz+b.sz
 |.one k=>k.sz
 |_=>1
def qC(P:Program):Nat→TypeId→Option K
 |0,_=>none
 |d+1,t =>
  match P.underlying t with
  |some (.int k)=>some (.int k)
  |some .bool=>some .bool
  |some .string=>some .str
  |some (.slice e)=>(qC P d e).map .sl
  |some (.map a b)=>match qC P d a,qC P d b with
   |some x,some y=>some (.mp x y)
   |_,_=>none
  |some (.struct fs) =>
   match (fs.toList.map fun f=>qC P d f.type).reverse with
   |[]=>none
   |[k]=>k.map .one
   |last::rest=>rest.foldl (fun acc k=>match k,acc with|some k,some a=>some (.pair k a)|_,_=>none) last
  |_=>none
def K.flat:K→Bool
 |.sl _=>false
 |.mp _ _=>false
 |.pair a b=>a.flat&&b.flat
 |.one k=>k.flat
 |_=>true
def K.isAgg:K→Bool
 |.pair _ _=>true
 |.one _=>true
 |_=>false
inductive AV where
 |no
 |bool (b:Bool)
 |int (k:IntKind) (n:Int)
 |str (s:ByteArray)
 |la
 |fZ
 |ref (id s i off:Nat)
 |fp (k:K) (x:k.T) (off:Nat)
 |sl (ex:Bool) (k:K) (xs:List k.T)
 |mp (kk vk:K) (es:List (kk.T×vk.T))
 |bK (id:Nat)
 |fn (f:FuncId) (cap:List AV)
 |agg (cs:List AV)
 |ns (vs:List AV)
def AV.isAgg:AV→Bool
 |.agg _=>true
 |_=>false
def AV.cells:AV→List AV
 |.agg cs=>cs
 |v=>[v]
def enc:(k:K)→k.T→List AV
 |.int ik,n=>[.int ik n]
 |.bool,b=>[.bool b]
 |.str,s=>[.str s]
 |.sl k,xs=>[.sl false k xs]
 |.mp kk vk,es=>[.mp kk vk es]
 |.pair a b,x=>enc a x.1++enc b x.2
 |.one k,x=>enc k x
def Ff(ik:IntKind):List AV→Option (Int×List AV)
 |.int ZE n::r=>if ZE=ik then some (n,r) else none
 |_=>none
def zL:List AV→Option (Bool×List AV)
 |.bool b::r=>some (b,r)
 |_=>none
def Fg:List AV→Option (ByteArray×List AV)
 |.str s::r=>some (s,r)
 |_=>none
def LW(k:K):List AV→Option (List k.T×List AV)
 |.sl _ k' xs::r=>if h:k'=k then some (h▸xs,r) else none
 |.fZ::r=>some ([],r)
 |_=>none
def LY(kk vk:K):List AV→Option (List (kk.T×vk.T)×List AV)
 |.mp LZ Uw es::r=>if h:LZ=kk∧Uw=vk then some (h.1▸h.2▸es,r) else none
 |_=>none
def dec:(k:K)→List AV→Option (k.T×List AV)
 |.int ik,cs=>Ff ik cs
 |.bool,cs=>zL cs
 |.str,cs=>Fg cs
 |.sl k,cs=>LW k cs
 |.mp kk vk,cs=>LY kk vk cs
 |.pair a b,cs =>
  match dec a cs with
  |some (x,r)=>match dec b r with
   |some (y,r')=>some ((x,y),r')
   |none=>none
  |none=>none
 |.one k,cs=>dec k cs
def dL(k:K)(cs:List AV):Option k.T :=match dec k cs with
 |some (x,[])=>some x
 |_=>none
def cp:(k:K)→k.T→AV
 |.pair a b,x=>.agg (enc (.pair a b) x)
 |.one k,x=>.agg (enc (.one k) x)
 |.int ik,n=>.int ik n
 |.bool,b=>.bool b
 |.str,s=>.str s
 |.sl k,xs=>.sl false k xs
 |.mp kk vk,es=>.mp kk vk es
inductive OK where
 |row (ty:TypeId) (k:K)|map (kk vk:K)|iter (kk vk:K)|nW
 deriving DecidableEq
abbrev OK.T:OK→Type
 |.row _ k=>List k.T
 |.map kk vk=>List (kk.T×vk.T)
 |.iter kk vk=>Option (kk.T×vk.T)×List (kk.T×vk.T)
 |.nW=>ByteArray×Nat
inductive Ob where
 |box (ty:TypeId) (cs:List AV)
 |own (ok:OK) (x:ok.T)
abbrev Heap:=List (Nat×Ob)
def Heap.get:Heap→Nat→Option Ob
 |[],_=>none
 |(i,o)::r,n=>if i=n then some o else Heap.get r n
def Heap.del:Heap→Nat→Heap
 |[],_=>[]
 |(i,o)::r,n=>if i=n then Heap.del r n else(i,o)::Heap.del r n
def Heap.set(h:Heap)(n:Nat)(o:Ob):Heap:=(n,o)::h.del n
def cP(h:Heap):AV→AV
 |.bK id=>match h.get id with
  |some (.own (.row _ k) xs)=>.sl false k xs
  |some (.own (.map kk vk) es)=>.mp kk vk es
  |_=>.no
 |v=>v
def drop1(h:Heap):AV→Heap
 |.bK id=>h.del id
 |_=>h
def cM(h:Heap):List AV→Heap
 |[]=>h
 |c::r=>cM (drop1 h c) r
structure St where
 tmps:List (Nat×AV)
 heap:Heap
def look:List (Nat×AV)→Nat→AV
 |[],_=>.no
 |(i,v)::r,n=>if i=n then v else look r n
def St.put(s:St)(d:Option Tmp)(v:AV):St :=match d with
 |some d=>{ s with tmps:=(d,v)::s.tmps }
 |none=>s
def wG:Value→AV
 |.bool b=>.bool b
 |.int k n=>.int k n
 |.string s=>.str s
 |.pointer a=>if a=none then .la else .no
 |.slice a n c=>if a=none∧n=0∧c=0 then .fZ else .no
 |.func fn first cap=>match fn with
  |.func f=>if first.size=0∧cap.size=0 then .fn f [] else .no
  |_=>.no
 |_=>.no
def tG(v:Value):AV :=match v with
 |.agg cs=>.agg (cs.toList.map wG)
 |v=>wG v
def ρ(s:List (Nat×AV)):Operand→AV
 |.tmp t=>look s t
 |.const v=>tG v
 |.global _=>.no
 |.func f=>.fn f []
inductive bL where
 |val (v:AV)
 |new (v:AV) (os:Heap)
 |wr (v:AV) (h:Heap)
def bL.v:bL→AV
 |.val v=>v
 |.new v _=>v
 |.wr v _=>v
def bL.h(h:Heap):bL→Heap
 |.val _=>h
 |.new _ os=>os++h
 |.wr _ h'=>h'
inductive CK where
 |val (k:K)
 |own (ok:OK)
inductive PK where
 |val (k:K)
 |ref
 |own
 |G1 (f:FuncId) (n:Nat)
 |agg (n:Nat)
inductive RK where
 |val (k:K)
 |own (ok:OK)
 |eX (b:Nat) (alts:List (Nat×Nat×Nat))
 |agg (c:List CK)
inductive BK where
 |box (ty:TypeId) (dx:List CK)
 |own (ok:OK)
def BK.dx:BK→List CK
 |.box _ c=>c
 |.own _=>[]
def CK.T:CK→Type
 |.val k=>k.T
 |.own ok=>ok.T
def qD:List CK→Type
 |[]=>Unit
 |c::r=>c.T×qD r
abbrev BK.T:BK→Type
 |.box _ c=>qD c
 |.own ok=>ok.T
def wH:List BK→Type
 |[]=>Unit
 |b::r=>b.T×wH r
def G7:List K→Type
 |[]=>Unit
 |k::r=>k.T×G7 r
def RK.T:RK→Type
 |.val k=>k.T
 |.own ok=>ok.T
 |.eX _ alts=>Option (Fin alts.length×Nat)
 |.agg c=>qD c
def lL:List RK→Type
 |[]=>Unit
 |r::l=>r.T×lL l
def kQ:List PK→List K
 |[]=>[]
 |.val k::r=>k::kQ r
 |_::r=>kQ r
structure aS where
 ps:List PK
 bs:List BK
 rs:List RK
 x:Option (Heap→Nat→List AV→Option (Bool×bL)):=none
abbrev aS.A(g:aS):Type:=G7 (kQ g.ps)×wH g.bs
abbrev aS.B(g:aS):Type:=lL g.rs×wH g.bs
def RK.plain:RK→Bool
 |.val _=>true
 |.own ..=>true
 |.eX ..=>false
 |.agg c=>decide (c.length≤16)
def RK.flat:RK→Bool
 |.val k=>k.flat
 |.own ..=>false
 |.eX ..=>true
 |.agg _=>false
section
variable (P:Program)
def J5:TypeDesc→Bool
 |.struct _=>true
 |.array _ _=>true
 |_=>false
def DU(t:TypeId):Option Bool:=(P.underlying t).map J5
def gX(t:TypeId)(f:Nat):Option (Nat×TypeId) :=match P.underlying t with
 |some (.struct fs)=>(fs[f]?).map fun x=>(x.offset,x.type)
 |_=>none
def yi(t:TypeId):Option TypeId :=match P.underlying t with
 |some (.slice e)=>some e
 |_=>none
def AA(t:TypeId):Option (List AV):=(P.info? t).bind fun i=>i.zero.bind fun z=>if z.cells.toList.all (·.oneCell') then some (tG z).cells else none
def eg(t:TypeId)(cs:List AV):Option AV :=match DU P t with
 |some true=>if P.cellsOf t≤cs.length then some (.agg (cs.take (P.cellsOf t))) else none
 |some false=>match cs with
  |c::_=>some c
  |[]=>none
 |none=>none
def dY{α:Type}(cs:List α):Nat→List α→List α
 |_,[]=>cs
 |off,v::r=>dY (cs.set off v) (off+1) r
def DV(place:Nat→Option (Nat×Nat))(cs:List AV):List (Nat×AV)→Option (List AV)
 |[]=>some cs
 |(i,v)::r =>
  match place i with
  |none=>none
  |some (off,size)=>if v.cells.length≠size∨off+v.cells.length>cs.length then none else DV place (dY cs off v.cells) r
def cX(op:BinOp)(k:IntKind)(a b:Int):Int :=k.wrap ((match op with
  |.and=>BitVec.ofInt k.bits a &&& BitVec.ofInt k.bits b
  |.or=>BitVec.ofInt k.bits a ||| BitVec.ofInt k.bits b
  |.xor=>BitVec.ofInt k.bits a ^^^ BitVec.ofInt k.bits b
  |_=>BitVec.ofInt k.bits a &&& ~~~(BitVec.ofInt k.bits b)).toNat:Int)
def G8(k:IntKind)(a b:Int):Int:=k.wrap (a*2 ^ (min b.toNat k.bits))
def lf(k:IntKind)(a b:Int):Int:=a.fdiv (2 ^ (min b.toNat k.bits))
def XP(op:BinOp)(k:IntKind)(a b:Int):Option AV :=match op with
 |.add=>some (.int k (k.wrap (a+b)))
 |.sub=>some (.int k (k.wrap (a-b)))
 |.mul=>some (.int k (k.wrap (a*b)))
 |.eql=>some (.bool (a==b))
 |.neq=>some (.bool (a != b))
 |.lss=>some (.bool (decide (a<b)))
 |.leq=>some (.bool (decide (a≤b)))
 |.gtr=>some (.bool (decide (a>b)))
 |.geq=>some (.bool (decide (a≥b)))
 |.and=>some (.int k (cX .and k a b))
 |.or=>some (.int k (cX .or k a b))
 |.xor=>some (.int k (cX .xor k a b))
 |.andNot=>some (.int k (cX .andNot k a b))
 |_=>none
def aag(op:BinOp)(a b:ByteArray):Option AV :=match op with
 |.eql=>some (.bool (a==b))
 |.neq=>some (.bool (!(a==b)))
 |_=>none
def rK:(k:K)→k.T→k.T→Bool
 |.int _,x,y=>(show Int from x)==y
 |.bool,x,y=>(show Bool from x)==y
 |.str,x,y=>(show ByteArray from x)==y
 |.sl _,_,_=>false
 |.mp _ _,_,_=>false
 |.pair a b,x,y=>rK a x.1 y.1&&rK b x.2 y.2
 |.one k,x,y=>rK k x y
def tH(kk:K){α:Type}(x:kk.T)(es:List (kk.T×α)):Option Nat:=es.findIdx? fun e=>rK kk x e.1
def jg(kk:K){α:Type}(x:kk.T)(es:List (kk.T×α)):Option α:=(tH kk x es).bind fun i=>(es[i]?).map (·.2)
def mI(kk:K){α:Type}(x:kk.T)(v:α)(es:List (kk.T×α)):List (kk.T×α):=match tH kk x es with
 |some i=>es.set i (x,v)
 |none=>es++[(x,v)]
def PS(kk:K){α:Type}(x:kk.T)(es:List (kk.T×α)):List (kk.T×α):=match tH kk x es with
 |some i=>es.eraseIdx i
 |none=>es
def nX:(k:K)→k.T
 |.int _=>(0:Int)
 |.bool=>false
 |.str=>ByteArray.empty
 |.sl k=>([]:List k.T)
 |.pair a b=>(nX a,nX b)
 |.one k=>nX k
 |.mp kk vk=>([]:List (kk.T×vk.T))
def PT:K→Value→Bool
 |.int ik,.int ZE n=>decide (ZE=ik∧n=0)
 |.bool,.bool b => !b
 |.str,.string s=>decide (s=ByteArray.empty)
 |.sl _,.slice a n c=>decide (a=none∧n=0∧c=0)
 |_,_=>false
def L0(t:TypeId)(k:K):Bool:=match P.info? t with
 |some i=>match i.zero with
  |some z=>PT k z
  |none=>false
 |none=>false
def L3(Eqs:TypeId→Option K)(t:TypeId)(k:K):Bool:=k.flat&&(match k,P.underlying t with
 |.int ik,some (.int ZE)=>decide (ZE=ik)
 |.bool,some .bool=>true
 |.str,some .string=>true
 |k,_=>k.isAgg&&decide (Eqs t=some k))
def mapOf(Eqs:TypeId→Option K)(t:TypeId):Option (K×K):=match P.underlying t with
 |some (.map a b)=>match qC P 8 a,qC P 8 b with
  |some kk,some vk=>if L3 P Eqs a kk&&L0 P b vk then some (kk,vk) else none
  |_,_=>none
 |_=>none
def aT{α:Type}(xs:List α)(i:Int):Option α:=if 0≤i then xs[i.toNat]? else none
def fj:Nat:=1073741824
def aN(n m:Nat):Bool:=decide (n+m≤fj)
def nY(n:Nat)(lo hi:Option AV):Option (Int×Int) :=match lo,hi with
 |none,none=>some (0,(n:Int))
 |some (.int .i64 l),none=>some (l,(n:Int))
 |none,some (.int .i64 h)=>some (0,h)
 |some (.int .i64 l),some (.int .i64 h)=>some (l,h)
 |_,_=>none
def bp(n:Nat)(l h:Int):Bool:=decide (0≤l)&&(decide (l≤h)&&decide (h≤(n:Int)))
def cut{α:Type}(xs:List α)(l h:Int):List α:=(xs.take h.toNat).drop l.toNat
def XQ(s:ByteArray)(l h:Int):ByteArray:=s.extract l.toNat h.toNat
variable {R:Type}
def fX(k:K)(h:Heap)(v:AV):Option k.T:=if k.isAgg=v.isAgg then dL k (v.cells.map (cP h)) else none
def rowOf(h:Heap)(v:AV)(k:K):Option (List k.T) :=match cP h v with
 |.sl _ k' xs=>if e:k'=k then some (e▸xs) else none
 |.fZ=>some []
 |_=>none
def Fh(e:TypeId)(k:K):Bool :=match P.info? e with
 |some i=>(match i.zero with
  |some z=>decide (i.size=k.sz)&&(decide (z.cells.size=k.sz)&&decide (i.bytes≤65536))
  |none=>false)
 |none=>false
def n6(h:Heap)(id:Nat)(t:TypeId)(s x:AV)(K:bL→Option R):Option R :=match yi P t with
 |none=>none
 |some e =>
  match qC P 8 e with
  |none=>none
  |some kk =>
   match rowOf h x kk,Fh P e kk with
   |some ys,true =>
    match s with
    |.fZ=>cond (aN 0 ys.length) (K (.new (.bK id) [(id,.own (.row e kk) ys)])) none
    |.bK cV =>
     match h.get cV with
     |some (.own (.row e' k') xs) =>
      if c:e'=e∧k'=kk then cond (aN xs.length ys.length) (K (.wr (.bK id) ((h.del cV).set id (.own (.row e kk) (c.2▸xs++ys))))) none else none
     |_=>none
    |.sl ex k' xs =>
     if c:k'=kk then cond (ex&&((!ys.isEmpty || xs.isEmpty)&&aN xs.length ys.length)) (K (.new (.bK id) [(id,.own (.row e kk) (c▸xs++ys))])) none else none
    |_=>none
   |_,_=>none
def wJ:AV→Bool
 |.no=>false
 |.agg _=>false
 |.ns _=>false
 |_=>true
def J6(id:Nat):List AV→Bool
 |[]=>true
 |.bK i::r => !(i==id)&&J6 id r
 |_::r=>J6 id r
def stored(h:Heap)(vs:List AV):List AV×Heap:=(vs.map (cP h),cM h vs)
def rL(h:Heap)(t:TypeId)(a v:AV)(K:bL→Option R):Option R :=if v.cells.length=P.cellsOf t∧(P.info? t).isSome∧v.cells.all wJ then
  match a with
  |.ref id s i off =>
   match h.get id with
   |some (.box ty cs)=>if i=0∧off+v.cells.length≤cs.length then K (.wr .no (h.set id (.box ty (dY cs off v.cells)))) else none
   |some (.own (.row ty kk) xs) =>
    (xs[i]?).bind fun x =>if s=kk.sz∧off+v.cells.length≤kk.sz∧J6 id v.cells then
      match dL kk (dY (enc kk x) off (stored h v.cells).1) with
      |some y=>K (.wr .no ((stored h v.cells).2.set id (.own (.row ty kk) (xs.set i y))))
      |none=>none
     else none
   |_=>none
  |_=>none
 else none
def lM(h:Heap)(t:TypeId)(a:AV)(K:bL→Option R):Option R :=match a with
 |.ref id s i off =>
  match h.get id with
  |some (.box _ cs)=>if i=0 then(match eg P t (cs.drop off) with|some v=>K (.val v)|none=>none) else none
  |some (.own (.row _ kk) xs)=>if s=kk.sz then(xs[i]?).bind fun x=>match eg P t ((enc kk x).drop off) with|some v=>K (.val v)|none=>none else none
  |_=>none
 |.fp kk x off=>match eg P t ((enc kk x).drop off) with|some v=>K (.val v)|none=>none
 |_=>none
def dC(h:Heap)(t:TypeId)(x i:AV)(K:bL→Option R):Option R :=match yi P t with
 |none=>none
 |some e =>
  match x,i with
  |.sl _ kk xs,.int _ n=>if P.cellsOf e=kk.sz then(aT xs n).bind fun y=>K (.val (.fp kk y 0)) else none
  |.bK id,.int _ n =>
   match h.get id with
   |some (.own (.row _ kk) xs)=>if P.cellsOf e=kk.sz then cond (decide (0≤n)&&decide (n<(xs.length:Int))) (K (.val (.ref id kk.sz n.toNat 0))) none else none
   |_=>none
  |_,_=>none
def wK(x:AV)(lo hi mx:Option AV)(K:bL→Option R):Option R :=match x,mx with
 |.str s,none =>
  match nY s.size lo hi with
  |some (l,u)=>cond (bp s.size l u) (K (.val (.str (XQ s l u)))) none
  |none=>none
 |_,_=>none
def o5(_:Heap)(sz:Nat)(x:AV)(lo hi mx:Option AV)(K:bL→Option R):Option R :=match x with
 |.fZ =>
  match nY 0 lo hi,mx with
  |some (l,u),none=>cond (bp 0 l u) (K (.val .fZ)) none
  |_,_=>none
 |.sl _ kk xs =>
  if sz=kk.sz then
   match nY xs.length lo hi with
   |some (l,u) =>
    match mx with
    |none=>cond (bp xs.length l u) (K (.val (.sl false kk (cut xs l u)))) none
    |some (.int .i64 m)=>cond (bp xs.length l u&&(hi.isSome&&decide (m=u))) (K (.val (.sl true kk (cut xs l u)))) none
    |_=>none
   |none=>none
  else none
 |_=>none
def XR(t:TypeId)(x:AV):Bool :=match P.underlying t,x with
 |some .string,.str _=>true
 |some (.slice _),.str _=>false
 |some (.slice _),_=>true
 |_,_=>false
def J7(t:TypeId):Bool :=match P.underlying t with
 |some (.map _ _)=>true
 |_=>false
def DW(h:Heap)(x:AV)(K:bL→Option R):Option R :=match cP h x with
 |.str s=>K (.val (.int .i64 (s.size:Int)))
 |.sl _ _ xs=>K (.val (.int .i64 (xs.length:Int)))
 |.fZ=>K (.val (.int .i64 0))
 |_=>none
def wL(h:Heap)(x:AV)(K:bL→Option R):Option R :=match cP h x with
 |.mp _ _ es=>K (.val (.int .i64 (es.length:Int)))
 |_=>none
def lx(Eqs:TypeId→Option K)(id:Nat)(t:TypeId)(K:bL→Option R):Option R :=match mapOf P Eqs t with
 |some (kk,vk)=>K (.new (.bK id) [(id,.own (.map kk vk) [])])
 |none=>none
def n8(Eqs:TypeId→Option K)(h:Heap)(t:TypeId)(m i:AV)(ok:Bool)(K:bL→Option R):Option R :=match mapOf P Eqs t,cP h m with
 |some (kk,vk),.mp LZ Uw es =>
  if c:LZ=kk∧Uw=vk then
   match fX kk h i with
   |some x=>K (.val (cond ok (.ns [cp vk ((jg kk x (c.1▸c.2▸es:List (kk.T×vk.T))).getD (nX vk)),.bool (jg kk x (c.1▸c.2▸es:List (kk.T×vk.T))).isSome]) (cp vk ((jg kk x (c.1▸c.2▸es:List (kk.T×vk.T))).getD (nX vk)))))
   |none=>none
  else none
 |_,_=>none
def iK(Eqs:TypeId→Option K)(h:Heap)(t:TypeId)(m i v:AV)(K:bL→Option R):Option R :=match mapOf P Eqs t,m with
 |some (kk,vk),.bK id =>
  match h.get id with
  |some (.own (.map LZ Uw) es) =>
   if c:LZ=kk∧Uw=vk then
    match fX kk h i,fX vk h v,(v.cells.all fun c=>match c with | .bK j => !(j==id)|_=>true) with
    |some x,some y,true=>K (.wr (.ns []) ((cM h v.cells).set id (.own (.map kk vk) (mI kk x y (c.1▸c.2▸es:List (kk.T×vk.T))))))
    |_,_,_=>none
   else none
  |_=>none
 |_,_=>none
def oa(Eqs:TypeId→Option K)(h:Heap)(t:TypeId)(m i:AV)(K:bL→Option R):Option R :=match mapOf P Eqs t,m with
 |some (kk,vk),.bK id =>
  match h.get id with
  |some (.own (.map LZ Uw) es) =>
   if c:LZ=kk∧Uw=vk then
    match fX kk h i with
    |some x=>K (.wr (.ns []) (h.set id (.own (.map kk vk) (PS kk x (c.1▸c.2▸es:List (kk.T×vk.T))))))
    |none=>none
   else none
  |_=>none
 |_,_=>none
def oc(id:Nat)(t:TypeId)(x:AV)(K:bL→Option R):Option R :=match P.underlying t,x with
 |some .string,.str s=>K (.new (.bK id) [(id,.own .nW (s,0))])
 |_,_=>none
def o6(s:ByteArray)(p:Nat):Int:=(Utf8.decode s p).1
def AB(s:ByteArray)(p:Nat):Nat:=(Utf8.decode s p).2
def rM(h:Heap)(x:AV)(K:bL→Option R):Option R :=match x with
 |.bK id=>match h.get id with
  |some (.own .nW x)=>cond (decide (x.2<x.1.size)) (K (.wr (.ns [.bool true,.int .i64 (x.2:Int),.int .i32 (o6 x.1 x.2)]) (h.set id (.own .nW (x.1,x.2+AB x.1 x.2))))) (K (.val (.ns [.bool false])))
  |_=>none
 |_=>none
def rN(h:Heap)(x:AV)(K:bL→Option R):Option R :=match x with
 |.bK id=>match h.get id with
  |some (.own (.iter kk vk) (some c,_))=>K (.val (.ns [cp kk c.1,cp vk c.2]))
  |_=>none
 |_=>none
def Fi:TypeDesc→Bool
 |.bool=>true
 |_=>false
def wM:TypeDesc→Bool
 |.pointer _=>true
 |_=>false
def yj(Eqs:TypeId→Option K)(op:BinOp)(t:TypeId)(x y:AV)(K:bL→Option R):Option R :=match x,y with
 |.int k a,.int k' b =>
  match op with
  |.shl=>cond (decide (b<0)) none (K (.val (.int k (G8 k a b))))
  |.shr=>cond (decide (b<0)) none (K (.val (.int k (lf k a b))))
  |op =>
  if k=k' then
   match op with
   |.quo=>cond (b==0) none (K (.val (.int k (k.wrap (a.tdiv b)))))
   |.rem=>cond (b==0) none (K (.val (.int k (a.tmod b))))
   |op=>match XP op k a b with
    |some v=>K (.val v)
    |none=>none
  else none
 |.str a,.str b=>match aag op a b with
  |some v=>K (.val v)
  |none=>none
 |.bool a,.bool b =>
  match op,(P.underlying t).map Fi with
  |.eql,some true=>K (.val (.bool (a==b)))
  |.neq,some true=>K (.val (.bool (!(a==b))))
  |_,_=>none
 |.agg a,.agg b =>
  match Eqs t with
  |none=>none
  |some k =>
   match op,dL k a,dL k b with
   |.eql,some x,some y=>K (.val (.bool (rK k x y)))
   |.neq,some x,some y=>K (.val (.bool (!(rK k x y))))
   |_,_,_=>none
 |.la,.la =>
  match op,(P.underlying t).map wM with
  |.eql,some true=>K (.val (.bool true))
  |.neq,some true=>K (.val (.bool false))
  |_,_=>none
 |.ref ..,.la =>
  match op,(P.underlying t).map wM with
  |.eql,some true=>K (.val (.bool false))
  |.neq,some true=>K (.val (.bool true))
  |_,_=>none
 |_,_=>none
def Wv(b:Bool)(x y:AV):AV :=match x,y with
 |.bool p,.bool q=>.bool (cond b p q)
 |x,y=>cond b x y
end
def dX(h:Heap)(ok:OK)(c:AV):Option ok.T :=match c with
 |.fZ=>match ok with
  |.row _ _=>some []
  |_=>none
 |.bK id=>match h.get id with
  |some (.own ZF x)=>if e:ZF=ok then some (e▸x) else none
  |_=>none
 |_=>none
def o8:AV→List Nat
 |.bK id=>[id]
 |_=>[]
def cQ:(dx:List CK)→Heap→List AV→Option (qD dx)
 |[],_,[]=>some ()
 |.val k::r,h,cs =>
  match dL k ((cs.take k.sz).map (cP h)),cQ r h (cs.drop k.sz) with
  |some x,some y=>some (x,y)
  |_,_=>none
 |.own ok::r,h,c::cs =>
  match dX h ok c,cQ r h cs with
  |some x,some y=>some (x,y)
  |_,_=>none
 |_,_,_=>none
def ql:List CK→List AV→List AV
 |.val k::r,cs=>cs.take k.sz++ql r (cs.drop k.sz)
 |.own _::r,_::cs=>ql r cs
 |_,_=>[]
def fT:List CK→List AV→List Nat
 |.val k::r,cs=>fT r (cs.drop k.sz)
 |.own _::r,c::cs=>o8 c++fT r cs
 |_,_=>[]
def aI:(dx:List CK)→Nat→qD dx→List AV
 |[],_,_=>[]
 |.val k::r,n,x=>enc k x.1++aI r (n+1) x.2
 |.own _::r,n,x=>.bK n::aI r (n+1) x.2
def bm:(dx:List CK)→Nat→qD dx→Heap
 |[],_,_=>[]
 |.val _::r,n,x=>bm r (n+1) x.2
 |.own ok::r,n,x=>(n,.own ok x.1)::bm r (n+1) x.2
def DX(h:Heap)(id:Nat)(ty:TypeId):Option (List AV) :=match h.get id with
 |some (.box zn cs)=>if zn=ty then some cs else none
 |_=>none
def qm:(b:BK)→Heap→Nat→Option b.T
 |.box ty c,h,i=>match DX h i ty with
  |some cs=>cQ c h cs
  |none=>none
 |.own ok,h,i=>dX h ok (.bK i)
def dd:(bs:List BK)→Heap→List Nat→Option (wH bs)
 |[],_,[]=>some ()
 |b::r,h,i::is =>
  match qm b h i,dd r h is with
  |some x,some y=>some (x,y)
  |_,_=>none
 |_,_,_=>none
def jh:(b:BK)→Nat→Nat→b.T→Heap
 |.box ty c,i,n,x=>(i,.box ty (aI c n x))::bm c n x
 |.own ok,i,_,x=>[(i,.own ok x)]
def bC:(bs:List BK)→List Nat→Nat→wH bs→Heap
 |b::r,i::is,n,x=>jh b i n x.1++bC r is (n+16) x.2
 |_,_,_,_=>[]
def AD:BK→Heap→Nat→List AV
 |.box _ c,h,i=>match h.get i with
  |some (.box _ cs)=>ql c cs
  |_=>[]
 |.own _,_,_=>[]
def gh:List BK→Heap→List Nat→List AV
 |b::r,h,i::is=>AD b h i++gh r h is
 |_,_,_=>[]
def j9:BK→Heap→Nat→List Nat
 |.box _ c,h,i=>i::(match h.get i with
  |some (.box _ cs)=>fT c cs
  |_=>[])
 |.own _,_,i=>[i]
def de:List BK→Heap→List Nat→List Nat
 |b::r,h,i::is=>j9 b h i++de r h is
 |_,_,_=>[]
def gY(h:Heap):List Nat→Heap
 |[]=>h
 |i::r=>gY (h.del i) r
def DY:AV→Option Nat
 |.ref id _ 0 0=>some id
 |_=>none
def jL:List AV→Option (List Nat)
 |[]=>some []
 |v::r=>match DY v,jL r with
  |some i,some is=>some (i::is)
  |_,_=>none
def o9:List AV→Option (List Nat)
 |[]=>some []
 |.bK i::r=>match o9 r with
  |some is=>some (i::is)
  |none=>none
 |_=>none
def cI:List PK→List AV→Option (List Nat)
 |[],[]=>some []
 |.val _::ps,_::vs=>cI ps vs
 |.ref::ps,v::vs=>match DY v,cI ps vs with
  |some i,some is=>some (i::is)
  |_,_=>none
 |.own::ps,.bK i::vs=>match cI ps vs with
  |some is=>some (i::is)
  |none=>none
 |.G1 f n::ps,.fn f' cap::vs =>
  if f'=f∧cap.length=n then match jL cap,cI ps vs with
   |some a,some b=>some (a++b)
   |_,_=>none
  else none
 |.agg n::ps,.agg cs::vs =>
  if cs.length=n then match o9 cs,cI ps vs with
   |some a,some b=>some (a++b)
   |_,_=>none
  else none
 |_,_=>none
def eT:(ps:List PK)→Heap→List AV→Option (G7 (kQ ps))
 |[],_,[]=>some ()
 |.val k::ps,h,v::vs =>
  match fX k h v,eT ps h vs with
  |some x,some y=>some (x,y)
  |_,_=>none
 |.ref::ps,h,_::vs=>eT ps h vs
 |.own::ps,h,_::vs=>eT ps h vs
 |.G1 _ _::ps,h,_::vs=>eT ps h vs
 |.agg _::ps,h,_::vs=>eT ps h vs
 |_,_,_=>none
def dw:List PK→List AV→List AV
 |.val _::ps,v::vs=>v.cells++dw ps vs
 |_::ps,_::vs=>dw ps vs
 |_,_=>[]
def aZ:(ps:List PK)→(ids:List Nat)→Nat→G7 (kQ ps)→List (Nat×AV)
 |[],_,_,_=>[]
 |.val k::ps,ids,s,x=>(s,cp k x.1)::aZ ps ids (s+1) x.2
 |.ref::ps,i::ids,s,x=>(s,.ref i 0 0 0)::aZ ps ids (s+1) x
 |.ref::ps,[],s,x=>(s,.no)::aZ ps [] (s+1) x
 |.own::ps,i::ids,s,x=>(s,.bK i)::aZ ps ids (s+1) x
 |.own::ps,[],s,x=>(s,.no)::aZ ps [] (s+1) x
 |.G1 f n::ps,ids,s,x=>(s,.fn f ((ids.take n).map fun i=>.ref i 0 0 0))::aZ ps (ids.drop n) (s+1) x
 |.agg n::ps,ids,s,x=>(s,.agg ((ids.take n).map .bK))::aZ ps (ids.drop n) (s+1) x
def mP:List CK→Nat→Nat
 |.val k::r,c+1=>k.sz+mP r c
 |.own _::r,c+1=>1+mP r c
 |_,_=>0
def fY:List CK→Nat→Bool
 |.own (.row _ _)::_,0=>true
 |_::r,c+1=>fY r c
 |_,_=>false
def PU(id:Nat):Option AV→Bool
 |some (.bK mJ)=>mJ==id
 |_=>false
def yk(c:List CK)(cs:List AV)(id s off:Nat)(a:Nat×Nat×Nat):Bool :=PU id (cs[mP c a.1]?)&&(decide (s=a.2.1)&&(decide (off=a.2.2)&&fY c a.1))
def nt(bs:List BK)(h:Heap)(ids:List Nat)(b:Nat)(alts:List (Nat×Nat×Nat))(v:AV):Option (Option (Fin alts.length×Nat)) :=match v with
 |.la=>some none
 |.ref id s i off =>
  (match ids[b]?,bs[b]? with
  |some bi,some bk=>(match h.get bi with
   |some (.box _ cs)=>(match (List.finRange alts.length).find? (fun a=>yk bk.dx cs id s off (alts.get a)) with
    |some a=>some (some (a,i))
    |none=>none)
   |_=>none)
  |_,_=>none)
 |_=>none
def AE(c:List CK)(h:Heap)(v:AV):Option (qD c) :=match v with
 |.agg cs=>cQ c h cs
 |_=>none
def bM(bs:List BK):(rs:List RK)→Heap→List Nat→List AV→Option (lL rs)
 |[],_,_,[]=>some ()
 |.val k::r,h,ids,v::vs =>
  match fX k h v,bM bs r h ids vs with
  |some x,some y=>some (x,y)
  |_,_=>none
 |.own ok::r,h,ids,v::vs =>
  match dX h ok v,bM bs r h ids vs with
  |some x,some y=>some (x,y)
  |_,_=>none
 |.eX b alts::r,h,ids,v::vs =>
  match nt bs h ids b alts v,bM bs r h ids vs with
  |some x,some y=>some (x,y)
  |_,_=>none
 |.agg c::r,h,ids,v::vs =>
  match AE c h v,bM bs r h ids vs with
  |some x,some y=>some (x,y)
  |_,_=>none
 |_,_,_,_=>none
def gi:List RK→List AV→List AV
 |.val _::r,v::vs=>v.cells++gi r vs
 |.agg c::r,v::vs=>ql c v.cells++gi r vs
 |_::r,_::vs=>gi r vs
 |_,_=>[]
def dS:List RK→List AV→List Nat
 |.own _::r,v::vs=>o8 v++dS r vs
 |.agg c::r,v::vs=>fT c v.cells++dS r vs
 |_::r,_::vs=>dS r vs
 |_,_=>[]
def uK(b n:Nat)(alts:List (Nat×Nat×Nat)):Option (Fin alts.length×Nat)→AV
 |none=>.la
 |some (a,i)=>.ref (n+16*b+(alts.get a).1) (alts.get a).2.1 i (alts.get a).2.2
def bf:(rs:List RK)→(ids:List Nat)→(n m:Nat)→lL rs→List AV
 |[],_,_,_,_=>[]
 |.val k::r,ids,n,m,x=>cp k x.1::bf r ids n (m+1) x.2
 |.agg c::r,ids,n,m,x=>.agg (aI c m x.1)::bf r ids n (m+1) x.2
 |.own _::r,ids,n,m,x=>.bK m::bf r ids n (m+1) x.2
 |.eX b alts::r,ids,n,m,x=>uK b n alts x.1::bf r ids n (m+1) x.2
def ak:(rs:List RK)→(m:Nat)→lL rs→Heap
 |[],_,_=>[]
 |.own ok::r,m,x=>(m,.own ok x.1)::ak r (m+1) x.2
 |.agg c::r,m,x=>bm c m x.1++ak r (m+1) x.2
 |.val _::r,m,x=>ak r (m+1) x.2
 |.eX _ _::r,m,x=>ak r (m+1) x.2
def fh:List AV→AV
 |[v]=>v
 |vs=>.ns vs
def cq:List CK→Nat→List Nat
 |[],_=>[]
 |.val _::r,n=>cq r (n+1)
 |.own _::r,n=>n::cq r (n+1)
def cc:List BK→List Nat→Nat→List Nat
 |b::r,i::is,n=>i::(cq b.dx n++cc r is (n+16))
 |_,_,_=>[]
def bD:List RK→Nat→List Nat
 |[],_=>[]
 |.own _::r,m=>m::bD r (m+1)
 |.agg c::r,m=>cq c m++bD r (m+1)
 |.val _::r,m=>bD r (m+1)
 |.eX _ _::r,m=>bD r (m+1)
def aU(n:Nat):List Nat:=(List.range n).map fun i=>1000+20*i
def qE(g:aS):List Nat:=cc g.bs (aU g.bs.length) 2000++bD g.rs 3000
def G9:List AV→Bool
 |[]=>true
 |.bK _::_=>false
 |_::r=>G9 r
def qF:List AV→Bool
 |[]=>true
 |v::r=>G9 v.cells&&qF r
def cj:List Nat→Bool
 |[]=>true
 |i::r => !(r.contains i)&&cj r
def wN(kept:List Nat)(kO:List AV):Bool:=cj kept&&kept.all fun i=>J6 i kO
section
variable (P:Program) (Eqs:TypeId→Option K) (Sg:FuncId→Option aS) (F:(f:FuncId)→(g:aS)→g.A→Option g.B)
variable {R:Type}
def tI(f:FuncId):List AV→FuncId
 |[]=>f
 |.fn g _::_=>f+1000*(g+1)
 |_::r=>tI f r
def AF:List AV→Bool
 |[]=>false
 |.bK _::_=>true
 |.agg cs::r=>(cs.any fun c=>match c with | .bK _=>true|_=>false) || AF r
 |_::r=>AF r
def keyOf(f:FuncId)(vs:List AV):FuncId:=if AF vs&&(Sg (tI f vs+500000)).isSome then tI f vs+500000 else tI f vs
def Du(bs:List BK)(r:RK):Bool:=match r with
 |.eX b alts=>match bs[b]? with
  |some bk=>(alts.all fun a=>fY bk.dx a.1)&&decide ((alts.map fun a=>(a.1,a.2.2)).Nodup)
  |none=>false
 |.agg c=>decide (c.length≤16)
 |_=>true
def qG(bs:List BK)(rs:List RK):Bool:=rs.all (Du bs)
def PV(f:FuncId)(g:aS):Bool:=qG g.bs g.rs&&( (decide (g.bs.length≤8)&&(g.bs.all fun b=>decide (b.dx.length≤16)))&&((decide (g.rs.length≤100)&&decide (f<1000))&&cj (qE g)))
def qH{α R:Type}(o:Option α)(a:Option R)(f:α→Option R):Option R:=match o with
 |none=>a
 |some x=>f x
def aah{R:Type}(n:Nat)(a:Fin n)(f:Fin n→Option R):Option R:=(List.finRange n).foldr (fun j r=>cond (a.val==j.val) (f j) r) none
def jM{R:Type}:(rs:List RK)→lL rs→(lL rs→Option R)→Option R
 |[],_,K=>K ()
 |.eX _ alts::r,x,K=>qH x.1 (jM r x.2 fun z=>K (none,z)) (fun p=>aah alts.length p.1 fun a=>jM r x.2 fun z=>K (some (a,p.2),z))
 |.val _::r,x,K=>jM r x.2 fun z=>K (x.1,z)
 |.own _::r,x,K=>jM r x.2 fun z=>K (x.1,z)
 |.agg _::r,x,K=>jM r x.2 fun z=>K (x.1,z)
def ji(h:Heap)(id:Nat)(f:FuncId)(vs:List AV)(K:bL→Option R):Option R :=match Sg (keyOf Sg f vs) with
 |none=>none
 |some g=>match g.x with
 |some u=>if f<1000 then(u h id vs).bind fun p=>cond p.1 (K p.2) none else none
 |none =>
  match cI g.ps vs,PV f g with
  |some is,true =>
   if is.isEmpty&&g.rs.all RK.plain then
   match eT g.ps h vs,dd g.bs h [],g.rs.all RK.plain with
   |some x,some b,true =>
    (F (keyOf Sg f vs) g (x,b)).bind fun y =>cond (g.rs.all RK.flat || qF vs) (K (.new (fh (bf g.rs [] id (id+128) y.1)) (ak g.rs (id+128) y.1))) (K (.wr (fh (bf g.rs [] id (id+128) y.1)) (ak g.rs (id+128) y.1++cM h (dw g.ps vs))))
   |_,_,_=>none
   else
   match eT g.ps h vs,dd g.bs h is,wN (de g.bs h is) (dw g.ps vs++gh g.bs h is)&&cj (cc g.bs is id++bD g.rs (id+128)) with
   |some x,some b,true =>
    (F (keyOf Sg f vs) g (x,b)).bind fun y=>jM g.rs y.1 fun z =>K (.wr (fh (bf g.rs is id (id+128) z)) (bC g.bs is id y.2++(ak g.rs (id+128) z++gY (cM h (dw g.ps vs++gh g.bs h is)) (de g.bs h is))))
   |_,_,_=>none
  |_,_=>none
def qI{α:Type}(xs:List α)(i:Int)(ys:List α):Bool:=decide (0≤i)&&(decide (i≤xs.length)&&(decide (ys.length=1)&&aN xs.length ys.length))
def gj{α:Type}(xs:List α)(i:Int)(ys:List α):List α:=xs.take i.toNat++(ys++xs.drop i.toNat)
def jG{α:Type}(xs:List α)(i j:Int):Bool:=decide (0≤i)&&(decide (i<j)&&(decide (j≤xs.length)&&aN xs.length 0))
def dy{α:Type}(xs:List α)(i j:Int):List α:=xs.take i.toNat++xs.drop j.toNat
def qJ(n:Int):Bool:=decide (0≤n)&&decide (n≤fj)
def PW(ty:TypeId)(k:K)(h:Heap)(id:Nat):List AV→Option (Bool×bL)
 |[.bK o,.int .i64 i,.bK j]=>match dX h (.row ty k) (.bK o),dX h (.row ty k) (.bK j) with
  |some xs,some ys=>if o=j then none else some (qI xs i ys,.wr (.bK id) ((id,.own (.row ty k) (gj xs i ys))::h.del o))
  |_,_=>none
 |_=>none
def Ux(ty:TypeId)(k:K)(h:Heap)(id:Nat):List AV→Option (Bool×bL)
 |[.bK o,.int .i64 i,.int .i64 j]=>match dX h (.row ty k) (.bK o) with
  |some xs=>some (jG xs i j,.wr (.bK id) ((id,.own (.row ty k) (dy xs i j))::h.del o))
  |none=>none
 |_=>none
def L4(ty:TypeId)(k:K)(_:Heap)(id:Nat):List AV→Option (Bool×bL)
 |[.fZ,.int .i64 n]=>some (qJ n,.new (.bK id) [(id,.own (.row ty k) [])])
 |_=>none
def wO(id:Nat)(t:TypeId)(vs:List AV)(K:bL→Option R):Option R :=K (.new (.ref id vs.length 0 0) [(id,.box t vs)])
def Ww:AV→Bool
 |.no=>false
 |_=>true
def rO(t:TypeId)(parts:List (Nat×AV))(K:bL→Option R):Option R :=match AA P t,P.underlying t with
 |some z,some (.struct fs) =>
  match DV (fun i=>(fs[i]?).map fun f=>(f.offset,P.cellsOf f.type)) z parts,fs.toList.all (fun f=>(P.info? f.type).isSome)&&parts.all (fun p=>Ww p.2) with
  |some cs,true=>K (.val (.agg cs))
  |_,_=>none
 |_,_=>none
def qK(k:K)(h:Heap):Nat→List (Nat×AV)→Option (List k.T)
 |_,[]=>some []
 |i,(j,v)::r =>
  if j=i then match dL k (v.cells.map (cP h)),qK k h (i+1) r with
   |some x,some xs=>some (x::xs)
   |_,_=>none
  else none
def uL(h:Heap)(id:Nat)(t:TypeId)(n:Nat)(parts:List (Nat×AV))(K:bL→Option R):Option R :=match yi P t with
 |none=>none
 |some e =>
  match qC P 8 e with
  |none=>none
  |some k =>
   match qK k h 0 parts,Fh P e k with
   |none,_=>none
   |some _,false=>none
   |some xs,true =>
    if parts.length=n∧n*k.sz≤1048576 then
     cond (qF (parts.map (·.2))) (K (.new (.bK id) [(id,.own (.row e k) xs)])) (K (.wr (.bK id) ((id,.own (.row e k) xs)::cM h (parts.flatMap (·.2.cells)))))
    else none
def Uy:bL→bL
 |.new (.bK _) [(_,.own (.row _ k) xs)]=>.new (.sl true k xs) []
 |e=>e
def wP(kO:Bool)(h:Heap)(id:Nat)(t:TypeId)(n:Nat)(parts:List (Nat×AV))(K:bL→Option R):Option R :=uL P h id t n parts fun e=>K (if kO then Uy e else e)
def AG(src dst:TypeId)(x:AV)(K:bL→Option R):Option R :=match P.underlying src,P.underlying dst,x with
 |some (.int _),some (.int k),.int _ n=>K (.val (.int k (k.wrap n)))
 |some .string,some .string,.str s=>K (.val (.str s))
 |_,_,_=>none
def Nq(mx:Bool)(vs:List AV)(K:bL→Option R):Option R :=match vs with
 |[.int k a,.int k' b]=>if k=k' then K (.val (.int k (cond mx (max a b) (min a b)))) else none
 |_=>none
def Wx(t id:Nat):Bool:=(Sg (900000+t)).isSome&&(Sg (2000003+1000*(id / 256-128))).isSome
def cY(id:Nat)(h:Heap)(s:List (Nat×AV))(o:Oper)(K:bL→Option R):Option R :=match o.op with
 |.move x | .assign x=>K (.val (ρ s x))
 |.pick c a b=>match ρ s c with
  |.bool t=>K (.val (Wv t (ρ s a) (ρ s b)))
  |_=>none
 |.box t x=>if(ρ s x).cells.all wJ then wO id t (ρ s x).cells K else none
 |.alloc t=>match AA P t with
  |some z=>wO id t z K
  |none=>none
 |.build t ps=>rO P t (ps.toList.map fun p=>(p.1,ρ s p.2)) K
 |.buildSlice t n ps=>wP P (Wx Sg t id) h id t n (ps.toList.map fun p=>(p.1,ρ s p.2)) K
 |.load t a=>lM P h t (ρ s a) K
 |.store t a v=>rL P h t (ρ s a) (ρ s v) K
 |.nilCheck x=>match ρ s x with
  |.ref id s i off=>K (.val (.ref id s i off))
  |.fp k x off=>K (.val (.fp k x off))
  |.fn f cap=>K (.val (.fn f cap))
  |_=>none
 |.binOp op t x y _=>yj P Eqs op t (ρ s x) (ρ s y) K
 |.unOp .not _ x=>match ρ s x with
  |.bool b=>K (.val (.bool (!b)))
  |_=>none
 |.convert src dst x=>AG P src dst (ρ s x) K
 |.makeFunc (.func f) first cap=>if first.size=0 then K (.val (.fn f (cap.toList.map (ρ s)))) else none
 |.slice t x lo hi mx=>match P.underlying t with
  |some .string=>wK (ρ s x) (lo.map (ρ s)) (hi.map (ρ s)) (mx.map (ρ s)) K
  |some (.slice e)=>if(P.info? e).isSome then o5 h (P.cellsOf e) (ρ s x) (lo.map (ρ s)) (hi.map (ρ s)) (mx.map (ρ s)) K else none
  |_=>none
 |.fieldAddr t x f=>match gX P t f,ρ s x with
  |some (n,ft),.ref id s i off=>if P.cellsOf ft=0 then none else K (.val (.ref id s i (off+n)))
  |some (n,ft),.fp k x off=>if P.cellsOf ft=0 then none else K (.val (.fp k x (off+n)))
  |_,_=>none
 |.field t x f=>match gX P t f,ρ s x with
  |some (n,ft),.agg cs=>match eg P ft (cs.drop n) with
   |some v=>K (.val v)
   |none=>none
  |_,_=>none
 |.indexAddr t x i=>dC P h t (ρ s x) (ρ s i) K
 |.index t x i=>match P.underlying t,ρ s x,ρ s i with
  |some .string,.str b,.int _ n=>(if 0≤n then b[n.toNat]? else none).bind fun c=>K (.val (.int .u8 (c.toNat:Int)))
  |_,_,_=>none
 |.makeMap t none=>lx P Eqs id t K
 |.lookup t m i ok=>n8 P Eqs h t (ρ s m) (ρ s i) ok K
 |.mapUpdate t m i v=>iK P Eqs h t (ρ s m) (ρ s i) (ρ s v) K
 |.range t x=>oc P id t (ρ s x) K
 |.next x true=>rM h (ρ s x) K
 |.entry x=>rN h (ρ s x) K
 |.extract t i=>match ρ s t with
  |.ns vs=>match vs[i]? with
   |some v=>K (.val v)
   |none=>none
  |_=>none
 |.call c =>
  match c.callee with
  |.value f=>match ρ s f with
   |.fn f cap=>ji Sg F h id f (c.args.toList.map (ρ s)++cap) K
   |_=>none
  |.builtin .len=>match c.args.toList,c.argTypes.toList with
   |[x],[t]=>if J7 P t then wL h (ρ s x) K else if XR P t (ρ s x) then DW h (ρ s x) K else none
   |_,_=>none
  |.builtin .append=>match c.args.toList,c.argTypes.toList with
   |[x,y],[t,t']=>if t'=t then n6 P h id t (ρ s x) (ρ s y) K else none
   |_,_=>none
  |.builtin .delete=>match c.args.toList,c.argTypes.toList with
   |[m,x],t::_=>oa P Eqs h t (ρ s m) (ρ s x) K
   |_,_=>none
  |.builtin .max=>Nq true (c.args.toList.map (ρ s)) K
  |.builtin .min=>Nq false (c.args.toList.map (ρ s)) K
  |_=>none
 |_=>none
def nu:Op→Bool
 |.move _ | .assign _ | .extract .. | .unOp .. | .pick .. | .fieldAddr .. | .nilCheck _ | .makeFunc .. | .build .. | .slice ..=>true
 |.binOp op ..=>match op with
  |.eql | .neq=>false
  |_=>true
 |_=>false
def makes:Op→Bool
 |.box .. | .alloc _ | .buildSlice .. | .makeMap .. | .range ..=>true
 |.call c=>match c.callee with
  |.builtin .append | .value _=>true
  |_=>false
 |_=>false
def opId(rid i:Nat):Nat:=((rid+1)*128+i)*256
def uM(ops:Array Oper)(b:Array Nat):Bool :=(List.range ops.size).all fun i=>match ops[i]? with
  |some o=>(o.after.toList.all fun e => !Region.binds .any e || decide (e.on<i)) && b.getD i 0==o.after.toList.foldl (fun s e=>if Region.binds .any e then s ||| 2 ^ e.on ||| b.getD e.on 0 else s) 0
  |none=>false
def AH(ops:Array Oper)(b:Array Nat):Bool :=(List.range ops.size).all fun j=>(List.range j).all fun i =>(b.getD j 0).testBit i || (match ops[i]?,ops[j]? with
   |some x,some y=>x.apart ops y
   |_,_=>false)
def jk:Op→Option Operand
 |.load _ x=>some x
 |.indexAddr _ x _=>some x
 |_=>none
def Fj:Op→Bool
 |.store ..=>true
 |.call c=>match c.callee with
  |.value _=>true
  |_=>false
 |_=>false
def uN(ops:Array Oper)(i j:Nat):Bool :=match (ops[j]?).bind (jk ·.op) with
 |some (.tmp d)=>(List.range ops.size).all fun m => !(decide (min i j≤m)&&decide (m<max i j)) || (match (ops[m]?).bind (·.dst) with|some d'=>d' != d|none=>true)
 |some _=>true
 |none=>false
def uO:AV→List Nat
 |.ref id _ _ _=>[id]
 |.bK id=>[id]
 |_=>[]
def XS(ops:Array Oper)(b:Array Nat)(i:Nat)(tmps:List (Nat×AV)):List Nat :=(List.range ops.size).flatMap fun j=>if j==i || (b.getD j 0).testBit i || (b.getD i 0).testBit j then[] else match (ops[j]?).bind (jk ·.op) with
  |some x=>uO (ρ tmps x)
  |none=>[]
def gZ(ops:Array Oper)(b:Array Nat)(i:Nat)(tmps:List (Nat×AV))(o:Oper):List Nat:=if Fj o.op then XS ops b i tmps else[]
def J8(ops:Array Oper)(b:Array Nat)(i:Nat):Bool :=(List.range ops.size).all fun j =>j==i || (b.getD j 0).testBit i || (b.getD i 0).testBit j || (match ops[j]? with|some o=>nu o.op|none=>true) || ((match ops[i]? with|some o=>Fj o.op|none=>false)&&uN ops i j)
def ahead(rid:Nat)(J9:Nat)(h:Heap):Heap:=h.filter fun p=>(p.1 / 32768 != rid+1) || J9.testBit (p.1 / 256%128)
def iv(n:Nat)(o:Oper):Bool :=match o.dst with
 |some d=>decide (d<n)
 |none=>true
end
def qL(rid bits id:Nat):Bool:=(id / 32768 != rid+1) || bits.testBit (id / 256%128)
mutual
def sW(rid bits:Nat):AV→Bool
 |.ref id _ _ _=>qL rid bits id
 |.bK id=>qL rid bits id
 |.fn _ cap=>AI rid bits cap
 |.agg cs=>AI rid bits cs
 |.ns vs=>AI rid bits vs
 |.no=>true
 |.bool _=>true
 |.int _ _=>true
 |.str _=>true
 |.la=>true
 |.fZ=>true
 |.fp _ _ _=>true
 |.sl _ _ _=>true
 |.mp _ _ _=>true
def AI(rid bits:Nat):List AV→Bool
 |[]=>true
 |v::r=>sW rid bits v&&AI rid bits r
end
def yl(rid bits:Nat):Heap→Bool
 |[]=>true
 |(id,.box _ cs)::r=>qL rid bits id&&AI rid bits cs&&yl rid bits r
 |(id,.own _ _)::r=>qL rid bits id&&yl rid bits r
def gR(draw:Bool)(rid:Nat)(ops:Array Oper)(b:Array Nat)(i J9:Nat):bL→Bool
 |.wr v h=>(!draw || J8 ops b i)&&sW rid (J9 ||| 2 ^ i) v&&yl rid (J9 ||| 2 ^ i) h
 |.new v os=>sW rid (J9 ||| 2 ^ i) v&&(os.all fun p=>p.1 / 256==(rid+1)*128+i)&&yl rid (J9 ||| 2 ^ i) os
 |.val v=>sW rid J9 v
def fk(ft:List Nat)(hp h:Heap):Heap:=(ft.filterMap fun i=>(hp.get i).map fun o=>(i,o))++h
def gT(ft:List Nat)(hp:Heap):bL→bL
 |.wr v h=>.wr v (fk ft hp h)
 |.val v=>.val v
 |.new v os=>.new v os
mutual
def qM(ft:List Nat):AV→Bool
 |.ref id _ _ _ => !(ft.contains id)
 |.bK id => !(ft.contains id)
 |.fn _ cap=>tJ ft cap
 |.agg cs=>tJ ft cs
 |.ns vs=>tJ ft vs
 |.no=>true
 |.bool _=>true
 |.int _ _=>true
 |.str _=>true
 |.la=>true
 |.fZ=>true
 |.fp _ _ _=>true
 |.sl _ _ _=>true
 |.mp _ _ _=>true
def tJ(ft:List Nat):List AV→Bool
 |[]=>true
 |v::r=>qM ft v&&tJ ft r
end
def tK(ft:List Nat):Heap→Bool
 |[]=>true
 |(id,.box _ cs)::r => !(ft.contains id)&&(tJ ft cs&&tK ft r)
 |(id,.own _ _)::r => !(ft.contains id)&&tK ft r
def nC(ft:List Nat):bL→Bool
 |.wr v h=>qM ft v&&tK ft h
 |_=>true
section
variable (P:Program) (Eqs:TypeId→Option K) (Sg:FuncId→Option aS) (F:(f:FuncId)→(g:aS)→g.A→Option g.B)
variable {R:Type}
noncomputable def sP(n:Nat)(f:Nat→Option R):Option R:=open Classical in if h:∃r,∀j,j<n→f j=some r then some (Classical.choose h) else none
def zo(m:Nat)(d:AV):AV→AV
 |.bK i=>if i=m then d else .bK i
 |v=>v
def pe(id:Nat)(st:St)(o:Oper):Option St :=match o.op with
 |.range t x=>match P.underlying t,ρ st.tmps x with
  |some (.map _ _),.bK m=>match st.heap.get m with
   |some (.own (.map kk vk) es)=>some (({ tmps:=st.tmps.map fun p=>(p.1,zo m (.mp kk vk es) p.2),heap:=(id,.own (.iter kk vk) (none,es))::st.heap.del m }:St).put o.dst (.bK id))
   |_=>none
  |_,_=>none
 |_=>none
def uP(o:Oper):Option Operand :=match o.op with
 |.next x false=>some x
 |_=>none
noncomputable def lg(h:Heap)(x:AV)(K:AV→Heap→Option R):Option R :=match x with
 |.bK id=>match h.get id with
  |some (.own (.iter kk vk) p)=>cond p.2.isEmpty (K (.ns [.bool false]) h) (sP p.2.length fun j=>(p.2[j]?).bind fun c=>K (.ns [.bool true,cp kk c.1,cp vk c.2]) (h.set id (.own (.iter kk vk) (some c,p.2.eraseIdx j))))
  |_=>none
 |_=>none
def isNil(o:Oper):Option (Operand×Bool) :=match o.op with
 |.binOp op t x (.const v) _=>match op,P.underlying t,wG v with
  |.eql,some (.slice _),.fZ=>some (x,true)
  |.neq,some (.slice _),.fZ=>some (x,false)
  |_,_,_=>none
 |_=>none
noncomputable def uQ(h:Heap)(x:AV)(want:Bool)(K:AV→Option R):Option R :=match cP h x with
 |.fZ=>K (.bool want)
 |.sl _ _ xs=>cond xs.isEmpty (sP 2 fun j=>K (.bool ((j==0)==want))) (K (.bool (!want)))
 |_=>none
noncomputable def bG(rid:Nat)(draw:Bool)(ops:Array Oper)(b:Array Nat):List (Nat×Oper)→St→(St→Option R)→Option R
 |[],st,K=>K st
 |(i,o)::r,st,K =>
  let run (st:St):Option R :=match (if draw then none else pe P (opId rid i) st o) with
   |some eP=>bG rid draw ops b r eP K
   |none =>
   match (if draw then none else uP o) with
   |some x=>lg st.heap (ρ st.tmps x) fun v h=>bG rid draw ops b r (({ st with heap:=h }:St).put o.dst v) K
   |none =>
   match (if draw then none else isNil P o) with
   |some (x,want)=>uQ st.heap (ρ st.tmps x) want fun v=>bG rid draw ops b r (st.put o.dst v) K
   |none =>
   if draw then
    cY P Eqs Sg F (opId rid i) (gY (ahead rid (b.getD i 0) st.heap) (gZ ops b i st.tmps o)) st.tmps o fun e =>if gR true rid ops b i (b.getD i 0) (gT (gZ ops b i st.tmps o) (ahead rid (b.getD i 0) st.heap) e)&&nC (gZ ops b i st.tmps o) e then
      bG rid draw ops b r ({ st with heap:=match gT (gZ ops b i st.tmps o) (ahead rid (b.getD i 0) st.heap) e with | .wr _ h=>h|e=>e.h st.heap }.put o.dst e.v) K else none
   else
    cY P Eqs Sg F (opId rid i) st.heap st.tmps o fun e =>if gR false rid ops b i (2 ^ i-1) e then bG rid draw ops b r ({ st with heap:=match e with | .wr _ h=>h|e=>e.h st.heap }.put o.dst e.v) K else none
  let skip (st:St):Option R:=bG rid draw ops b r (st.put o.dst (.ns [])) K
  match o.guard with
  |none=>run st
  |some (j,want) =>
   match (ops[j]?).bind (·.dst) with
   |none=>none
   |some d =>
    match look st.tmps d with
    |.bool t=>cond t (if want then run (st.put (some d) (.bool true)) else skip (st.put (some d) (.bool true))) (if want then skip (st.put (some d) (.bool false)) else run (st.put (some d) (.bool false)))
    |.ns _=>skip st
    |_=>none
end
mutual
def bH(rid:Nat):AV→AV
 |.ref id s i off=>if id / 32768=rid+1 then .no else .ref id s i off
 |.bK id=>if id / 32768=rid+1 then .no else .bK id
 |.fn f cap=>.fn f (lN rid cap)
 |.agg cs=>.agg (lN rid cs)
 |.ns vs=>.ns (lN rid vs)
 |.no=>.no
 |.bool b=>.bool b
 |.int k n=>.int k n
 |.str s=>.str s
 |.la=>.la
 |.fZ=>.fZ
 |.fp k x off=>.fp k x off
 |.sl ex k xs=>.sl ex k xs
 |.mp kk vk es=>.mp kk vk es
def lN(rid:Nat):List AV→List AV
 |[]=>[]
 |v::r=>bH rid v::lN rid r
end
def AJ(rid:Nat):Ob→Ob
 |.box ty cs=>.box ty (lN rid cs)
 |.own ok x=>.own ok x
def kX(draw:Bool)(rid:Nat)(ops:Array Oper)(st:St):St :=if draw || ops.any (makes ·.op) then
  { tmps:=st.tmps.map fun p=>(p.1,bH rid p.2),heap:=(st.heap.filter fun p=>p.1 / 32768 != rid+1).map fun p=>(p.1,AJ rid p.2) }
 else st
section
variable (P:Program) (Eqs:TypeId→Option K) (Sg:FuncId→Option aS) (F:(f:FuncId)→(g:aS)→g.A→Option g.B)
variable {R:Type}
noncomputable def iw(n rid:Nat)(ops:Array Oper)(draw:Bool)(st:St)(K:St→Option R):Option R :=let b:=if draw then Region.before ops else #[]
 if(ops.all fun o=>iv n o)&&(!draw || (uM ops b&&(AH ops b&&cj (ops.toList.filterMap (·.dst)))))&&decide (ops.size≤128) then
  bG P Eqs Sg F rid draw ops b (ops.toList.zipIdx.map fun p=>(p.2,p.1)) (kX draw rid ops st) K
 else none
inductive Src where
 |slot (s:Nat)
 |cap (s j:Nat)
structure Shape where
 zp:List (Nat×K)
 boxes:List (Src×Nat×BK)
 rows:List (Nat×Nat×OK)
 fns:List (Nat×FuncId×List Nat)
def Shape.ks(sh:Shape):List K:=sh.zp.map (·.2)
def Shape.bs(sh:Shape):List BK:=sh.boxes.map (·.2.2)
def Ka:List OK→Type
 |[]=>Unit
 |k::r=>k.T×Ka r
abbrev Shape.T(sh:Shape):Type:=G7 sh.ks×wH sh.bs×Ka (sh.rows.map (·.2.2))
def qN(st:St):(l:List (Nat×K))→Option (G7 (l.map (·.2)))
 |[]=>some ()
 |(s,k)::r =>
  match fX k st.heap (look st.tmps s),qN st r with
  |some x,some y=>some (x,y)
  |_,_=>none
def Wy(st:St):Src→Option Nat
 |.slot s=>DY (look st.tmps s)
 |.cap s j=>match look st.tmps s with
  |.fn _ cap=>match cap[j]? with
   |some v=>DY v
   |none=>none
  |_=>none
def Fk(st:St):List (Src×Nat×BK)→Option (List Nat)
 |[]=>some []
 |p::r=>match Wy st p.1,Fk st r with
  |some i,some is=>some (i::is)
  |_,_=>none
def nD(st:St):(l:List (Nat×Nat×OK))→Option (Ka (l.map (·.2.2)))
 |[]=>some ()
 |(s,_,ok)::r =>
  match dX st.heap ok (look st.tmps s),nD st r with
  |some x,some y=>some (x,y)
  |_,_=>none
def zM(st:St)(sh:Shape)(ids:List Nat):List AV:=(sh.zp.flatMap fun p=>(look st.tmps p.1).cells)++gh sh.bs st.heap ids
def Hc(st:St)(sh:Shape)(ids:List Nat):List Nat:=de sh.bs st.heap ids++sh.rows.flatMap fun p=>o8 (look st.tmps p.1)
def od(st:St)(m:Nat):List (Nat×Nat×OK)→Bool
 |[]=>false
 |(s,id,_)::r=>(id==m&&(match look st.tmps s with | .bK i=>i==m|_=>false)) || od st m r
def rP(sh:Shape):List Nat:=cc sh.bs (sh.boxes.map (·.2.1)) 9000++sh.rows.map (·.2.1)
def L5(st:St)(ids:List (Nat×Nat)):List (Nat×FuncId×List Nat)→Bool
 |[]=>true
 |(s,f,Dv)::r =>
  (match look st.tmps s with
  |.fn f' cap=>decide (f'=f)&&(match jL cap with|some is=>decide (is.map (fun i=>(ids.find? (·.1==i)).map (·.2))=Dv.map some)|none=>false)
  |_=>false)&&L5 st ids r
def cJ(sh:Shape)(st:St):Option sh.T :=match Fk st sh.boxes with
 |none=>none
 |some ids =>
  match qN st sh.zp,dd sh.bs st.heap ids,nD st sh.rows,wN (Hc st sh ids) (zM st sh ids)&&(cj (rP sh)&&((rP sh).all (fun m=>decide (2000≤m) || ((ids.zip (sh.boxes.map (·.2.1))).any fun p=>p.1==m&&p.2==m) || od st m sh.rows)&&L5 st (ids.zip (sh.boxes.map (·.2.1))) sh.fns)) with
  |some x,some y,some z,true=>some (x,y,z)
  |_,_,_,_=>none
def qO:(l:List (Nat×K))→G7 (l.map (·.2))→List (Nat×AV)
 |[],_=>[]
 |(s,k)::r,x=>(s,cp k x.1)::qO r x.2
def jN:List (Src×Nat×BK)→List (Nat×AV)
 |[]=>[]
 |(.slot s,id,_)::r=>(s,.ref id 0 0 0)::jN r
 |(.cap _ _,_,_)::r=>jN r
def zN(l:List (Nat×FuncId×List Nat)):List (Nat×AV):=l.map fun p=>(p.1,.fn p.2.1 (p.2.2.map fun i=>.ref i 0 0 0))
def qP:(l:List (Nat×Nat×OK))→Ka (l.map (·.2.2))→Heap
 |[],_=>[]
 |(_,id,ok)::r,x=>(id,.own ok x.1)::qP r x.2
def ar(sh:Shape)(x:sh.T):St :={ tmps:=qO sh.zp x.1++(jN sh.boxes++(zN sh.fns++sh.rows.map fun p=>(p.1,.bK p.2.1))),heap:=bC sh.bs (sh.boxes.map (·.2.1)) 9000 x.2.1++qP sh.rows x.2.2 }
def rQ:Code→Nat
 |.region id _ _=>id
 |.seq a _=>rQ a
 |.block _ a=>rQ a
 |.loop a=>rQ a
 |.scope a=>rQ a
 |_=>0
def PX(s:Nat)(st:St):St:=match look st.tmps s with
 |.bK m=>match st.heap.get m with
  |some (.own (.row _ k) xs)=>{ tmps:=st.tmps.map fun p=>(p.1,zo m (.sl false k xs) p.2),heap:=st.heap.del m }
  |_=>st
 |_=>st
def Hd(o:Option Shape)(st:St):St:=match o with
 |some sh=>sh.rows.foldl (fun st p=>PX p.1 st) st
 |none=>st
noncomputable def aE(n:Nat)(ann:Nat→Option Shape)(J:(sh:Shape)→List Item→sh.T→Option R)(ret:St→Option R):Nat→List Item→St→Option R
 |0,_,_=>none
 |_+1,[],st=>ret st
 |m+1,.inBlock _::k,st=>aE n ann J ret m k st
 |m+1,.inScope _::k,st=>aE n ann J ret m k st
 |_+1,.inLoop c::k,st =>
  match ann (rQ c) with
  |none=>none
  |some sh=>match cJ sh st with
   |some x=>J sh (.inLoop c::k) x
   |none=>none
 |m+1,.code c::k,st =>
  match c with
  |.skip | .label _=>aE n ann J ret m k st
  |.seq a b=>aE n ann J ret m (.code a::.code b::k) st
  |.cond c a b=>match ρ st.tmps c with
   |.bool t=>cond t (aE n ann J ret m (.code a::k) st) (aE n ann J ret m (.code b::k) st)
   |_=>none
  |.block id c=>aE n ann J ret m (.code c::.inBlock id::k) st
  |.scope c=>aE n ann J ret m (.code c::.inScope c::k) st
  |.loop c=>aE n ann J ret m (.inLoop c::k) st
  |.exit id=>match exitTo id k with
   |some k'=>aE n ann J ret m k' st
   |none=>none
  |.ret=>ret st
  |.region id ops draw=>iw P Eqs Sg F n id ops draw (Hd (ann (500000+id)) st) fun eP=>aE n ann J ret m k eP
  |_=>none
 |_,_,_=>none
def ym(h:Heap)(tmps:List (Nat×AV))(rvs:List ResultVar):Option (List AV) :=match rvs with
 |[]=>some []
 |.tmp t::r=>match ym h tmps r with
  |some vs=>some (look tmps t::vs)
  |none=>none
 |.cell a t::r=>match look tmps a with
  |.ref id _ 0 off=>(match h.get id with
   |some (.box _ cs)=>(match eg P t (cs.drop off),ym h tmps r with
    |some v,some vs=>some (v::vs)
    |_,_=>none)
   |_=>none)
  |_=>none
def qQ(g:aS)(fn:Func)(st:St):Option g.B :=match ym P st.heap st.tmps fn.results.toList with
 |none=>none
 |some vs =>
  match bM g.bs g.rs st.heap (aU g.bs.length) vs,dd g.bs st.heap (aU g.bs.length),
   wN (de g.bs st.heap (aU g.bs.length)++dS g.rs vs) (gi g.rs vs++gh g.bs st.heap (aU g.bs.length))&&cj (qE g) with
  |some x,some y,true=>some (x,y)
  |_,_,_=>none
def entry(g:aS)(x:g.A):St :={ tmps:=aZ g.ps (aU g.bs.length) 0 x.1,heap:=bC g.bs (aU g.bs.length) 2000 x.2 }
def fuel:Nat:=100000
end
section
variable (P:Program) (Eqs:TypeId→Option K) (Sg:FuncId→Option aS) (An:FuncId→Nat→Option Shape) (G:(f:FuncId)→(g:aS)→Option (g.A→Option g.B))
variable (F:(f:FuncId)→(g:aS)→g.A→Option g.B)
def body(f:FuncId):Option (Func×Code):=(P.funcs[f]?).bind fun fn=>fn.body.map fun c=>(fn,c)
noncomputable def mK(f:FuncId)(g:aS)(fn:Func):Nat→(sh:Shape)→List Item→sh.T→Option g.B
 |0,_,_,_=>none
 |n+1,sh,.inLoop c::k,x=>aE P Eqs Sg F fn.ntmps (An f) (mK f g fn n) (qQ P g fn) fuel (.code c::.inLoop c::k) (ar sh x)
 |_+1,_,_,_=>none
noncomputable def Kb(f:FuncId)(g:aS)(n:Nat)(x:g.A):Option g.B :=match body P (f%1000) with
 |none=>none
 |some (fn,c)=>if decide (g.ps.length≤fn.ntmps)&&decide (g.bs.length≤8) then aE P Eqs Sg F fn.ntmps (An f) (mK P Eqs Sg An F f g fn n) (qQ P g fn) fuel [.code c] (entry g x) else none
end
section
variable (P:Program) (Eqs:TypeId→Option K) (Sg:FuncId→Option aS) (An:FuncId→Nat→Option Shape) (G:(f:FuncId)→(g:aS)→Option (g.A→Option g.B))
noncomputable def Fn:Nat→(f:FuncId)→(g:aS)→g.A→Option g.B
 |0,f,g,x=>match G f g with
  |some u=>u x
  |none=>none
 |m+1,f,g,x=>match G f g with
  |some u=>u x
  |none=>Kb P Eqs Sg An (Fn m) f g m x
end
end Go.Vs
namespace Go.Vs
def qR:Code→List Item→List (List Item)
 |.seq a b,k=>qR a (.code b::k)++qR b k
 |.cond _ a b,k=>qR a k++qR b k
 |.block id c,k=>qR c (.inBlock id::k)
 |.scope c,k=>qR c (.inScope c::k)
 |.loop c,k=>(.inLoop c::k)::qR c (.inLoop c::k)
 |_,_=>[]
def aO(P:Program)(f:FuncId)(j:Nat):List Item :=match body P f with
 |some (_,c)=>(qR c []).getD j []
 |none=>[]
def round:List Item→List Item
 |.inLoop c::k=>.code c::.inLoop c::k
 |k=>k
theorem uR(a:Addr)(n m:Nat):(a.add n).add m=a.add (n+m):=by unfold Addr.add;by_cases h1:n=0<;>by_cases h2:m=0<;>simp[h1,h2,Nat.add_assoc]
theorem DZ(a:Addr):a.add 0=a:=by simp[Addr.add]
theorem fm(a:Addr)(n:Nat):(a.add n).block=a.block:=by unfold Addr.add;split<;>rfl
theorem cS(g i n:Nat):(⟨g,i,none⟩:Addr).add n=⟨g,i+n,none⟩:=by unfold Addr.add;split<;>simp_all
def cy(Z:Nat→Prop)(w w':World):Prop:=∀b,Z b→w'.heap[b]? = w.heap[b]?
theorem cy.refl(Z:Nat→Prop)(w:World):cy Z w w:=fun _ _=>rfl
theorem cy.trans{Z:Nat→Prop}{w w1 w2:World}(h:cy Z w w1)(k:cy Z w1 w2):cy Z w w2:=fun b hb=>(k b hb).trans (h b hb)
theorem cy.cell{Z:Nat→Prop}{w w':World}(h:cy Z w w'){a:Addr}(ha:Z a.block):w'.cell? a=w.cell? a:=World.cell?_of_block (h _ ha)
def afq{α:Type}(r:α→List Value→Prop)(Z:Nat→Prop)(sz:Nat)(w:World)(xs:List α)(v:Value):Prop :=∃A c,v=.slice A xs.length c∧xs.length≤c∧(A=none→c=0) ∧ ∀(i:Nat) (x:α),xs[i]? = some x→∃a us,A=some a∧Z a.block∧r x us∧∀(j:Nat) u,us[j]? = some u→w.cell? (a.add (i*sz+j))=some u
def Fl{α β:Type}(ra:α→List Value→Prop)(rb:β→List Value→Prop)(pa pb:Bool)(es:List (α×β))(b5:List MapEntry):Prop :=es.length=b5.length∧∀(i:Nat) (x:α×β) (e:MapEntry),es[i]? = some x→b5[i]? = some e →(ra x.1 e.key.cells.toList∧(pa=true→∃vs,e.key=.agg vs)∧(pa=false→e.key.cells=#[e.key]))∧rb x.2 e.val.cells.toList∧(pb=true→∃vs,e.val=.agg vs)∧(pb=false→e.val.cells=#[e.val])
def aL(Z:Nat→Prop)(w:World):(k:K)→k.T→List Value→Prop
 |.int ik,n,vs=>vs=[.int ik n]
 |.bool,b,vs=>vs=[.bool b]
 |.str,s,vs=>vs=[.string s]
 |.sl k,xs,vs=>∃v,vs=[v]∧afq (aL Z w k) Z k.sz w xs v
 |.pair a b,x,vs=>∃us ws,vs=us++ws∧aL Z w a x.1 us∧aL Z w b x.2 ws
 |.one k,x,vs=>aL Z w k x vs
 |.mp kk vk,es,vs=>∃A,vs=[.map A]∧((A=none∧es=[])∨∃m b5 clock,A=some m∧Z m∧w.heap[m]? = some (.map b5 clock)∧Fl (aL Z w kk) (aL Z w vk) kk.isAgg vk.isAgg es b5.toList)
variable {Z Z':Nat→Prop} {w w':World}
theorem aL.len:∀{k:K} {x:k.T} {vs:List Value},aL Z w k x vs→vs.length=k.sz
 |.int _,_,_,h=>by simp only[aL]at h;subst h;rfl
 |.bool,_,_,h=>by simp only[aL]at h;subst h;rfl
 |.str,_,_,h=>by simp only[aL]at h;subst h;rfl
 |.sl _,_,_,h=>by simp only[aL]at h;obtain⟨v,rfl,_⟩:=h;rfl
 |.pair a b,x,_,h=>by simp only[aL]at h;obtain⟨us,ws,rfl,h1,h2⟩:=h;rw[List.length_append,aL.len h1,aL.len h2];rfl
 |.one k,x,_,h=>by simp only[aL]at h;exact aL.len (k:=k) h
 |.mp _ _,_,_,h=>by simp only[aL]at h;obtain⟨A,rfl,_⟩:=h;rfl
theorem K.iy:∀k:K,0<k.sz
 |.int _=>Nat.one_pos
 |.bool=>Nat.one_pos
 |.str=>Nat.one_pos
 |.sl _=>Nat.one_pos
 |.pair a _=>aez (K.iy a) (Nat.le_add_right _ _)
 |.one k=>K.iy k
 |.mp _ _=>Nat.one_pos
theorem aL.one:∀{k:K} {x:k.T} {vs:List Value},aL Z w k x vs→∀u∈vs,u.oneCell'=true
 |.int _,_,_,h=>by simp only[aL]at h;subst h;simp[Value.oneCell']
 |.bool,_,_,h=>by simp only[aL]at h;subst h;simp[Value.oneCell']
 |.str,_,_,h=>by simp only[aL]at h;subst h;simp[Value.oneCell']
 |.sl _,_,_,h=>by simp only[aL]at h;obtain⟨v,rfl,A,c,rfl,_⟩:=h;simp[Value.oneCell']
 |.pair a b,x,_,h=>by
  simp only[aL]at h;obtain⟨us,ws,rfl,h1,h2⟩:=h;intro u hu;rcases ac8.1 hu with hu|hu
  ·exact aL.one h1 u hu
  ·exact aL.one h2 u hu
 |.one k,x,_,h=>by simp only[aL]at h;exact aL.one (k:=k) h
 |.mp _ _,_,_,h=>by simp only[aL]at h;obtain⟨A,rfl,_⟩:=h;simp[Value.oneCell']
theorem Fl.imp{α β:Type}{ra ra':α→List Value→Prop}{rb rb':β→List Value→Prop}{pa pb:Bool}(ha:∀x vs,ra x vs→ra' x vs)(hb:∀x vs,rb x vs→rb' x vs){es:List (α×β)}{b5:List MapEntry}(h:Fl ra rb pa pb es b5):Fl ra' rb' pa pb es b5 :=⟨h.1,fun i x e h1 h2=>by obtain⟨⟨a,b⟩,c,d⟩:=h.2 i x e h1 h2;exact⟨⟨ha _ _ a,b⟩,hb _ _ c,d⟩⟩
theorem aL.mono(hz:∀b,Z b→Z' b)(hs:cy Z w w'):∀{k:K} {x:k.T} {vs:List Value},aL Z w k x vs→aL Z' w' k x vs
 |.int _,_,_,h=>h
 |.bool,_,_,h=>h
 |.str,_,_,h=>h
 |.sl k,xs,_,h=>by simp only[aL]at h ⊢;obtain⟨v,rfl,A,c,rfl,hl,hn,he⟩:=h;refine⟨_,rfl,A,c,rfl,hl,hn,fun i x hx=>?_⟩;obtain⟨a,us,ha,hza,hr,hc⟩:=he i x hx;refine⟨a,us,ha,hz _ hza,aL.mono hz hs hr,fun j u hu=>?_⟩;rw[hs.cell (by rw[fm];exact hza)];exact hc j u hu
 |.pair a b,x,_,h=>by simp only[aL]at h ⊢;obtain⟨us,ws,rfl,h1,h2⟩:=h;exact⟨us,ws,rfl,aL.mono hz hs h1,aL.mono hz hs h2⟩
 |.one k,x,_,h=>by simp only[aL]at h ⊢;exact aL.mono hz hs (k:=k) h
 |.mp kk vk,es,_,h=>by simp only[aL]at h ⊢;obtain⟨A,rfl,h⟩:=h;refine⟨A,rfl,h.imp (fun h=>h) fun⟨m,b5,clock,h1,h2,h3,h4⟩=>⟨m,b5,clock,h1,hz _ h2,(hs m h2).trans h3,h4.imp (fun _ _ h=>aL.mono hz hs h) (fun _ _ h=>aL.mono hz hs h)⟩⟩
def Uz:Value→Nat
 |.pointer (some a)=>a.block
 |.slice (some a) _ _=>a.block
 |_=>0
def ob:Value→Option Nat
 |.pointer (some a)=>some a.block
 |.slice (some a) _ c=>if c=0 then none else some a.block
 |.map (some m)=>some m
 |_=>none
mutual
def aC(Z:Nat→Prop)(ψ:Nat→Value)(h:Nat→Option Ob)(w:World):AV→Value→Prop
 |.no,_=>True
 |.bool b,v=>v=.bool b
 |.int k n,v=>v=.int k n
 |.str s,v=>v=.string s
 |.la,v=>v=.pointer none
 |.fZ,v=>v=.slice none 0 0
 |.ref id s i off,v=>∃a,v=.pointer (some a)∧(h id≠none→a=⟨Uz (ψ id),i*s+off,none⟩)
 |.fp k x off,v=>∃a us,v=.pointer (some a)∧Z a.block∧aL Z w k x us∧∀(j:Nat) u,us[off+j]? = some u→w.cell? (a.add j)=some u
 |.sl ex k xs,v=>aL Z w (.sl k) xs [v]∧(ex=true→∃A c,v=.slice A c c)
 |.mp kk vk es,v=>aL Z w (.mp kk vk) es [v]
 |.bK id,v=>(v.cells=#[v]∧v.oneCell'=true)∧(h id≠none→v=ψ id)
 |.fn f cap,v=>∃vs,v=.func (.func f) #[] vs∧aq Z ψ h w cap vs.toList
 |.agg cs,v=>∃vs,v=.agg vs∧aq Z ψ h w cs vs.toList
 |.ns cs,v=>∃vs,v=.tuple vs∧aq Z ψ h w cs vs.toList
def aq(Z:Nat→Prop)(ψ:Nat→Value)(h:Nat→Option Ob)(w:World):List AV→List Value→Prop
 |[],vs=>vs=[]
 |a::r,vs=>∃v us,vs=v::us∧aC Z ψ h w a v∧aq Z ψ h w r us
end
mutual
def aM(p:Nat→Prop):AV→Prop
 |.ref id _ _ _=>p id
 |.bK id=>p id
 |.fn _ cap=>aG p cap
 |.agg cs=>aG p cs
 |.ns vs=>aG p vs
 |.no=>True
 |.bool _=>True
 |.int _ _=>True
 |.str _=>True
 |.la=>True
 |.fZ=>True
 |.fp _ _ _=>True
 |.sl _ _ _=>True
 |.mp _ _ _=>True
def aG(p:Nat→Prop):List AV→Prop
 |[]=>True
 |v::r=>aM p v∧aG p r
end
section
variable {Z Z':Nat→Prop} {w w':World} {ψ ψ':Nat→Value} {h h':Nat→Option Ob} {p:Nat→Prop}
mutual
theorem aC.move(hz:∀b,Z b→Z' b)(hs:cy Z w w')(hh:∀id,p id→h' id≠none→h id≠none∧ψ' id=ψ id):∀{a:AV} {v:Value},aM p a→aC Z ψ h w a v→aC Z' ψ' h' w' a v
 |.no,_,_,_=>by simp only[aC]
 |.bool b,_,_,hr=>by simpa only[aC] using hr
 |.int k n,_,_,hr=>by simpa only[aC] using hr
 |.str s,_,_,hr=>by simpa only[aC] using hr
 |.la,_,_,hr=>by simpa only[aC] using hr
 |.fZ,_,_,hr=>by simpa only[aC] using hr
 |.ref id s i off,_,hm,hr=>by simp only[aC,aM]at hr hm ⊢;obtain⟨a,rfl,ha⟩:=hr;refine⟨a,rfl,fun hn=>?_⟩;obtain⟨h1,h2⟩:=hh id hm hn;rw[h2];exact ha h1
 |.fp k x off,_,_,hr=>by simp only[aC]at hr ⊢;obtain⟨a,us,rfl,hza,hk,hc⟩:=hr;refine⟨a,us,rfl,hz _ hza,hk.mono hz hs,fun j u hu=>?_⟩;rw[hs.cell (by rw[fm];exact hza)];exact hc j u hu
 |.sl ex k xs,_,_,hr=>by simp only[aC]at hr ⊢;exact⟨aL.mono hz hs hr.1,hr.2⟩
 |.mp kk vk es,_,_,hr=>by simp only[aC]at hr ⊢;exact aL.mono hz hs hr
 |.bK id,_,hm,hr=>by simp only[aC,aM]at hr hm ⊢;refine⟨hr.1,fun hn=>?_⟩;obtain⟨h1,h2⟩:=hh id hm hn;rw[h2];exact hr.2 h1
 |.fn f cap,_,hm,hr=>by simp only[aC,aM]at hr hm ⊢;obtain⟨vs,rfl,hl⟩:=hr;exact⟨vs,rfl,aq.move hz hs hh hm hl⟩
 |.agg cs,_,hm,hr=>by simp only[aC,aM]at hr hm ⊢;obtain⟨vs,rfl,hl⟩:=hr;exact⟨vs,rfl,aq.move hz hs hh hm hl⟩
 |.ns cs,_,hm,hr=>by simp only[aC,aM]at hr hm ⊢;obtain⟨vs,rfl,hl⟩:=hr;exact⟨vs,rfl,aq.move hz hs hh hm hl⟩
theorem aq.move(hz:∀b,Z b→Z' b)(hs:cy Z w w')(hh:∀id,p id→h' id≠none→h id≠none∧ψ' id=ψ id):∀{a:List AV} {v:List Value},aG p a→aq Z ψ h w a v→aq Z' ψ' h' w' a v
 |[],_,_,hr=>by simpa only[aq] using hr
 |a::r,_,hm,hr=>by simp only[aq,aG]at hr hm ⊢;obtain⟨v,us,rfl,h1,h2⟩:=hr;exact⟨v,us,rfl,aC.move hz hs hh hm.1 h1,aq.move hz hs hh hm.2 h2⟩
end
mutual
theorem aM.top:∀a:AV,aM (fun _=>True) a
 |.no=>by simp only[aM]
 |.bool b=>by simp only[aM]
 |.int k n=>by simp only[aM]
 |.str s=>by simp only[aM]
 |.la=>by simp only[aM]
 |.fZ=>by simp only[aM]
 |.ref id s i off=>by simp only[aM]
 |.fp k x off=>by simp only[aM]
 |.sl ex k xs=>by simp only[aM]
 |.mp kk vk es=>by simp only[aM]
 |.bK id=>by simp only[aM]
 |.fn f cap=>by simp only[aM];exact aG.top cap
 |.agg cs=>by simp only[aM];exact aG.top cs
 |.ns cs=>by simp only[aM];exact aG.top cs
theorem aG.top:∀a:List AV,aG (fun _=>True) a
 |[]=>by simp only[aG]
 |a::r=>by simp only[aG];exact⟨aM.top a,aG.top r⟩
end
theorem aC.less(hz:∀b,Z b→Z' b)(hs:cy Z w w')(hh:∀id,h' id≠none→h id≠none∧ψ' id=ψ id){a:AV}{v:Value}(hr:aC Z ψ h w a v):aC Z' ψ' h' w' a v :=aC.move (p:=fun _=>True) hz hs (fun id _ hn=>hh id hn) (aM.top a) hr
theorem aq.less(hz:∀b,Z b→Z' b)(hs:cy Z w w')(hh:∀id,h' id≠none→h id≠none∧ψ' id=ψ id){a:List AV}{v:List Value}(hr:aq Z ψ h w a v):aq Z' ψ' h' w' a v :=aq.move (p:=fun _=>True) hz hs (fun id _ hn=>hh id hn) (aG.top a) hr
theorem aq.length:∀{a:List AV} {v:List Value},aq Z ψ h w a v→a.length=v.length
 |[],_,hr=>by simp only[aq]at hr;subst hr;rfl
 |a::r,_,hr=>by simp only[aq]at hr;obtain⟨v,us,rfl,_,h2⟩:=hr;simp[aq.length h2]
theorem aq.get:∀{a:List AV} {v:List Value} (i:Nat) {x:AV},aq Z ψ h w a v→a[i]? = some x→∃u,v[i]? = some u∧aC Z ψ h w x u
 |[],_,i,x,_,hx=>by simp at hx
 |a::r,_,0,x,hr,hx=>by simp only[aq]at hr;obtain⟨v,us,rfl,h1,h2⟩:=hr;simp only[List.getElem?_cons_zero,Option.some.injEq]at hx;subst hx;exact⟨v,rfl,h1⟩
 |a::r,_,i+1,x,hr,hx=>by simp only[aq]at hr;obtain⟨v,us,rfl,h1,h2⟩:=hr;obtain⟨u,hu,hr⟩:=aq.get i h2 (by simpa using hx);exact⟨u,by simpa using hu,hr⟩
theorem aq.append:∀{a b:List AV} {v u:List Value},aq Z ψ h w a v→aq Z ψ h w b u→aq Z ψ h w (a++b) (v++u)
 |[],b,_,u,hr,hb=>by simp only[aq]at hr;subst hr;exact hb
 |a::r,b,_,u,hr,hb=>by simp only[aq]at hr;obtain⟨v,us,rfl,h1,h2⟩:=hr;simp only[List.cons_append,aq];exact⟨v,us++u,rfl,h1,aq.append h2 hb⟩
theorem aq.split:∀{a b:List AV} {v:List Value},aq Z ψ h w (a++b) v→∃us ws,v=us++ws∧aq Z ψ h w a us∧aq Z ψ h w b ws
 |[],b,v,hr=>⟨[],v,rfl,by simp only[aq],hr⟩
 |a::r,b,v,hr=>by simp only[List.cons_append,aq]at hr;obtain⟨x,us,rfl,h1,h2⟩:=hr;obtain⟨iY,ws,rfl,h3,h4⟩:=aq.split h2;exact⟨x::iY,ws,rfl,by simp only[aq];exact⟨x,iY,rfl,h1,h3⟩,h4⟩
theorem aq.drop(n:Nat){a:List AV}{v:List Value}(hr:aq Z ψ h w a v):aq Z ψ h w (a.drop n) (v.drop n):=by
 by_cases hn:n≤a.length
 ·have rR:aq Z ψ h w (a.take n++a.drop n) v:=by rw[List.take_append_drop];exact hr
  obtain⟨us,ws,rfl,h1,h2⟩:=aq.split rR;have hl:=h1.length;rw[List.length_take,Nat.min_eq_left hn]at hl;rw[hl,List.drop_left];rw[←hl];exact h2
 ·have:=hr.length;rw[List.drop_eq_nil_of_le (by omega),List.drop_eq_nil_of_le (by omega)];simp only[aq]
theorem aq.take(n:Nat){a:List AV}{v:List Value}(hr:aq Z ψ h w a v):aq Z ψ h w (a.take n) (v.take n):=by
 by_cases hn:n≤a.length
 ·have rR:aq Z ψ h w (a.take n++a.drop n) v:=by rw[List.take_append_drop];exact hr
  obtain⟨us,ws,rfl,h1,h2⟩:=aq.split rR;have hl:=h1.length;rw[List.length_take,Nat.min_eq_left hn]at hl
  conv=>rhs;rw[hl,List.take_left]
  exact h1
 ·have:=hr.length;rw[List.take_of_length_le (by omega),List.take_of_length_le (by omega)];exact hr
theorem aq.set:∀{a:List AV} {v:List Value} (i:Nat) {x:AV} {u:Value},aq Z ψ h w a v→aC Z ψ h w x u→aq Z ψ h w (a.set i x) (v.set i u)
 |[],_,i,x,u,hr,_=>by simp only[aq]at hr;subst hr;simp only[List.set_nil,aq]
 |a::r,_,0,x,u,hr,hx=>by simp only[aq]at hr;obtain⟨v,us,rfl,h1,h2⟩:=hr;simp only[List.set_cons_zero,aq];exact⟨u,us,rfl,hx,h2⟩
 |a::r,_,i+1,x,u,hr,hx=>by simp only[aq]at hr;obtain⟨v,us,rfl,h1,h2⟩:=hr;simp only[List.set_cons_succ,aq];exact⟨v,_,rfl,h1,aq.set i h2 hx⟩
theorem iq:∀{k:K} {x:k.T} {vs:List Value},aL Z w k x vs→aq Z ψ h w (enc k x) vs
 |.int _,_,_,hr=>by simp only[aL]at hr;subst hr;simp[enc,aq,aC]
 |.bool,_,_,hr=>by simp only[aL]at hr;subst hr;simp[enc,aq,aC]
 |.str,_,_,hr=>by simp only[aL]at hr;subst hr;simp[enc,aq,aC]
 |.sl k,xs,_,hr=>by have rR:=hr;simp only[aL]at rR;obtain⟨v,rfl,_⟩:=rR;simp only[enc,aq,aC];exact⟨v,[],rfl,⟨hr,by simp⟩,rfl⟩
 |.pair a b,x,_,hr=>by simp only[aL]at hr;obtain⟨us,ws,rfl,h1,h2⟩:=hr;simp only[enc];exact aq.append (iq h1) (iq h2)
 |.one k,x,_,hr=>by simp only[aL]at hr;simp only[enc];exact iq (k:=k) hr
 |.mp kk vk,es,_,hr=>by have rR:=hr;simp only[aL]at rR;obtain⟨A,rfl,_⟩:=rR;simp only[enc,aq,aC];exact⟨_,[],rfl,hr,rfl⟩
theorem PY{k:K}{v:Value}(hr:aC Z ψ h w .fZ v):aL Z w (.sl k) [] [v]:=by simp only[aC]at hr;subst hr;simp only[aL];exact⟨_,rfl,none,0,rfl,adj _,fun _=>rfl,fun i x hx=>by simp at hx⟩
theorem zO:∀{k:K} {cs:List AV} {x:k.T} {r:List AV} {vs:List Value},dec k cs=some (x,r)→aq Z ψ h w cs vs→∃us ws,vs=us++ws∧aL Z w k x us∧aq Z ψ h w r ws
 |.int ik,cs,x,r,vs,hd,hr=>by
  simp only[dec]at hd;unfold Ff at hd
  split at hd
  ·split at hd
   ·rename_i he;subst he
    cases hd
    simp only[aq,aC]at hr;obtain⟨v,us,rfl,rfl,h2⟩:=hr;exact⟨[_],us,rfl,by simp only[aL],h2⟩
   ·cases hd
  ·cases hd
 |.bool,cs,x,r,vs,hd,hr=>by
  simp only[dec]at hd;unfold zL at hd
  split at hd
  ·cases hd
   simp only[aq,aC]at hr;obtain⟨v,us,rfl,rfl,h2⟩:=hr;exact⟨[_],us,rfl,by simp only[aL],h2⟩
  ·cases hd
 |.str,cs,x,r,vs,hd,hr=>by
  simp only[dec]at hd;unfold Fg at hd
  split at hd
  ·cases hd
   simp only[aq,aC]at hr;obtain⟨v,us,rfl,rfl,h2⟩:=hr;exact⟨[_],us,rfl,by simp only[aL],h2⟩
  ·cases hd
 |.sl k,cs,x,r,vs,hd,hr=>by
  simp only[dec]at hd;unfold LW at hd
  split at hd
  ·split at hd
   ·rename_i he;subst he
    cases hd
    simp only[aq]at hr;obtain⟨v,us,rfl,h1,h2⟩:=hr;simp only[aC]at h1;exact⟨[_],us,rfl,h1.1,h2⟩
   ·cases hd
  ·cases hd
   simp only[aq]at hr;obtain⟨v,us,rfl,h1,h2⟩:=hr;exact⟨[_],us,rfl,PY h1,h2⟩
  ·cases hd
 |.pair a b,cs,x,r,vs,hd,hr=>by
  simp only[dec]at hd
  split at hd
  ·rename_i x1 r1 h1
   split at hd
   ·rename_i y1 r2 h2
    cases hd
    obtain⟨us,ws,rfl,k1,k2⟩:=zO h1 hr;obtain⟨iY,ws',rfl,k3,k4⟩:=zO h2 k2;exact⟨us++iY,ws',by rw[List.append_assoc],by simp only[aL];exact⟨us,iY,rfl,k1,k3⟩,k4⟩
   ·cases hd
  ·cases hd
 |.one k,cs,x,r,vs,hd,hr=>by simp only[dec]at hd;obtain⟨us,ws,e,k1,k2⟩:=zO (k:=k) hd hr;exact⟨us,ws,e,by simp only[aL];exact k1,k2⟩
 |.mp kk vk,cs,x,r,vs,hd,hr=>by
  simp only[dec]at hd;unfold LY at hd
  split at hd
  ·split at hd
   ·rename_i he;obtain⟨rfl,rfl⟩:=he
    cases hd
    simp only[aq]at hr;obtain⟨v,us,rfl,h1,h2⟩:=hr;simp only[aC]at h1;exact⟨[_],us,rfl,h1,h2⟩
   ·cases hd
  ·cases hd
theorem dM{k:K}{cs:List AV}{x:k.T}{vs:List Value}(hd:dL k cs=some x)(hr:aq Z ψ h w cs vs):aL Z w k x vs:=by
 unfold dL at hd
 split at hd
 ·rename_i x' h1
  cases hd
  obtain⟨us,ws,rfl,k1,k2⟩:=zO h1 hr;simp only[aq]at k2;subst k2;rw[List.append_nil];exact k1
 ·cases hd
theorem lO{k:K}{x:k.T}{v:Value}(hr:aL Z w k x v.cells.toList)(hp:k.isAgg=true→∃vs,v=.agg vs)(hn:k.isAgg=false→v.cells=#[v]):aC Z ψ h w (cp k x) v:=by
 cases k with
 |int ik=>rw[hn rfl]at hr;simp only[aL]at hr;simp only[cp,aC];simpa using hr
 |bool=>rw[hn rfl]at hr;simp only[aL]at hr;simp only[cp,aC];simpa using hr
 |str=>rw[hn rfl]at hr;simp only[aL]at hr;simp only[cp,aC];simpa using hr
 |sl k=>rw[hn rfl]at hr;simp only[cp,aC];exact⟨hr,by simp⟩
 |mp kk vk=>rw[hn rfl]at hr;simp only[cp,aC];exact hr
 |pair a b =>obtain⟨vs,rfl⟩:=hp rfl;simp only[cp,aC];exact⟨vs,rfl,iq hr⟩
 |one k =>obtain⟨vs,rfl⟩:=hp rfl;simp only[cp,aC];exact⟨vs,rfl,iq hr⟩
end
end Go.Vs
namespace Go.Vs
theorem Heap.iz{n m:Nat}(bw:m≠n):∀h:Heap,(h.del n).get m=h.get m
 |[]=>rfl
 |(i,o)::r=>by
  simp only[Heap.del]
  split
  ·rename_i hi;rw[Heap.iz bw r];simp only[Heap.get];rw[if_neg (by omega)]
  ·simp only[Heap.get]
   split
   ·rfl
   ·exact Heap.iz bw r
theorem Heap.gH(n:Nat):∀h:Heap,(h.del n).get n=none
 |[]=>rfl
 |(i,o)::r=>by
  simp only[Heap.del]
  split
  ·exact Heap.gH n r
  ·rename_i hi;simp only[Heap.get];rw[if_neg hi];exact Heap.gH n r
theorem Heap.Fm(h:Heap)(n:Nat)(o:Ob):(h.set n o).get n=some o:=by simp[Heap.set,Heap.get]
theorem Heap.Kc{n m:Nat}(bw:m≠n)(h:Heap)(o:Ob):(h.set n o).get m=h.get m:=by simp only[Heap.set,Heap.get];rw[if_neg (by omega)];exact Heap.iz bw h
theorem Heap.uS{n m:Nat}{h:Heap}{o:Ob}(hg:(h.del n).get m=some o):h.get m=some o∧m≠n:=by
 by_cases bw:m=n
 ·subst bw;rw[Heap.gH]at hg;cases hg
 ·rw[Heap.iz bw]at hg;exact⟨hg,bw⟩
theorem Heap.get_append(a b:Heap)(n:Nat):(a++b).get n=(match a.get n with|some o=>some o|none=>b.get n):=by
 induction a with
 |nil=>rfl
 |cons p r ih =>
  obtain⟨i,o⟩:=p;simp only[List.cons_append,Heap.get]
  split
  ·rfl
  ·exact ih
def nE(Z:Nat→Prop)(w:World)(k:K)(xs:List k.T)(vs:List Value):Prop :=∀(i:Nat) (x:k.T),xs[i]? = some x→aL Z w k x ((vs.drop (i*k.sz)).take k.sz)
abbrev Hp:=Nat→Option Ob
def eF(w:World)(e:TypeId)(size:Nat)(v:Value)(n:Nat)(vs:List Value):Prop :=vs.length=n*size ∧((n=0∧∃A,v=.slice A 0 0) ∨ ∃g cap cur,v=.slice (some ⟨g,0,none⟩) n cap∧0<cap∧w.heap[g]? = some (.cells cur e (0,0))∧n≤cap∧cap≤maxLen∧cur.size=cap*size∧cur.toList.take (n*size)=vs)
theorem eF.of{w:World}{base e size n:Nat}{v:Value}{vs:List Value}(h:w.ownsRow base e size v n vs):eF w e size v n vs:=by
 obtain⟨h1,h2⟩:=h;refine⟨h1,?_⟩;rcases h2 with⟨rfl,h2⟩|⟨g,cap,cur,rfl,_,h3,h4,h5,h6,h7⟩
 ·exact .inl ⟨h2,none,rfl⟩
 ·by_cases hc:cap=0
  ·subst hc;have:n=0:=by omega
   subst this;exact .inl ⟨rfl,_,rfl⟩
  ·exact .inr ⟨g,cap,cur,rfl,by omega,h3,h4,h5,h6,h7⟩
theorem eF.slice{w:World}{e size n:Nat}{v:Value}{vs:List Value}(h:eF w e size v n vs):∃A c,v=.slice A n c:=by
 rcases h.2 with⟨h0,A,rfl⟩|⟨g,cap,cur,rfl,_⟩
 ·subst h0;exact⟨A,0,rfl⟩
 ·exact⟨_,_,rfl⟩
theorem eF.one{w:World}{e size n:Nat}{v:Value}{vs:List Value}(h:eF w e size v n vs):v.cells=#[v]∧v.oneCell'=true:=by obtain⟨A,c,rfl⟩:=h.slice;exact⟨rfl,by simp[Value.oneCell']⟩
theorem eF.kept{w w':World}{e size n:Nat}{v:Value}{vs:List Value}(ho:eF w e size v n vs)(hk:∀g,ob v=some g→w'.heap[g]? = w.heap[g]?):eF w' e size v n vs:=by
 obtain⟨h1,h2⟩:=ho;refine⟨h1,?_⟩;rcases h2 with h2|⟨g,cap,cur,rfl,hc,hh,r⟩
 ·exact .inl h2
 ·exact .inr ⟨g,cap,cur,rfl,hc,(hk g (by simp only[ob];rw[if_neg (by omega)])).trans hh,r⟩
def jH(Z:Nat→Prop)(w:World):(ok:OK)→Value→ok.T→Prop
 |.row ty k,v,xs=>∃vs,eF w ty k.sz v xs.length vs∧nE Z w k xs vs
 |.map kk vk,v,es=>∃m b5 clock,v=.map (some m)∧w.heap[m]? = some (.map b5 clock)∧Fl (aL Z w kk) (aL Z w vk) kk.isAgg vk.isAgg es b5.toList∧b5.toList.Pairwise (fun a b=>a.born≠b.born)∧∀e∈b5.toList,e.born<clock
 |.iter kk vk,v,x=>∃r m since seen b5 clock,v=.pointer (some ⟨r,0,none⟩)∧w.heap[r]? = some (.mapIter (some m) since seen clock)∧Z m∧w.heap[m]? = some (.map b5 clock) ∧ b5.toList.Pairwise (fun a b=>a.born≠b.born)∧since=clock∧(∀e∈b5.toList,e.born<clock)∧Fl (aL Z w kk) (aL Z w vk) kk.isAgg vk.isAgg x.2 (b5.toList.filter fun e => !seen.contains e.born) ∧(match x.1 with|none=>True|some c=>∃e∈b5.toList,seen.back? = some e.born∧Fl (aL Z w kk) (aL Z w vk) kk.isAgg vk.isAgg [c] [e])
 |.nW,v,x=>∃r,v=.pointer (some ⟨r,0,none⟩)∧w.heap[r]? = some (.stringIter x.1 x.2)
theorem jH.lt{Z:Nat→Prop}{w:World}:∀{ok:OK} {v:Value} {x:ok.T} {b:Nat},jH Z w ok v x→ob v=some b→b<w.heap.size
 |.row ty k,v,xs,b,h,hb=>by
  obtain⟨vs,⟨_,h⟩,_⟩:=h;rcases h with⟨_,A,rfl⟩|⟨g,cap,cur,rfl,hc,h2,_⟩
  ·cases A<;>simp[ob]at hb
  ·simp only[ob]at hb;rw[if_neg (by omega)]at hb
   cases hb
   exact(acr.1 h2).1
 |.map _ _,v,_,b,h,hb=>by obtain⟨m,b5,clock,rfl,h2,_⟩:=h;simp only[ob,Option.some.injEq]at hb;subst hb;exact(acr.1 h2).1
 |.iter _ _,v,_,b,h,hb=>by obtain⟨r,m,since,seen,b5,clock,rfl,h2,_⟩:=h;simp only[ob,Option.some.injEq]at hb;subst hb;exact(acr.1 h2).1
 |.nW,v,_,b,h,hb=>by obtain⟨r,rfl,h2⟩:=h;simp only[ob,Option.some.injEq]at hb;subst hb;exact(acr.1 h2).1
theorem jH.one{Z:Nat→Prop}{w:World}:∀{ok:OK} {v:Value} {x:ok.T},jH Z w ok v x→v.cells=#[v]∧v.oneCell'=true
 |.row ty k,v,xs,h=>by obtain⟨vs,h,_⟩:=h;obtain⟨A,c,rfl⟩:=h.slice;exact⟨rfl,by simp[Value.oneCell']⟩
 |.map _ _,v,_,h=>by obtain⟨m,b5,clock,rfl,_⟩:=h;exact⟨rfl,by simp[Value.oneCell']⟩
 |.iter _ _,v,_,h=>by obtain⟨r,m,since,seen,b5,clock,rfl,_⟩:=h;exact⟨rfl,by simp[Value.oneCell']⟩
 |.nW,v,_,h=>by obtain⟨r,rfl,_⟩:=h;exact⟨rfl,by simp[Value.oneCell']⟩
theorem jH.kept{Z Z':Nat→Prop}{w w':World}(hz:∀b,Z b→Z' b)(sm:cy Z w w'):∀{ok:OK} {v:Value} {x:ok.T},(∀g,ob v=some g→w'.heap[g]? = w.heap[g]?)→jH Z w ok v x→jH Z' w' ok v x
 |.row ty k,v,xs,hk,h=>by obtain⟨vs,h1,h2⟩:=h;exact⟨vs,h1.kept hk,fun i x hx=>(h2 i x hx).mono hz sm⟩
 |.map _ _,v,_,hk,h=>by obtain⟨m,b5,clock,rfl,h2,h3,h4⟩:=h;exact⟨m,b5,clock,rfl,(hk m rfl).trans h2,h3.imp (fun _ _ h=>h.mono hz sm) (fun _ _ h=>h.mono hz sm),h4⟩
 |.iter _ _,v,x,hk,h=>by
  obtain⟨r,m,since,seen,b5,clock,rfl,h2,h3,h4,h5,h6,h7,h8,h9⟩:=h;refine⟨r,m,since,seen,b5,clock,rfl,(hk r rfl).trans h2,hz _ h3,(sm m h3).trans h4,h5,h6,h7,h8.imp (fun _ _ h=>h.mono hz sm) (fun _ _ h=>h.mono hz sm),?_⟩
  split
  ·trivial
  ·rename_i c hc;rw[hc]at h9;obtain⟨e,he,nF,zq⟩:=h9;exact⟨e,he,nF,zq.imp (fun _ _ h=>h.mono hz sm) (fun _ _ h=>h.mono hz sm)⟩
 |.nW,v,_,hk,h=>by obtain⟨r,rfl,h2⟩:=h;exact⟨r,rfl,(hk r rfl).trans h2⟩
structure Good(Z:Nat→Prop)(ψ:Nat→Value)(h:Hp)(w:World)(B0:Nat)(O:Nat→Prop):Prop where
 box:∀id ty cs,h id=some (.box ty cs)→∃g vs,ψ id=.pointer (some ⟨g,0,none⟩)∧w.heap[g]? = some (.cells vs ty (0,0))∧aq Z ψ h w cs vs.toList∧∀u∈vs.toList,u.oneCell'=true
 row:∀id ok x,h id=some (.own ok x)→jH Z w ok (ψ id) x
 live:∀id g,h id≠none→ob (ψ id)=some g→¬Z g∧(B0≤g∨O g)
 apart:∀id mJ g,h id≠none→h mJ≠none→ob (ψ id)=some g→ob (ψ mJ)=some g→id=mJ
 jO:∀b,Z b→b<w.heap.size
variable {Z Z':Nat→Prop} {ψ ψ':Nat→Value} {h h':Hp} {w w':World} {B0:Nat} {O:Nat→Prop}
theorem Good.sub(g:Good Z ψ h w B0 O)(hs:∀id o,h' id=some o→h id=some o):Good Z ψ h' w B0 O:=by
 have hn:∀id,h' id≠none→h id≠none:=fun id hn=>by obtain⟨o,ho⟩:=ac9.1 hn;rw[hs id o ho];simp
 refine⟨fun id ty cs hb=>?_,fun id ok x hb=>g.row id ok x (hs _ _ hb),fun id b h1 h2=>g.live id b (hn id h1) h2,fun id mJ b h1 h2 h3 h4=>g.apart id mJ b (hn _ h1) (hn _ h2) h3 h4,g.jO⟩;obtain⟨b,vs,h1,h2,h3,h4⟩:=g.box id ty cs (hs _ _ hb);exact⟨b,vs,h1,h2,aq.less (fun _ h=>h) (cy.refl _ _) (fun id bS=>⟨hn id bS,rfl⟩) h3,h4⟩
theorem Good.freeze(g:Good Z ψ h w B0 O)(hs:∀id o,h' id=some o→h id=some o)(hz:∀b,Z b→Z' b) (Pw:∀b,Z' b→Z b∨∃id,h id≠none∧h' id=none∧ob (ψ id)=some b):Good Z' ψ h' w B0 O:=by
 have hn:∀id,h' id≠none→h id≠none:=fun id hn=>by obtain⟨o,ho⟩:=ac9.1 hn;rw[hs id o ho];simp
 have lt:∀id b,h id≠none→ob (ψ id)=some b→b<w.heap.size:=by
  intro id b h1 h2;obtain⟨o,ho⟩:=ac9.1 h1
  cases o with
  |box ty cs =>obtain⟨gg,vs,e1,e2,_⟩:=g.box id ty cs ho;rw[e1]at h2;simp only[ob,Option.some.injEq]at h2;subst h2;exact(acr.1 e2).1
  |own ok x=>exact(g.row id ok x ho).lt h2
 refine⟨fun id ty cs hb=>?_,fun id ok x hb=>?_,fun id b h1 h2=>⟨fun hzb=>?_,(g.live id b (hn id h1) h2).2⟩,fun id mJ b h1 h2 h3 h4=>g.apart id mJ b (hn _ h1) (hn _ h2) h3 h4,fun b hb=>?_⟩
 ·obtain⟨b,vs,h1,h2,h3,h4⟩:=g.box id ty cs (hs _ _ hb);exact⟨b,vs,h1,h2,aq.less hz (cy.refl _ _) (fun id bS=>⟨hn id bS,rfl⟩) h3,h4⟩
 ·exact(g.row id ok x (hs _ _ hb)).kept hz (cy.refl _ _) (fun _ _=>rfl)
 ·rcases Pw b hzb with h3|⟨mJ,h3,h4,h5⟩
  ·exact(g.live id b (hn id h1) h2).1 h3
  ·have:=g.apart id mJ b (hn id h1) h3 h2 h5;subst this;exact h1 h4
 ·rcases Pw b hb with h3|⟨mJ,h3,h4,h5⟩
  ·exact g.jO b h3
  ·exact lt mJ b h3 h5
theorem uT{ty:TypeId}{k:K}{xs:List k.T}{v:Value}{vs:List Value}(ho:eF w ty k.sz v xs.length vs)(hv:nE Z w k xs vs)(hz:∀b,Z b→Z' b)(hb:∀b,ob v=some b→Z' b) :
  aL Z' w (.sl k) xs [v]:=by
 simp only[aL];refine⟨v,rfl,?_⟩;obtain⟨hl,e⟩:=ho;rcases e with⟨h0,A,rfl⟩|⟨g,cap,cur,rfl,Kd,hh,hc,_,hs,afs⟩
 ·have:xs=[]:=adx h0;subst this;exact⟨A,0,rfl,adj _,fun _=>rfl,fun i x hx=>by simp at hx⟩
 ·refine⟨some ⟨g,0,none⟩,cap,rfl,hc,fun e=>(by cases e),fun i x hx=>?_⟩;have hi:i<xs.length:=(aci.1 hx).1;refine⟨⟨g,0,none⟩,_,rfl,hb g (by simp only[ob];rw[if_neg (by omega)]),(hv i x hx).mono hz (cy.refl _ _),fun j u hu=>?_⟩;rw[cS,Nat.zero_add];simp only[World.cell?,hh];rw[List.getElem?_take]at hu
  split at hu
  ·rename_i hj;rw[List.getElem?_drop]at hu;rw[←afs,List.getElem?_take]at hu
   split at hu
   ·simpa using hu
   ·cases hu
  ·cases hu
theorem D0{hh:Heap}{a:AV}{v:Value}(g:Good Z ψ hh.get w B0 O)(hz:∀b,Z b→Z' b)(hb:∀id b,a=.bK id→hh.get id≠none→ob (ψ id)=some b→Z' b)(hr:aC Z ψ hh.get w a v):aC Z' ψ hh.get w (cP hh a) v:=by
 unfold cP
 split
 ·rename_i id
  split
  ·rename_i ty k xs hg;simp only[aC]at hr;have hv:=hr.2 (by rw[hg];simp);subst hv;obtain⟨vs,h1,h2⟩:=g.row id (.row ty k) xs hg;simp only[aC];exact⟨uT h1 h2 hz (fun b XT=>hb id b rfl (by rw[hg];simp) XT),by simp⟩
  ·rename_i kk vk es hg;simp only[aC]at hr;have hv:=hr.2 (by rw[hg];simp);subst hv;obtain⟨m,b5,clock,h1,h2,h3,_⟩:=g.row id (.map kk vk) es hg;simp only[aC,aL];refine⟨some m,by rw[h1],.inr ⟨m,b5,clock,rfl,hb id m rfl (by rw[hg];simp) (by rw[h1];rfl),h2,h3.imp (fun _ _ h=>h.mono hz (cy.refl _ _)) (fun _ _ h=>h.mono hz (cy.refl _ _))⟩⟩
  ·simp only[aC]
 ·exact hr.less hz (cy.refl _ _) (fun id bS=>⟨bS,rfl⟩)
theorem og{hh:Heap}(g:Good Z ψ hh.get w B0 O)(hz:∀b,Z b→Z' b):∀{cs:List AV} {vs:List Value},(∀id b,AV.bK id∈cs→hh.get id≠none→ob (ψ id)=some b→Z' b)→aq Z ψ hh.get w cs vs→aq Z' ψ hh.get w (cs.map (cP hh)) vs
 |[],_,_,hr=>by simpa only[aq,List.map_nil] using hr
 |a::r,_,hb,hr=>by simp only[aq,List.map_cons]at hr ⊢;obtain⟨v,us,rfl,h1,h2⟩:=hr;exact⟨v,us,rfl,D0 g hz (fun id b e=>hb id b (by rw[e];simp)) h1,og g hz (fun id b e=>hb id b (acm _ e)) h2⟩
theorem Nr(hh:Heap)(a:AV):∀id o,(drop1 hh a).get id=some o→hh.get id=some o:=by
 intro id o hg;unfold drop1 at hg
 split at hg
 ·exact(Heap.uS hg).1
 ·exact hg
theorem ep:∀(cs:List AV) (hh:Heap),∀id o,(cM hh cs).get id=some o→hh.get id=some o
 |[],_,_,_,hg=>hg
 |c::r,hh,id,o,hg=>Nr hh c id o (ep r (drop1 hh c) id o hg)
theorem AK:∀(cs:List AV) (hh:Heap) (id:Nat),AV.bK id∈cs→(cM hh cs).get id=none
 |[],_,_,hm=>by simp at hm
 |c::r,hh,id,hm=>by
  simp only[cM];rcases acp.1 hm with rfl|hm
  ·cases hg:(cM (drop1 hh (.bK id)) r).get id with
   |none=>rfl
   |some o =>have:=ep r _ id o hg;simp only[drop1,Heap.gH]at this;cases this
  ·exact AK r _ id hm
theorem pf:∀(cs:List AV) (hh:Heap) (id:Nat),AV.bK id∉cs→(cM hh cs).get id=hh.get id
 |[],_,_,_=>rfl
 |c::r,hh,id,hm=>by
  simp only[cM];rw[pf r _ id (fun h=>hm (List.mem_cons_of_mem _ h))];unfold drop1
  split
  ·rename_i mJ;exact Heap.iz (fun e=>hm (by rw[e];simp)) hh
  ·rfl
def qB(Z:Nat→Prop)(ψ:Nat→Value)(h:Hp)(cs:List AV):Nat→Prop:=fun b=>Z b∨∃id,AV.bK id∈cs∧h id≠none∧ob (ψ id)=some b
theorem iA{hh:Heap}(g:Good Z ψ hh.get w B0 O)(cs:List AV):Good (qB Z ψ hh.get cs) ψ (cM hh cs).get w B0 O :=g.freeze (ep cs hh) (fun _ hb=>.inl hb) (fun b hb=>by
  rcases hb with hb|⟨id,h1,h2,h3⟩
  ·exact .inl hb
  ·exact .inr ⟨id,h2,AK cs hh id h1,h3⟩)
end Go.Vs
namespace Go.Vs
def Own(ψ:Nat→Value)(h:Hp)(b:Nat):Prop:=∃id,h id≠none∧ob (ψ id)=some b
structure dg(ψ:Nat→Value)(h:Hp)(w w':World):Prop where
 os:w'.os=w.os
 tape:w'.tape=w.tape
 output:w'.output=w.output
 size:w.heap.size≤w'.heap.size
 block:∀b,b<w.heap.size→¬Own ψ h b→w'.heap[b]? = w.heap[b]?
structure Next(Z:Nat→Prop)(ψ:Nat→Value)(h:Hp)(w:World)(B0:Nat)(O:Nat→Prop)(N:Nat→Prop)(Z':Nat→Prop)(ψ':Nat→Value)(h':Hp)(w':World):Prop where
 fU:∀b,Z b→Z' b
 eQ:∀b,Z' b→Z b∨Own ψ h b∨w.heap.size≤b
 keep:dg ψ h w w'
 ids:∀id,h' id≠none→(h id≠none∧ψ' id=ψ id)∨N id
 dZ:Good Z' ψ' h' w' B0 O
variable {Z Z':Nat→Prop} {ψ ψ':Nat→Value} {h h':Hp} {w w':World} {B0:Nat} {O:Nat→Prop} {N:Nat→Prop}
theorem dg.refl(ψ:Nat→Value)(h:Hp)(w:World):dg ψ h w w:=⟨rfl,rfl,rfl,adj _,fun _ _ _=>rfl⟩
theorem dg.same(k:dg ψ h w w')(g:Good Z ψ h w B0 O):cy Z w w':=fun b hb=>k.block b (g.jO b hb) (fun⟨id,h1,h2⟩=>(g.live id b h1 h2).1 hb)
theorem Next.same(n:Next Z ψ h w B0 O N Z' ψ' h' w')(g:Good Z ψ h w B0 O):cy Z w w':=n.keep.same g
theorem Next.refl(g:Good Z ψ h w B0 O):Next Z ψ h w B0 O N Z ψ h w :=⟨fun _ h=>h,fun _ h=>.inl h,dg.refl _ _ _,fun _ bS=>.inl ⟨bS,rfl⟩,g⟩
theorem Next.rep(n:Next Z ψ h w B0 O N Z' ψ' h' w')(g:Good Z ψ h w B0 O){a:AV}{v:Value}(hm:aM (fun id=>¬N id) a)(hr:aC Z ψ h w a v):aC Z' ψ' h' w' a v :=hr.move n.fU (n.same g) (fun id hp bS=>(n.ids id bS).resolve_right hp) hm
theorem Good.bT(g:Good Z ψ h w B0 O){b:Nat}(ho:Own ψ h b):b<w.heap.size:=by
 obtain⟨id,h1,h2⟩:=ho;obtain⟨o,ho⟩:=ac9.1 h1
 cases o with
 |box ty cs =>obtain⟨gg,vs,e1,e2,_⟩:=g.box id ty cs ho;rw[e1]at h2;simp only[ob,Option.some.injEq]at h2;subst h2;exact(acr.1 e2).1
 |own ok x=>exact(g.row id ok x ho).lt h2
theorem Good.more(g:Good Z ψ h w B0 O)(k:dg ψ h w w')(sX:∀b,Own ψ h b→w'.heap[b]? = w.heap[b]?) (hold:∀id,¬N id→h' id=h id∧ψ' id=ψ id) (bz:∀id ty cs,h id=some (.box ty cs)→aG (fun i=>¬N i) cs) (PZ:∀id ty cs,N id→h' id=some (.box ty cs)→∃g vs,ψ' id=.pointer (some ⟨g,0,none⟩)∧w'.heap[g]? = some (.cells vs ty (0,0))∧aq Z ψ' h' w' cs vs.toList∧∀u∈vs.toList,u.oneCell'=true) (oi:∀id ok x,N id→h' id=some (.own ok x)→jH Z w' ok (ψ' id) x) (AL:∀id b,N id→h' id≠none→ob (ψ' id)=some b→w.heap.size≤b) (Ke:∀id mJ b,N id→N mJ→h' id≠none→h' mJ≠none→ob (ψ' id)=some b→ob (ψ' mJ)=some b→id=mJ) (hB:B0≤w.heap.size) :
  Next Z ψ h w B0 O N Z ψ' h' w':=by
 have nG:∀id,h' id≠none→(h id≠none∧ψ' id=ψ id)∨N id:=fun id bS=>by
  by_cases hn:N id
  ·exact .inr hn
  ·obtain⟨e1,e2⟩:=hold id hn;exact .inl ⟨by rwa [e1]at bS,e2⟩
 have sm:cy Z w w':=k.same g;have yn:∀id b,¬N id→h' id≠none→ob (ψ' id)=some b→Own ψ h b:=fun id b hn h1 h2=>by obtain⟨e1,e2⟩:=hold id hn;exact⟨id,by rwa [e1]at h1,by rwa [e2]at h2⟩
 refine⟨fun _ h=>h,fun _ h=>.inl h,k,nG,⟨fun id ty cs hb=>?_,fun id ok x hb=>?_,fun id b h1 h2=>?_,fun id mJ b h1 h2 h3 h4=>?_,fun b hb=>aez (g.jO b hb) k.size⟩⟩
 ·by_cases hn:N id
  ·exact PZ id ty cs hn hb
  ·obtain⟨e1,e2⟩:=hold id hn;rw[e1]at hb;obtain⟨gg,vs,h1,h2,h3,h4⟩:=g.box id ty cs hb;have ho:Own ψ h gg:=⟨id,by rw[hb];simp,by rw[h1];rfl⟩;exact⟨gg,vs,by rw[e2,h1],(sX gg ho).trans h2,h3.move (fun _ h=>h) sm (fun i hp bS=>(nG i bS).resolve_right hp) (bz id ty cs hb),h4⟩
 ·by_cases hn:N id
  ·exact oi id ok x hn hb
  ·obtain⟨e1,e2⟩:=hold id hn;rw[e1]at hb;rw[e2];exact(g.row id ok x hb).kept (fun _ h=>h) sm (fun gg Ns=>sX gg ⟨id,by rw[hb];simp,Ns⟩)
 ·by_cases hn:N id
  ·have:=AL id b hn h1 h2;exact⟨fun hz=>by have:=g.jO b hz;omega,.inl (by omega)⟩
  ·obtain⟨e1,e2⟩:=hold id hn;rw[e1]at h1;rw[e2]at h2;exact g.live id b h1 h2
 ·by_cases hn:N id<;>by_cases Kf:N mJ
  ·exact Ke id mJ b hn Kf h1 h2 h3 h4
  ·have:=AL id b hn h1 h3;have:=g.bT (yn mJ b Kf h2 h4);omega
  ·have:=AL mJ b Kf h2 h4;have:=g.bT (yn id b hn h1 h3);omega
  ·obtain⟨e1,e2⟩:=hold id hn;obtain⟨e3,e4⟩:=hold mJ Kf;rw[e1]at h1;rw[e2]at h3;rw[e3]at h2;rw[e4]at h4;exact g.apart id mJ b h1 h2 h3 h4
end Go.Vs
namespace Go.Vs
variable {P:Program} {Z Z':Nat→Prop} {ψ ψ':Nat→Value} {h h':Hp} {w w':World} {B0:Nat} {O:Nat→Prop} {N:Nat→Prop}
theorem rS{α:Type}:∀(vs cs:List α) (off:Nat),off+vs.length≤cs.length→dY cs off vs=cs.take off++vs++cs.drop (off+vs.length)
 |[],cs,off,_=>by simp[dY]
 |v::r,cs,off,hl=>by
  simp only[List.length_cons]at hl;simp only[dY];rw[rS r (cs.set off v) (off+1) (by rw[List.length_set];omega)];have h1:(cs.set off v).take (off+1)=cs.take off++[v]:=by rw[List.take_set,List.take_succ_eq_append_getElem (by omega),List.set_append_right _ _ (by rw[List.length_take];omega)];rw[List.length_take,Nat.min_eq_left (by omega)];simp
  have h2:(cs.set off v).drop (off+1+r.length)=cs.drop (off+(r.length+1)):=by rw[List.drop_set_of_lt (by omega)];congr 1;omega
  rw[h1,h2,List.append_assoc,List.append_assoc,List.append_assoc];rfl
theorem gk{t:TypeId}{b:Bool}(hb:DU P t=some b):(isAgg t).run P w=.ok b w:=by
 unfold DU at hb;obtain⟨d,hd,rfl⟩:=aee.1 hb;simp only[isAgg,Sem.run_bind,run_underlying hd,Result.andThen_ok]
 cases d<;>rfl
theorem sY{t:TypeId}{d:TypeDesc}(hd:P.underlying t=some d):∃i,P.info? t=some i:=by
 unfold Program.underlying at hd
 split at hd
 ·rename_i heq;exact⟨_,heq⟩
 ·rename_i heq;exact⟨_,heq⟩
 ·cases hd
theorem dD{t:TypeId}{i:TypeInfo}(hi:P.info? t=some i):(sizeOf t).run P w=.ok (P.cellsOf t) w:=by simp[sizeOf,typeInfo,hi,Program.cellsOf]
theorem yp{t:TypeId}{b:Bool}(hb:DU P t=some b):∃i,P.info? t=some i:=by unfold DU at hb;obtain⟨d,hd,rfl⟩:=aee.1 hb;exact sY hd
theorem jP{t:TypeId}{cs:List AV}{us:List Value}{a:Addr}{x:AV}(hr:aq Z ψ h w cs us)(hc:∀(j:Nat) u,us[j]? = some u→w.cell? (a.add j)=some u)(hx:eg P t cs=some x) :
  ∃V,(Instr.loadAt t (.pointer (some a))).run P w=.ok V w∧aC Z ψ h w x V:=by
 unfold eg at hx;have hlen:=hr.length
 split at hx
 ·rename_i hb
  split at hx
  ·rename_i hl
   cases hx
   obtain⟨i,hi⟩:=yp hb;refine⟨.agg (us.take (P.cellsOf t)).toArray,?_,by simp only[aC];exact⟨_,rfl,by simpa using hr.take (P.cellsOf t)⟩⟩;have aF:(us.take (P.cellsOf t)).length=P.cellsOf t:=by rw[List.length_take];omega
   have hld:=run_loadCells_list (P:=P) w a (us.take (P.cellsOf t)) (fun j v hv=>hc j v (by
    rw[List.getElem?_take]at hv;split at hv
    ·exact hv
    ·cases hv))
   rw[aF]at hld;simp[Instr.loadAt,Instr.sureAddr,loadVar,gk hb,dD hi,hld]
  ·cases hx
 ·rename_i hb
  split at hx
  ·rename_i c r
   cases hx
   simp only[aq]at hr;obtain⟨v,iY,rfl,h1,h2⟩:=hr;refine⟨v,?_,h1⟩;have:=hc 0 v rfl;rw[DZ]at this;simp[Instr.loadAt,Instr.sureAddr,loadVar,gk hb,this]
  ·cases hx
 ·cases hx
theorem kR{t:TypeId}{i:TypeInfo}(hi:P.info? t=some i)(g off:Nat)(V:Value)(cur:Array Value)(ty:TypeId)(hg:w.heap[g]? = some (.cells cur ty (0,0)))(hs:V.cells.size=P.cellsOf t) (hl:off+V.cells.size≤cur.size) (h1:∀v∈V.cells.toList,v.oneCell'=true) :
  (Instr.storeAt t (.pointer (some ⟨g,off,none⟩)) V).run P w=.ok () (w.setRow g (cur.toList.take off++V.cells.toList++cur.toList.drop (off+V.cells.size)).toArray):=by
 have uU:=run_storeCells_at P g off ty V.cells.toList 0 cur w hg (by simpa using hl) h1;simp only[Nat.add_zero,Array.length_toList]at uU;simp[Instr.storeAt,Instr.sureAddr,storeVar,dD hi,hs,uU]
def eu{α:Type}(f:Nat→α)(i:Nat)(v:α):Nat→α:=fun j=>if j=i then v else f j
theorem bA{α:Type}(f:Nat→α)(i:Nat)(v:α):eu f i v i=v:=by simp[eu]
theorem di{α:Type}(f:Nat→α){i j:Nat}(v:α)(bw:j≠i):eu f i v j=f j:=by simp[eu,bw]
theorem dg.alloc(ψ:Nat→Value)(h:Hp)(w:World)(o:Obj):dg ψ h w (w.alloc o) :=⟨rfl,rfl,rfl,by rw[World.size_alloc];omega,fun b hb _=>heap_alloc_old w o hb⟩
theorem AM(g:Good Z ψ h w B0 O)(hB:B0≤w.heap.size)(id:Nat)(ty:TypeId){cs:List AV}{vs:Array Value}(hN:N id)(hr:aq Z ψ h w cs vs.toList)(h1:∀u∈vs.toList,u.oneCell'=true) (bz:∀i ty cs,h i=some (.box ty cs)→aG (fun i=>i≠id) cs) (hm:aG (fun i=>i≠id) cs) :
  Next Z ψ h w B0 O N Z (eu ψ id (.pointer (some ⟨w.heap.size,0,none⟩))) (eu h id (some (.box ty cs))) (w.alloc (.cells vs ty)):=by
 have n:Next Z ψ h w B0 O (·=id) Z (eu ψ id (.pointer (some ⟨w.heap.size,0,none⟩))) (eu h id (some (.box ty cs))) (w.alloc (.cells vs ty)):=by
  refine g.more (dg.alloc _ _ _ _) (fun b hb=>heap_alloc_old w _ (g.bT hb)) (fun i hi=>⟨di _ _ hi,di _ _ hi⟩) (fun i zn cs' hb=>?_) (fun i zn cs' hi hb=>?_) (fun i ok x hi hb=>?_) (fun i b hi bw hb=>?_) (fun i i' b hi tL _ _ _ _=>by subst hi;exact tL.symm) hB
  ·exact bz i zn cs' hb
  ·subst hi;rw[bA]at hb;cases hb;refine⟨w.heap.size,vs,bA _ _ _,heap_alloc_new _ _,?_,h1⟩;refine hr.move (fun _ h=>h) ((dg.alloc ψ h w _).same g) (fun j hj bw=>?_) hm;rw[di _ _ hj]at bw;exact⟨bw,di _ _ hj⟩
  ·subst hi;rw[bA]at hb;cases hb
  ·subst hi;rw[bA]at hb;simp only[ob,Option.some.injEq]at hb;omega
 exact⟨n.fU,n.eQ,n.keep,fun i hi=>(n.ids i hi).imp (fun h=>h) (fun e=>by subst e;exact hN),n.dZ⟩
theorem P0{h:Hp}{id:Nat}{o:Ob}(bS:h id≠none):∀i,eu h id (some o) i≠none→h i≠none:=fun i hi=>by
 by_cases e:i=id
 ·subst e;exact bS
 ·rwa [di _ _ e]at hi
theorem Good.write(g:Good Z ψ h w B0 O)(id:Nat)(bS:h id≠none)(k:dg ψ h w w')(P1:∀b,ob (ψ id)≠some b→b<w.heap.size→w'.heap[b]? = w.heap[b]?)(o':Ob) (PZ:∀ty cs,o'=.box ty cs→∃gg vs,ψ id=.pointer (some ⟨gg,0,none⟩)∧w'.heap[gg]? = some (.cells vs ty (0,0))∧aq Z ψ h w' cs vs.toList∧∀u∈vs.toList,u.oneCell'=true) (oi:∀ok x,o'=.own ok x→jH Z w' ok (ψ id) x) :
  Next Z ψ h w B0 O N Z ψ (eu h id (some o')) w':=by
 have hs:=P0 (o:=o') bS;have sm:=k.same g;refine⟨fun _ h=>h,fun _ h=>.inl h,k,fun i hi=>.inl ⟨hs i hi,rfl⟩,⟨fun i ty cs hb=>?_,fun i ok x hb=>?_,fun i b h1 h2=>g.live i b (hs i h1) h2,fun i i' b h1 h2 h3 h4=>g.apart i i' b (hs i h1) (hs i' h2) h3 h4,fun b hb=>aez (g.jO b hb) k.size⟩⟩
 ·by_cases e:i=id
  ·subst e;rw[bA]at hb;cases hb;obtain⟨gg,vs,h1,h2,h3,h4⟩:=PZ _ _ rfl;exact⟨gg,vs,h1,h2,h3.less (fun _ h=>h) (cy.refl _ _) (fun j hj=>⟨hs j hj,rfl⟩),h4⟩
  ·rw[di _ _ e]at hb;obtain⟨gg,vs,h1,h2,h3,h4⟩:=g.box i ty cs hb;refine⟨gg,vs,h1,?_,h3.less (fun _ h=>h) sm (fun j hj=>⟨hs j hj,rfl⟩),h4⟩;rw[P1 gg (fun hh=>e (g.apart i id gg (by rw[hb];simp) bS (by rw[h1];rfl) hh)) (Array.getElem?_eq_some_iff.1 h2).1];exact h2
 ·by_cases e:i=id
  ·subst e;rw[bA]at hb;cases hb;exact oi _ _ rfl
  ·rw[di _ _ e]at hb;exact(g.row i ok x hb).kept (fun _ h=>h) sm (fun gg Ns=>P1 gg (fun hh=>e (g.apart i id gg (by rw[hb];simp) bS Ns hh)) (g.bT ⟨i,by rw[hb];simp,Ns⟩))
theorem dg.setRow{gg:Nat}(ho:Own ψ h gg)(arr:Array Value):dg ψ h w (w.setRow gg arr) :=⟨rfl,rfl,rfl,by simp[World.setRow],fun b _ hb=>by have:gg≠b:=fun e=>hb (e▸ho);simp[World.setRow,Array.getElem?_modify,this]⟩
theorem setRow_other{gg b:Nat}(arr:Array Value)(bw:gg≠b):(w.setRow gg arr).heap[b]? = w.heap[b]? := by simp[World.setRow,Array.getElem?_modify,bw]
theorem AO(g:Good Z ψ h w B0 O){id:Nat}{ty:TypeId}{cs vs:List AV}(hb:h id=some (.box ty cs)){t:TypeId}{i:TypeInfo}(hi:P.info? t=some i){off:Nat}{V:Value} (hv:aq Z ψ h w vs V.cells.toList) (h1:∀u∈V.cells.toList,u.oneCell'=true) (hs:V.cells.size=P.cellsOf t) (hl:off+vs.length≤cs.length) {a:Addr} (ha:a=⟨Uz (ψ id),off,none⟩) :
  ∃w',(Instr.storeAt t (.pointer (some a)) V).run P w=.ok () w'∧Next Z ψ h w B0 O N Z ψ (eu h id (some (.box ty (dY cs off vs)))) w':=by
 obtain⟨gg,arr,e1,e2,e3,e4⟩:=g.box id ty cs hb;have hlen:=hv.length;have P2:=e3.length;simp only[Array.length_toList]at hlen P2;have bS:h id≠none:=by rw[hb];simp
 have ho:Own ψ h gg:=⟨id,bS,by rw[e1];rfl⟩;rw[e1]at ha;simp only[Uz]at ha;subst ha;refine⟨_,kR hi gg off V arr ty e2 hs (by omega) h1,?_⟩;have kk:=dg.setRow (w:=w) ho ((arr.toList.take off++V.cells.toList++arr.toList.drop (off+V.cells.size)).toArray);refine g.write id bS kk (fun b hb _=>setRow_other _ (fun e=>hb (by rw[e1];simp[ob,e]))) _ (fun zn cs' he=>?_) (fun _ _ he=>by cases he)
 cases he
 refine⟨gg,_,e1,setRow_heap w gg arr _ ty _ e2,?_,?_⟩
 ·rw[rS _ _ _ hl];have h5:aq Z ψ h w (cs.take off++vs++cs.drop (off+vs.length)) (arr.toList.take off++V.cells.toList++arr.toList.drop (off+V.cells.size)):=by rw[←hlen];exact((e3.take off).append hv).append (e3.drop (off+vs.length))
  exact h5.less (fun _ h=>h) (kk.same g) (fun j hj=>⟨hj,rfl⟩)
 ·intro u hu;rw[List.toList_toArray]at hu;rcases ac8.1 hu with hu|hu
  ·rcases ac8.1 hu with hu|hu
   ·exact e4 u (List.mem_of_mem_take hu)
   ·exact h1 u hu
  ·exact e4 u (aeS hu)
theorem XU{α:Type}(cur V:List α)(m off sz L:Nat)(h:off+V.length≤sz)(h1:m+sz≤L)(h2:L≤cur.length) :
  ((cur.take (m+off)++V++cur.drop (m+off+V.length)).take L |>.drop m |>.take sz)=((cur.drop m).take sz).take off++V++((cur.drop m).take sz).drop (off+V.length):=by
 apply aeN;intro q;simp only[List.getElem?_take,List.getElem?_drop,List.getElem?_append,List.length_append,List.length_take,List.length_drop];rw[Nat.min_eq_left (show m+off≤cur.length by omega),Nat.min_eq_left (show off≤min sz (cur.length-m) by omega)]
 repeat' split
 all_goals first|rfl|(exfalso;omega)|(congr 1;omega)|(rw[List.getElem?_eq_none (by omega)])
theorem UA{α:Type}(cur V:List α)(m off sz L p:Nat)(h:off+V.length≤sz)(h1:m+sz≤L)(h2:L≤cur.length)(h3:p+sz≤L)(h4:p+sz≤m∨m+sz≤p) :
  ((cur.take (m+off)++V++cur.drop (m+off+V.length)).take L |>.drop p |>.take sz)=(cur.drop p).take sz:=by
 apply aeN;intro q;simp only[List.getElem?_take,List.getElem?_drop,List.getElem?_append,List.length_append,List.length_take];rw[Nat.min_eq_left (show m+off≤cur.length by omega)]
 repeat' split
 all_goals first|rfl|(exfalso;omega)|(congr 1;omega)|(rw[List.getElem?_eq_none (by omega)])
theorem aL.AP{k:K}{x:k.T}{vs us:List Value}(e:vs=us)(hr:aL Z w k x vs):aL Z w k x us:=e▸hr
theorem AQ(g:Good Z ψ h w B0 O){id:Nat}{ty:TypeId}{kk:K}{xs:List kk.T}(hb:h id=some (.own (.row ty kk) xs)){t:TypeId}{i:TypeInfo}(hi:P.info? t=some i){n off:Nat}{x y:kk.T}{V:Value} (hx:xs[n]? = some x) (hs:V.cells.size=P.cellsOf t) (hl:off+V.cells.size≤kk.sz) {a:Addr} (ha:a=⟨Uz (ψ id),n*kk.sz+off,none⟩) (hy:∀us,aL Z w kk x us→aL Z w kk y (us.take off++V.cells.toList++us.drop (off+V.cells.size))) (h1:∀u∈V.cells.toList,u.oneCell'=true) :
  ∃w',(Instr.storeAt t (.pointer (some a)) V).run P w=.ok () w'∧Next Z ψ h w B0 O N Z ψ (eu h id (some (.own (.row ty kk) (xs.set n y)))) w':=by
 obtain⟨vs,ho,hv⟩:=g.row id (.row ty kk) xs hb;have bS:h id≠none:=by rw[hb];simp
 have hn:n<xs.length:=(aci.1 hx).1;have Kd:=kk.iy;have hmul:n*kk.sz+kk.sz≤xs.length*kk.sz:=by rw[←Nat.succ_mul];exact adB _ hn
 obtain⟨hl1,e⟩:=ho;rcases e with⟨h0,_⟩|⟨gg,cap,cur,e1,e2,e3,e4,e5,e6,e7⟩
 ·omega
 have XV:xs.length*kk.sz≤cap*kk.sz:=adB _ e4;have mE:ob (ψ id)=some gg:=by rw[e1];simp only[ob];rw[if_neg (by omega)]
 have ho:Own ψ h gg:=⟨id,bS,mE⟩;have He:a=⟨gg,n*kk.sz+off,none⟩:=by rw[ha,e1];rfl
 subst He;refine⟨_,kR hi gg (n*kk.sz+off) V cur ty e3 hs (by omega) h1,?_⟩;have hk:=dg.setRow (w:=w) ho ((cur.toList.take (n*kk.sz+off)++V.cells.toList++cur.toList.drop (n*kk.sz+off+V.cells.size)).toArray);have sm:=hk.same g;refine g.write id bS hk (fun b hb _=>setRow_other _ (fun e=>hb (by rw[mE,e]))) _ (fun _ _ he=>by cases he) (fun ZF x' he=>?_)
 cases he
 have tM:cur.toList.length=cap*kk.sz:=by rw[Array.length_toList];exact e6
 have hVl:V.cells.toList.length=V.cells.size:=Array.length_toList
 let jl:=cur.toList.take (n*kk.sz+off)++V.cells.toList++cur.toList.drop (n*kk.sz+off+V.cells.size)
 have Kg:jl.length=cap*kk.sz:=by simp only[jl,List.length_append,List.length_take,List.length_drop,tM,hVl];omega
 have UB:(xs.set n y).length=xs.length:=List.length_set;have tN:vs=cur.toList.take (xs.length*kk.sz):=e7.symm;refine⟨jl.take (xs.length*kk.sz),⟨by rw[List.length_take,Kg,UB];omega,.inr ⟨gg,cap,jl.toArray,by rw[UB];exact e1,e2,setRow_heap w gg cur _ ty _ e3,by rw[UB];exact e4,e5,by simpa using Kg,by rw[UB]⟩⟩,fun j z hz=>?_⟩;have hj:j<xs.length:=by have:=(aci.1 hz).1;rwa [UB]at this
 have hmj:j*kk.sz+kk.sz≤xs.length*kk.sz:=by rw[←Nat.succ_mul];exact adB _ hj
 have aak:∀p,p+kk.sz≤xs.length*kk.sz→(vs.drop p).take kk.sz=(cur.toList.drop p).take kk.sz:=fun p hp=>by rw[tN,List.drop_take,List.take_take,Nat.min_eq_left (by omega)]
 by_cases Px:j=n
 ·subst Px;rw[List.getElem?_set_self hn]at hz;cases hz;have hu:=hy _ (hv j x hx);rw[aak _ hmj,←hVl]at hu;refine aL.mono (fun _ h=>h) sm (aL.AP ?_ hu);have:=XU cur.toList V.cells.toList (j*kk.sz) off kk.sz (xs.length*kk.sz) (by omega) hmj (by omega);rw[←this,hVl]
 ·rw[List.getElem?_set_ne (fun e=>Px e.symm)]at hz;have hu:=hv j z hz;rw[aak _ hmj]at hu;refine aL.mono (fun _ h=>h) sm (aL.AP ?_ hu);have h4:j*kk.sz+kk.sz≤n*kk.sz∨n*kk.sz+kk.sz≤j*kk.sz:=by
   rcases aeT j n with h|h
   ·left;rw[←Nat.succ_mul];exact adB _ h
   ·right;rw[←Nat.succ_mul];exact adB _ (by omega)
  have:=UA cur.toList V.cells.toList (n*kk.sz) off kk.sz (xs.length*kk.sz) (j*kk.sz) (by omega) hmul (by omega) hmj h4;rw[←this,hVl]
theorem tO{k:K}{ys:List k.T}{u:Value}(hr:aL Z w (.sl k) ys [u]) :
  (u=.slice none 0 0∧ys=[])∨∃a c news,u=.slice (some a) ys.length c∧ys.length≤c∧news.length=ys.length*k.sz∧(∀(j:Nat) q,news[j]? = some q→w.cell? (a.add j)=some q)∧(∀q∈news,q.oneCell'=true)∧nE Z w k ys news:=by
 simp only[aL]at hr;obtain⟨v,hv,A,c,rfl,hl,hn,he⟩:=hr
 cases hv
 cases A with
 |none =>
  left
  cases ys with
  |nil=>exact⟨by rw[hn rfl];rfl,rfl⟩
  |cons y r=>obtain⟨a,us,h1,_⟩:=he 0 y rfl;cases h1
 |some a =>
  right;have XW:∀i (hi:i<ys.length),∃us,aL Z w k ys[i] us∧∀(j:Nat) u,us[j]? = some u→w.cell? (a.add (i*k.sz+j))=some u:=fun i hi=>by
   obtain⟨a',us,h1,_,h3,h4⟩:=he i _ (aaY hi)
   cases h1
   exact⟨us,h3,h4⟩
  have Kd:=k.iy
  let news:=(List.range (ys.length*k.sz)).map fun j=>(w.cell? (a.add j)).getD default
  have D1:∀j,j<ys.length*k.sz→∃q,w.cell? (a.add j)=some q∧q.oneCell'=true:=fun j hj=>by
   have hi:j / k.sz<ys.length:=Nat.div_lt_of_lt_mul (by rw[Nat.mul_comm];exact hj);obtain⟨us,h3,h4⟩:=XW (j / k.sz) hi;have hm:j%k.sz<us.length:=by rw[h3.len];exact aeV _ Kd
   refine⟨us[j%k.sz],?_,h3.one _ (adv hm)⟩;have:=h4 (j%k.sz) _ (aaY hm)
   rwa [Nat.mul_comm,Nat.div_add_mod]at this
  have nH:∀j,j<ys.length*k.sz→∃q,news[j]? = some q∧w.cell? (a.add j)=some q:=fun j hj=>by obtain⟨q,hq,_⟩:=D1 j hj;exact⟨q,by simp[news,List.getElem?_map,List.getElem?_range hj,hq],hq⟩
  have hlen:news.length=ys.length*k.sz:=by simp[news]
  refine⟨a,c,news,rfl,hl,hlen,fun j q hq=>?_,fun q hq=>?_,fun i x hx=>?_⟩
  ·have hj:j<ys.length*k.sz:=by rw[←hlen];exact(aci.1 hq).1
   obtain⟨q',h1,h2⟩:=nH j hj;rw[h1]at hq;cases hq;exact h2
  ·obtain⟨j,hj,rfl⟩:=List.mem_iff_getElem.1 hq;obtain⟨q',h1,h2⟩:=nH j (by omega);obtain⟨q2,h3,h4⟩:=D1 j (by omega);rw[List.getElem?_eq_getElem hj]at h1;cases h1;rw[h2]at h3;cases h3;exact h4
  ·have hi:i<ys.length:=(aci.1 hx).1;obtain⟨us,h3,h4⟩:=XW i hi;rw[List.getElem?_eq_getElem hi]at hx;cases hx;refine aL.AP ?_ h3;have hul:=h3.len;have hmul:i*k.sz+k.sz≤ys.length*k.sz:=by rw[←Nat.succ_mul];exact adB _ hi
   apply aeN;intro q;rw[List.getElem?_take,List.getElem?_drop];by_cases hq:q<k.sz
   ·rw[if_pos hq];obtain⟨q',h5,h6⟩:=nH (i*k.sz+q) (by omega);rw[h5];have h7:=h4 q _ (aaY (by omega));rw[List.getElem?_eq_getElem (by omega)];rw[h6]at h7;cases h7;rfl
   ·rw[if_neg hq,List.getElem?_eq_none (by omega)]
theorem Nt{hh:Heap}(g:Good Z ψ hh.get w B0 O){x:AV}{u:Value}{k:K}{ys:List k.T}(hx:rowOf hh x k=some ys)(hr:aC Z ψ hh.get w x u) :
  (u=.slice none 0 0∧ys=[])∨∃a c news,u=.slice (some a) ys.length c∧ys.length≤c∧news.length=ys.length*k.sz∧(∀(j:Nat) q,news[j]? = some q→w.cell? (a.add j)=some q)∧(∀q∈news,q.oneCell'=true)∧nE Z w k ys news:=by
 unfold rowOf at hx
 split at hx
 ·rename_i ex k' xs heq
  split at hx
  ·rename_i e;subst e
   cases hx
   cases x with
   |sl ex' k'' xs' =>
    simp only[cP]at heq
    cases heq
    simp only[aC]at hr;exact tO hr.1
   |bK id =>
    simp only[cP]at heq
    split at heq
    ·rename_i ty kk zs hg
     cases heq
     simp only[aC]at hr;have hv:=hr.2 (by rw[hg];simp);subst hv;obtain⟨vs,ho,hv⟩:=g.row id (.row ty _) _ hg;have h1:=tO (uT (Z':=fun b=>Z b∨ob (ψ id)=some b) ho hv (fun b hb=>.inl hb) (fun b hb=>.inr hb));rcases h1 with h1|⟨a,c,news,h1,h2,h3,h4,h5,_⟩
     ·exact .inl h1
     ·right;refine⟨a,c,news,h1,h2,h3,h4,h5,?_⟩;have UC:news=vs:=by
       obtain⟨hl,e⟩:=ho;rcases e with⟨e,_⟩|⟨gg,cap,cur,e,_,e3,_,_,_,e7⟩
       ·rw[e,Nat.zero_mul]at h3 hl;rw[List.eq_nil_of_length_eq_zero h3,List.eq_nil_of_length_eq_zero hl]
       ·rw[e]at h1;cases h1;apply aeN;intro j;by_cases hj:j<xs.length*k'.sz
        ·have hn:=h4 j _ (aaY (by omega));rw[cS,Nat.zero_add]at hn;simp only[World.cell?,e3]at hn;have yq:vs[j]? = cur.toList[j]? := by rw[←e7,List.getElem?_take,if_pos hj]
         rw[yq,List.getElem?_eq_getElem (by omega)];simpa using hn.symm
        ·rw[List.getElem?_eq_none (by omega),List.getElem?_eq_none (by omega)]
      rw[UC];exact hv
    ·cases heq
    ·cases heq
   |_=>simp only[cP]at heq<;>cases heq
  ·cases hx
 ·rename_i heq
  cases hx
  cases x with
  |fZ=>simp only[aC]at hr;exact .inl ⟨hr,rfl⟩
  |bK id=>simp only[cP]at heq;split at heq<;>cases heq
  |_=>simp only[cP]at heq<;>cases heq
 ·cases hx
structure nI(P:Program)(e:TypeId)(k:K)(i:TypeInfo)(z:Value):Prop where
 info:P.info? e=some i
 zero:i.zero=some z
 size:i.size=k.sz
 uV:z.cells.size=k.sz
 bytes:i.bytes≤65536
theorem cv{e:TypeId}{k:K}(he:Fh P e k=true):∃i z,nI P e k i z:=by
 unfold Fh at he
 split at he
 ·rename_i i hi
  split at he
  ·rename_i z hz;simp only[Bool.and_eq_true,decide_eq_true_eq]at he;exact⟨i,z,hi,hz,he.1,he.2.1,he.2.2⟩
  ·cases he
 ·cases he
theorem nE.append{k:K}{xs ys:List k.T}{vs us:List Value}(h1:nE Z w k xs vs)(h2:nE Z w k ys us)(hl:vs.length=xs.length*k.sz):nE Z w k (xs++ys) (vs++us):=fun i x hx=>by
 by_cases hi:i<xs.length
 ·rw[List.getElem?_append_left hi]at hx;have hm:i*k.sz+k.sz≤xs.length*k.sz:=by rw[←Nat.succ_mul];exact adB _ hi
  have h3:=h1 i x hx;rw[List.drop_append_of_le_length (by omega),List.take_append_of_le_length (by rw[List.length_drop];omega)];exact h3
 ·rw[List.getElem?_append_right (by omega)]at hx;have h3:=h2 (i-xs.length) x hx;have e:i*k.sz=vs.length+(i-xs.length)*k.sz:=by rw[hl,←Nat.add_mul];congr 1;omega
  rw[e,List.drop_append,List.drop_eq_nil_of_le (by omega),List.nil_append,Nat.add_sub_cancel_left];exact h3
theorem nE.Hf{k:K}{xs:List k.T}{vs:List Value}(h:nE Z w k xs vs)(sm:cy Z w w'):nE Z w' k xs vs:=fun i x hx=>(h i x hx).mono (fun _ h=>h) sm
theorem Hg(g:Good Z ψ h w B0 O)(hB:B0≤w.heap.size)(id:Nat)(hN:N id){ok:OK}{x:ok.T}{v:Value}(kk:dg ψ h w w')(sX:∀b,Own ψ h b→w'.heap[b]? = w.heap[b]?) (ho:jH Z w' ok v x) (hb:∀b,ob v=some b→w.heap.size≤b) (bz:∀i ty cs,h i=some (.box ty cs)→aG (fun i=>i≠id) cs) :
  Next Z ψ h w B0 O N Z (eu ψ id v) (eu h id (some (.own ok x))) w':=by
 have n:Next Z ψ h w B0 O (·=id) Z (eu ψ id v) (eu h id (some (.own ok x))) w':=by
  refine g.more kk sX (fun i hi=>⟨di _ _ hi,di _ _ hi⟩) (fun i zn cs' hb=>bz i zn cs' hb) (fun i zn cs' hi hb=>?_) (fun i ok x hi hb=>?_) (fun i b hi bw XT=>?_) (fun i i' b hi tL _ _ _ _=>by subst hi;exact tL.symm) hB
  ·subst hi;rw[bA]at hb;cases hb
  ·subst hi;rw[bA]at hb;cases hb;rw[bA];exact ho
  ·subst hi;rw[bA]at XT;exact hb b XT
 exact⟨n.fU,n.eQ,n.keep,fun i hi=>(n.ids i hi).imp (fun h=>h) (fun e=>by subst e;exact hN),n.dZ⟩
theorem qS(g:Good Z ψ h w B0 O)(hB:B0≤w.heap.size)(id:Nat)(ty:TypeId)(hN:N id){k:K}{xs:List k.T}{vs:List Value}{v:Value}(kk:dg ψ h w w')(sX:∀b,Own ψ h b→w'.heap[b]? = w.heap[b]?) (ho:eF w' ty k.sz v xs.length vs) (hv:nE Z w' k xs vs) (hb:∀b,ob v=some b→w.heap.size≤b) (bz:∀i ty cs,h i=some (.box ty cs)→aG (fun i=>i≠id) cs) :
  Next Z ψ h w B0 O N Z (eu ψ id v) (eu h id (some (.own (.row ty k) xs))) w':=Hg g hB id hN (ok:=.row ty k) kk sX ⟨vs,ho,hv⟩ hb bz
theorem dg.grown{row:Option Nat}(hg:w.grownBy w' row)(hr:∀b,row=some b→Own ψ h b):dg ψ h w w' :=⟨hg.os,hg.tape,hg.output,hg.size,fun b hb hn=>hg.block b hb (fun e=>hn (hr b e.symm))⟩
theorem qT(g:Good Z ψ h w B0 O)(hB:B0≤w.heap.size)(id cV:Nat)(hN:N id){ok:OK}{x y:ok.T}(ho:h cV=some (.own ok x))(bw:cV≠id) (hg:w.grownBy w' (ob (ψ cV))) {v:Value} (hv:jH Z w' ok v y) (hb:ob v=ob (ψ cV)∨∀b,ob v=some b→w.heap.size≤b) (bz:∀i ty cs,h i=some (.box ty cs)→aG (fun i=>i≠id) cs) :
  Next Z ψ h w B0 O N Z (eu ψ id v) (eu (eu h cV none) id (some (.own ok y))) w':=by
 have hold:h cV≠none:=by rw[ho];simp
 have mE:∀b,ob (ψ cV)=some b→ob (ψ cV)=some b:=fun _ h=>h;have kk:dg ψ h w w':=dg.grown hg (fun b e=>⟨cV,hold,mE b e⟩);have sm:=kk.same g;have other:∀i b,h i≠none→i≠cV→ob (ψ i)=some b→w'.heap[b]? = w.heap[b]? := fun i b h1 h2 h3 =>hg.block b (g.bT ⟨i,h1,h3⟩) (fun e=>h2 (g.apart i cV b h1 hold h3 (mE b e.symm)));have at_:∀i,i≠id→eu (eu h cV none) id (some (.own ok y)) i≠none→h i≠none∧i≠cV:=fun i hi h1=>by
  rw[di _ _ hi]at h1;by_cases e:i=cV
  ·subst e;rw[bA]at h1;exact absurd rfl h1
  ·rw[di _ _ e]at h1;exact⟨h1,e⟩
 have ids:∀i,eu (eu h cV none) id (some (.own ok y)) i≠none→(h i≠none∧eu ψ id v i=ψ i)∨i=id:=fun i h1=>by
  by_cases e:i=id
  ·exact .inr e
  ·exact .inl ⟨(at_ i e h1).1,di _ _ e⟩
 have vob:∀b,ob v=some b→ob (ψ cV)=some b∨w.heap.size≤b:=fun b XT=>by
  rcases hb with hb|hb
  ·left;rw[←hb];exact XT
  ·right;exact hb b XT
 refine⟨fun _ h=>h,fun _ h=>.inl h,kk,fun i h1=>(ids i h1).imp (fun h=>h) (fun e=>by subst e;exact hN),⟨fun i zn cs qw=>?_,fun i ZF z qw=>?_,fun i b h1 h2=>?_,fun i i' b h1 h2 h3 h4=>?_,fun b hz=>aez (g.jO b hz) kk.size⟩⟩
 ·by_cases e:i=id
  ·subst e;rw[bA]at qw;cases qw
  ·have Kh:=at_ i e (by rw[qw];simp);rw[di _ _ e,di _ _ Kh.2]at qw;obtain⟨gg,us,h1,h2,h3,h4⟩:=g.box i zn cs qw;refine⟨gg,us,by rw[di _ _ e];exact h1,(other i gg Kh.1 Kh.2 (by rw[h1];rfl)).trans h2,?_,h4⟩;exact h3.move (fun _ h=>h) sm (fun j hj hn=>(ids j hn).resolve_right hj) (bz i zn cs qw)
 ·by_cases e:i=id
  ·subst e;rw[bA]at qw;cases qw;rw[bA];exact hv
  ·have Kh:=at_ i e (by rw[qw];simp);rw[di _ _ e,di _ _ Kh.2]at qw;rw[di _ _ e];exact(g.row i ZF z qw).kept (fun _ h=>h) sm (fun gg Ns=>other i gg Kh.1 Kh.2 Ns)
 ·by_cases e:i=id
  ·subst e;rw[bA]at h2;rcases vob b h2 with h3|h3
   ·exact g.live cV b hold h3
   ·exact⟨fun hz=>by have:=g.jO b hz;omega,.inl (by omega)⟩
  ·rw[di _ _ e]at h2;exact g.live i b (at_ i e h1).1 h2
 ·have key:∀j,j≠id→eu (eu h cV none) id (some (.own ok y)) j≠none→ob (ψ j)=some b→ob v=some b→False:=fun j hj h5 h6 h7=>by
   obtain⟨h8,h9⟩:=at_ j hj h5;rcases vob b h7 with nF|nF
   ·exact h9 (g.apart j cV b h8 hold h6 nF)
   ·have:=g.bT ⟨j,h8,h6⟩;omega
  by_cases e:i=id<;>by_cases e':i'=id
  ·rw[e,e']
  ·subst e;rw[bA]at h3;rw[di _ _ e']at h4;exact(key i' e' h2 h4 h3).elim
  ·subst e';rw[bA]at h4;rw[di _ _ e]at h3;exact(key i e h1 h3 h4).elim
  ·rw[di _ _ e]at h3;rw[di _ _ e']at h4;exact g.apart i i' b (at_ i e h1).1 (at_ i' e' h2).1 h3 h4
def UD(w:World)(sz:Nat)(u:Value)(m:Nat)(news:List Value):Prop :=news.length=m*sz∧(∀q∈news,q.oneCell'=true)∧((u=.slice none 0 0∧m=0)∨∃a c,u=.slice (some a) m c∧∀(j:Nat) q,news[j]? = some q→w.cell? (a.add j)=some q)
theorem Fp{hh:Heap}(g:Good Z ψ hh.get w B0 O){x:AV}{u:Value}{k:K}{ys:List k.T}(hx:rowOf hh x k=some ys)(hr:aC Z ψ hh.get w x u):∃news,UD w k.sz u ys.length news∧nE Z w k ys news:=by
 rcases Nt g hx hr with⟨rfl,rfl⟩|⟨a,c,news,h1,_,h2,h3,h4,h5⟩
 ·exact⟨[],⟨by simp,by simp,.inl ⟨rfl,rfl⟩⟩,fun i x hx=>by simp at hx⟩
 ·exact⟨news,⟨h2,h4,.inr ⟨a,c,h1,h3⟩⟩,h5⟩
theorem fq{t ty e:TypeId}{i:TypeInfo}(ht:P.underlying t=some (.slice e))(hi:P.info? e=some i)(A:Option Addr)(n c:Nat)(hc:n≤c)(A':Option Addr)(c':Nat) :
  (Builtin.append_ #[t,t] ty #[.slice A n c,.slice A' 0 c']).run P w=.ok (.slice A n c) w:=by
 cases A<;>cases A'<;>simp[Builtin.append_,run_underlying ht,sizeOf,typeInfo,hi,Builtin.lenOf,Builtin.firstCells,hc,storeCells,loadCells,loadCellsFrom]
theorem dN{t ty e:TypeId}{k:K}{i:TypeInfo}{z:Value}(ht:P.underlying t=some (.slice e))(he:nI P e k i z){v:Value}{n:Nat}{xs:List Value}(ho:eF w e k.sz v n xs) {u:Value} {m:Nat} {news:List Value} (hu:UD w k.sz u m news) (hm:n+m≤fj) :
  ∃v' w',(Builtin.append_ #[t,t] ty #[v,u]).run P w=.ok v' w'∧eF w' e k.sz v' (n+m) (xs++news)∧w.grownBy w' (ob v)∧(ob v'=ob v∨∀b,ob v'=some b→w.heap.size≤b):=by
 obtain⟨h1,h3,hu⟩:=hu;obtain⟨A0,c0,XX⟩:=ho.slice;by_cases hm0:m=0
 ·subst hm0;have aam:news=[]:=adx (by rw[h1,Nat.zero_mul]);subst aam;have yr:n≤c0:=by
   rcases ho.2 with⟨h0,A,e⟩|⟨g,cap,cur,e,hc,h2,h3,_⟩
   ·omega
   ·rw[XX]at e;cases e;exact h3
  refine⟨v,w,?_,by simpa using ho,World.grownBy.refl w _,.inl rfl⟩;subst XX;rcases hu with⟨rfl,_⟩|⟨a,c,rfl,_⟩<;>exact fq ht he.info A0 n c0 yr _ _
 ·rcases hu with⟨_,h0⟩|⟨a,c,rfl,h2⟩
  ·exact absurd h0 hm0
  have hb:=he.bytes;unfold fj at hm;have lP:(n+m)*i.bytes≤140737488355328:=adC (ae3 hm hb) (by decide);have new:∀v',w.heap.size≤w.heap.size→∀(w':World),w'.ownsRow w.heap.size e k.sz v' (n+m) (xs++news)→∀b,ob v'=some b→w.heap.size≤b:=fun v' _ w' nJ b hb=>by
   rcases nJ.2 with⟨rfl,_⟩|⟨g,cap,cur,rfl,h5,_⟩
   ·simp[ob]at hb
   ·simp only[ob]at hb
    split at hb
    ·cases hb
    ·cases hb;exact h5
  rcases ho.2 with⟨rfl,A,rfl⟩|⟨g,cap,cur,rfl,XV,h4,h5,h6,h7,h8⟩
  ·have yu:xs=[]:=adx (by rw[ho.1,Nat.zero_mul]);subst yu;have mE:ob (.slice A 0 0)=none:=by cases A<;>simp[ob]
   cases A with
   |none =>obtain⟨v',w',hr,h4,h5,_,h6⟩:=run_append_own_at (P:=P) w w.heap.size t ty e i z k.sz i.bytes ht he.info he.zero he.size rfl he.uV k.iy (.slice none 0 0) 0 [] ⟨by simp,.inl ⟨rfl,rfl⟩⟩ a m c news h1 h2 h3 (by simp only[maxLen];omega) lP (adj _);exact⟨v',w',hr,eF.of h4,by rw[mE];exact h5,.inr (new v' (adj _) w' h4)⟩
   |some b0 =>obtain⟨v',w',hr,h4,h5⟩:=run_append_arg_grows (P:=P) w t ty e i z k.sz i.bytes ht he.info he.zero he.size rfl he.uV k.iy b0 0 0 [] (by simp) (by simp) a m c news h1 h2 (by omega) (by simp only[maxLen];omega) lP;exact⟨v',w',hr,eF.of h4,by rw[mE];exact h5,.inr (new v' (adj _) w' h4)⟩
  ·have tP:w.ownsRow 0 e k.sz (.slice (some ⟨g,0,none⟩) n cap) n xs:=⟨ho.1,.inr ⟨g,cap,cur,rfl,aeG _,h4,h5,h6,h7,h8⟩⟩;have mE:ob (.slice (some ⟨g,0,none⟩) n cap)=some g:=by simp only[ob];rw[if_neg (by omega)]
   obtain⟨v',w',hr,h4,h5,_,h6⟩:=run_append_own_at (P:=P) w 0 t ty e i z k.sz i.bytes ht he.info he.zero he.size rfl he.uV k.iy _ n xs tP a m c news h1 h2 h3 (by simp only[maxLen];omega) lP (aeG _);refine⟨v',w',hr,eF.of h4,by rw[mE];exact h5,?_⟩;rw[mE];rcases h4.2 with⟨rfl,h0⟩|⟨g',aft,jl,rfl,_,_,h9,_⟩
   ·omega
   ·have UE:ob (.slice (some ⟨g',0,none⟩) (n+m) aft)=some g':=by simp only[ob];rw[if_neg (by omega)]
    rw[UE];simp only[Value.ownBlock,Option.some.injEq]at h6;rcases h6 with h6|h6
    ·left;rw[h6]
    ·right;intro b hb;cases hb;omega
theorem aC.qx{h h':Hp}(hs:∀id o,h' id=some o→h id=some o){a:AV}{v:Value}(hr:aC Z ψ h w a v):aC Z ψ h' w a v :=hr.less (fun _ h=>h) (cy.refl _ _) (fun id bS=>by obtain⟨o,ho⟩:=ac9.1 bS;exact⟨by rw[hs id o ho];simp,rfl⟩)
theorem aq.qx{h h':Hp}(hs:∀id o,h' id=some o→h id=some o){a:List AV}{v:List Value}(hr:aq Z ψ h w a v):aq Z ψ h' w a v :=hr.less (fun _ h=>h) (cy.refl _ _) (fun id bS=>by obtain⟨o,ho⟩:=ac9.1 bS;exact⟨by rw[hs id o ho];simp,rfl⟩)
theorem qn{hh:Heap}(g:Good Z ψ h w B0 O)(bE:∀id o,hh.get id=some o→h id=some o)(hB:B0≤w.heap.size){id:Nat}(hN:N id){t ty e:TypeId}{k:K}{i:TypeInfo}{z:Value}(ht:P.underlying t=some (.slice e))(he:nI P e k i z) {x:AV} {u:Value} {ys:List k.T} (hx:rowOf hh x k=some ys) (hr:aC Z ψ h w x u) (hm:ys.length≤fj) (bz:∀i ty cs,h i=some (.box ty cs)→aG (fun i=>i≠id) cs) :
  ∃v' w',(Builtin.append_ #[t,t] ty #[.slice none 0 0,u]).run P w=.ok v' w'∧Next Z ψ h w B0 O N Z (eu ψ id v') (eu h id (some (.own (.row e k) ys))) w'∧v'.cells=#[v']∧v'.oneCell'=true:=by
 obtain⟨news,wQ,hv⟩:=Fp (g.sub bE) hx (hr.qx bE);have Hh:eF w e k.sz (.slice none 0 0) 0 []:=⟨by simp,.inl ⟨rfl,none,rfl⟩⟩;obtain⟨v',w',dz,h4,h5,h6⟩:=dN (ty:=ty) ht he Hh wQ (by omega);have hg:w.grownBy w' none:=h5;have kk:dg ψ h w w':=dg.grown hg (fun b e=>by cases e);have sm:=kk.same g;refine⟨v',w',dz,qS g hB id e hN (vs:=news) kk (fun b hb=>hg.block b (g.bT hb) (by simp)) (by simpa using h4) (fun i x hx=>(hv i x hx).mono (fun _ h=>h) sm) (fun b hb=>?_) bz,h4.one⟩;rcases h6 with h6|h6
 ·rw[h6]at hb;simp[ob]at hb
 ·exact h6 b hb
theorem zr{hh:Heap}(g:Good Z ψ h w B0 O)(bE:∀id o,hh.get id=some o→h id=some o)(hB:B0≤w.heap.size){id cV:Nat}(hN:N id)(bw:cV≠id){t ty e:TypeId}{k:K}{i:TypeInfo}{z:Value}(ht:P.underlying t=some (.slice e))(he:nI P e k i z) {xs:List k.T} (ho:h cV=some (.own (.row e k) xs)) {x:AV} {u:Value} {ys:List k.T} (hx:rowOf hh x k=some ys) (hr:aC Z ψ h w x u) (hm:xs.length+ys.length≤fj) (bz:∀i ty cs,h i=some (.box ty cs)→aG (fun i=>i≠id) cs) :
  ∃v' w',(Builtin.append_ #[t,t] ty #[ψ cV,u]).run P w=.ok v' w'∧Next Z ψ h w B0 O N Z (eu ψ id v') (eu (eu h cV none) id (some (.own (.row e k) (xs++ys)))) w'∧v'.cells=#[v']∧v'.oneCell'=true:=by
 obtain⟨news,wQ,hv⟩:=Fp (g.sub bE) hx (hr.qx bE);obtain⟨vs,ho0,XX⟩:=g.row cV (.row e k) xs ho;obtain⟨v',w',dz,h4,h5,h6⟩:=dN (ty:=ty) ht he ho0 wQ hm;have hold:h cV≠none:=by rw[ho];simp
 have kk:dg ψ h w w':=dg.grown h5 (fun b e=>⟨cV,hold,e⟩);have sm:=kk.same g;refine⟨v',w',dz,qT g hB id cV hN ho bw h5 (ok:=.row e k) (y:=xs++ys) ⟨_,by rw[List.length_append];exact h4,(XX.append hv ho0.1).Hf sm⟩ h6 bz,h4.one⟩
theorem AR{hh:Heap}(g:Good Z ψ h w B0 O)(bE:∀id o,hh.get id=some o→h id=some o)(hB:B0≤w.heap.size){id:Nat}(hN:N id){t ty e:TypeId}{k:K}{i:TypeInfo}{z:Value}(ht:P.underlying t=some (.slice e))(he:nI P e k i z) {xs:List k.T} {v:Value} (hd:aC Z ψ h w (.sl true k xs) v) {x:AV} {u:Value} {ys:List k.T} (hx:rowOf hh x k=some ys) (hr:aC Z ψ h w x u) (Kd:0<ys.length∨xs=[]) (hm:xs.length+ys.length≤fj) (bz:∀i ty cs,h i=some (.box ty cs)→aG (fun i=>i≠id) cs) :
  ∃v' w',(Builtin.append_ #[t,t] ty #[v,u]).run P w=.ok v' w'∧Next Z ψ h w B0 O N Z (eu ψ id v') (eu h id (some (.own (.row e k) (xs++ys)))) w'∧v'.cells=#[v']∧v'.oneCell'=true:=by
 simp only[aC]at hd;obtain⟨hd,hex⟩:=hd;obtain⟨A,c,Py⟩:=hex trivial;rcases tO hd with⟨rfl,rfl⟩|⟨a,c',aan,h1,_,h2,h3,h4,h5⟩
 ·have:=qn (ty:=ty) (N:=N) g bE hB hN ht he hx hr (by omega) bz;simpa using this
 ·rw[h1]at Py;cases Py;obtain⟨news,⟨h6,h7,hu⟩,hv⟩:=Fp (g.sub bE) hx (hr.qx bE);by_cases hy0:ys.length=0
  ·have hy:ys=[]:=adx hy0;have yu:xs=[]:=Kd.resolve_left (by omega);subst yu;have Hh:eF w e k.sz (.slice (some a) 0 0) 0 []:=⟨by simp,.inl ⟨rfl,_,rfl⟩⟩;refine⟨v,w,?_,qS g hB id e hN (vs:=[]) (dg.refl _ _ _) (fun _ _=>rfl) (by rw[hy,h1];exact Hh) (fun i x hx=>by rw[hy]at hx;simp at hx) (fun b hb=>by rw[h1]at hb;simp[ob]at hb) bz,by rw[h1];exact Hh.one⟩;rw[h1];rw[hy0]at hu;rcases hu with⟨rfl,_⟩|⟨b,cu,rfl,_⟩<;>exact fq ht he.info _ _ _ (adj _) _ _
  rcases hu with⟨_,h0⟩|⟨b,cu,rfl,h8⟩
  ·omega
  ·have hb:=he.bytes;unfold fj at hm;have lP:(xs.length+ys.length)*i.bytes≤140737488355328:=adC (ae3 hm hb) (by decide);obtain⟨v',w',dz,h9,nF⟩:=run_append_arg_grows (P:=P) w t ty e i z k.sz i.bytes ht he.info he.zero he.size rfl he.uV k.iy a xs.length xs.length aan h2 h3 b ys.length cu news h6 h8 (by omega) (by simp only[maxLen];omega) lP;have kk:dg ψ h w w':=dg.grown nF (fun b e=>by cases e);have sm:=kk.same g;have h9':eF w' e k.sz v' (xs++ys).length (aan++news):=by rw[List.length_append];exact eF.of h9
   subst h1;refine⟨v',w',dz,qS g hB id e hN kk (fun b hb=>nF.block b (g.bT hb) (by simp)) h9' ((h5.append hv h2).Hf sm) (fun b hb=>?_) bz,h9'.one⟩;rcases h9.2 with⟨e1,_⟩|⟨gg,cap,cur,e1,e2,_⟩
   ·rw[e1]at hb;simp[ob]at hb
   ·rw[e1]at hb;simp only[ob]at hb
    split at hb
    ·cases hb
    ·cases hb;omega
theorem uW:∀(vs:List Value) (k off:Nat) (cells:Array Value),(vs.zipIdx k).foldl (fun cs (p:Value×Nat)=>cs.setIfInBounds (off+p.2) p.1) cells=(dY cells.toList (off+k) vs).toArray
 |[],k,off,cells=>by simp[dY]
 |v::r,k,off,cells=>by simp only[List.zipIdx_cons,List.foldl_cons,dY];rw[uW r (k+1) off];simp[Nat.add_assoc]
theorem yv(V:Array Value)(off:Nat)(cells:Array Value) :
  V.zipIdx.foldl (fun cs (p:Value×Nat)=>cs.setIfInBounds (off+p.2) p.1) cells=(dY cells.toList off V.toList).toArray:=by
 rw[←Array.foldl_toList,Array.toList_zipIdx];exact uW V.toList 0 off cells
theorem sZ{α:Type}:∀(vs cs:List α) (off:Nat),(dY cs off vs).length=cs.length
 |[],_,_=>rfl
 |v::r,cs,off=>by simp only[dY];rw[sZ r];simp
theorem aq.dY:∀{vs cs:List AV} {us ds:List Value} (off:Nat),aq Z ψ h w vs us→aq Z ψ h w cs ds→aq Z ψ h w (dY cs off vs) (dY ds off us)
 |[],cs,us,ds,off,h1,h2=>by simp only[aq]at h1;subst h1;exact h2
 |v::r,cs,us,ds,off,h1,h2=>by simp only[aq]at h1;obtain⟨u,iY,rfl,h3,h4⟩:=h1;simp only[Vs.dY];exact aq.dY (off+1) h4 (h2.set off h3)
theorem aC.cells{a:AV}{v:Value}(hk:a≠.no)(hr:aC Z ψ h w a v):aq Z ψ h w a.cells v.cells.toList:=by
 cases a with
 |no=>exact absurd rfl hk
 |agg cs=>simp only[aC]at hr;obtain⟨vs,rfl,hr⟩:=hr;simpa[AV.cells,Value.cells] using hr
 |bool b=>simp only[aC]at hr;subst hr;simp[AV.cells,Value.cells,aq,aC]
 |int k n=>simp only[aC]at hr;subst hr;simp[AV.cells,Value.cells,aq,aC]
 |str s=>simp only[aC]at hr;subst hr;simp[AV.cells,Value.cells,aq,aC]
 |la=>simp only[aC]at hr;subst hr;simp[AV.cells,Value.cells,aq,aC]
 |fZ=>simp only[aC]at hr;subst hr;simp[AV.cells,Value.cells,aq,aC]
 |ref id s i off=>obtain⟨a,rfl,h2⟩:=(by simpa only[aC] using hr:∃a,v=.pointer (some a)∧_);simp only[AV.cells,Value.cells,aq];exact⟨_,[],by simp,hr,rfl⟩
 |fp k x off=>obtain⟨a,us,rfl,h2⟩:=(by simpa only[aC] using hr:∃a us,v=.pointer (some a)∧_);simp only[AV.cells,Value.cells,aq];exact⟨_,[],by simp,hr,rfl⟩
 |sl ex k xs =>
  have rR:=hr;simp only[aC,aL]at rR;obtain⟨⟨v',hv,A,c,rfl,_⟩,_⟩:=rR
  cases hv
  simp only[AV.cells,Value.cells,aq];exact⟨_,[],by simp,hr,rfl⟩
 |bK id =>have rR:=hr;simp only[aC]at rR;obtain⟨⟨hc,_⟩,_⟩:=rR;simp only[AV.cells,aq,hc];exact⟨_,[],by simp,hr,rfl⟩
 |mp kk vk es =>
  have rR:=hr;simp only[aC,aL]at rR;obtain⟨A,hv,_⟩:=rR
  cases hv
  simp only[AV.cells,Value.cells,aq];exact⟨_,[],by simp,hr,rfl⟩
 |fn f cap =>have rR:=hr;simp only[aC]at rR;obtain⟨vs,rfl,_⟩:=rR;simp only[AV.cells,Value.cells,aq];exact⟨_,[],by simp,hr,rfl⟩
 |ns vs =>have rR:=hr;simp only[aC]at rR;obtain⟨us,rfl,_⟩:=rR;simp only[AV.cells,Value.cells,aq];exact⟨_,[],by simp,hr,rfl⟩
def s5(Z:Nat→Prop)(ψ:Nat→Value)(h:Hp)(w:World):List (Nat×AV)→List (Nat×Value)→Prop
 |[],[]=>True
 |p::r,q::s=>p.1=q.1∧p.2≠.no∧aC Z ψ h w p.2 q.2∧s5 Z ψ h w r s
 |_,_=>False
theorem Hi{place:Nat→Option (Nat×Nat)}:∀{ps:List (Nat×AV)} {qs:List (Nat×Value)} {cs cs':List AV} {cells:Array Value},s5 Z ψ h w ps qs→aq Z ψ h w cs cells.toList→DV place cs ps=some cs' → ∃fV,Instr.fill place cells qs=some fV∧aq Z ψ h w cs' fV.toList
 |[],[],cs,cs',cells,_,hr,hf=>by simp only[DV]at hf;cases hf;exact⟨cells,rfl,hr⟩
 |[],_::_,_,_,_,hp,_,_=>hp.elim
 |_::_,[],_,_,_,hp,_,_=>hp.elim
 |(i,a)::ps,(j,v)::qs,cs,cs',cells,hp,hr,hf=>by
  obtain⟨rfl,qU,hv,hp⟩:=hp;simp only[DV]at hf;simp only at qU hv;have Py:=hv.cells qU;have hl:=Py.length;have wD:=hr.length;simp only[Array.length_toList]at hl wD;simp only[Instr.fill]
  split at hf
  ·cases hf
  ·rename_i off size hpl;simp only[hpl]
   split at hf
   ·cases hf
   ·rename_i hc;have XY:a.cells.length=size:=Decidable.not_not.1 (fun e=>hc (.inl e));have oY:¬off+a.cells.length>cs.length:=fun e=>hc (.inr e);rw[if_neg (by simp only[Bool.or_eq_true,decide_eq_true_eq];omega)];refine Hi hp ?_ hf;rw[yv,List.toList_toArray];exact Py.dY off hr
theorem P3(fs:Array Field)(hi:∀f∈fs.toList,∃i,P.info? f.type=some i):(fs.mapM fun f=>do pure (f.offset,←sizeOf f.type):Sem (Array (Nat×Nat))).run P w=.ok (fs.map fun f=>(f.offset,P.cellsOf f.type)) w:=by
 rw[←Array.toArray_toList (xs:=fs)];generalize fs.toList=l at hi;have key:∀(l:List Field) (acc:Array (Nat×Nat)),(∀f∈l,∃i,P.info? f.type=some i) →(l.foldlM (fun(bs:Array (Nat×Nat)) f=>do let y ←(do pure (f.offset,←sizeOf f.type):Sem (Nat×Nat));pure (bs.push y)) acc:Sem (Array (Nat×Nat))).run P w=.ok (acc++(l.map fun f=>(f.offset,P.cellsOf f.type)).toArray) w:=by
  intro l
  induction l with
  |nil=>intro acc _;simp
  |cons f r ih =>intro acc hl;obtain⟨i,hi⟩:=hl f (by simp);simp only[List.foldlM_cons,Sem.run_bind,dD hi,Result.andThen_ok,Sem.run_pure];rw[ih _ (fun f hf=>hl f (List.mem_cons_of_mem _ hf))];simp
 have:=key l #[] hi;simp only[Array.mapM_eq_foldlM,List.size_toArray,List.foldlM_toArray'];simpa using this
theorem Fq(v:Value):aC Z ψ h w (wG v) v:=by
 cases v with
 |bool b=>simp only[wG,aC]
 |int k n=>simp only[wG,aC]
 |string s=>simp only[wG,aC]
 |pointer a =>
  simp only[wG];split
  ·rename_i e;subst e;simp only[aC]
  ·simp only[aC]
 |slice a n c =>
  simp only[wG];split
  ·rename_i e;obtain⟨rfl,rfl,rfl⟩:=e;simp only[aC]
  ·simp only[aC]
 |func fn first cap =>
  cases fn with
  |func f =>
   simp only[wG];split
   ·rename_i e;have h1:first=#[]:=aeJ e.1
    have h2:cap=#[]:=aeJ e.2;subst h1;subst h2;simp only[aC];exact⟨#[],rfl,by simp[aq]⟩
   ·simp only[aC]
  |_=>simp only[wG,aC]
 |_=>simp only[wG,aC]
theorem AS:∀vs:List Value,aq Z ψ h w (vs.map wG) vs
 |[]=>by simp[aq]
 |v::r=>by simp only[List.map_cons,aq];exact⟨v,r,rfl,Fq v,AS r⟩
theorem Hj(v:Value):aC Z ψ h w (tG v) v:=by
 cases v with
 |agg cs=>simp only[tG,aC];exact⟨cs,rfl,AS _⟩
 |_=>simp only[tG];exact Fq _
theorem D2(v:Value):(wG v).cells=[wG v]:=by
 cases v with
 |pointer a=>simp only[wG];split<;>rfl
 |slice a n c=>simp only[wG];split<;>rfl
 |func fn first cap =>
  cases fn with
  |func f=>simp only[wG];split<;>rfl
  |_=>rfl
 |_=>rfl
theorem AT(v:Value):aq Z ψ h w (tG v).cells v.cells.toList:=by
 cases v with
 |agg cs=>simp only[tG,AV.cells,Value.cells];exact AS _
 |_ =>simp only[tG];rw[D2];simp only[aq];exact⟨_,[],rfl,Fq _,rfl⟩
theorem pj{t:TypeId}{zs:List AV}(hz:AA P t=some zs):∃i z,P.info? t=some i∧i.zero=some z∧zs=(tG z).cells∧∀u∈z.cells.toList,u.oneCell'=true:=by
 unfold AA at hz;obtain⟨i,hi,yw⟩:=adG.1 hz;obtain⟨z,Dk,JS⟩:=adG.1 yw
 split at JS
 ·rename_i eY
  cases JS
  exact⟨i,z,hi,Dk,rfl,fun u hu=>adK.1 eY u hu⟩
 ·cases JS
theorem uX{t:TypeId}{i:TypeInfo}{z:Value}(hi:P.info? t=some i)(hz:i.zero=some z):(zeroValue t).run P w=.ok z w:=by simp[zeroValue,typeInfo,hi,hz]
theorem Nu{t:TypeId}{fs:Array Field}{zs cs:List AV}{ps:List (Nat×AV)}{qs:Array (Nat×Value)}(hz:AA P t=some zs)(ht:P.underlying t=some (.struct fs))(eY:fs.toList.all (fun f=>(P.info? f.type).isSome)=true) (hp:s5 Z ψ h w ps qs.toList) (hf:DV (fun i=>(fs[i]?).map fun f=>(f.offset,P.cellsOf f.type)) zs ps=some cs) :
  ∃V,(Instr.build t qs).run P w=.ok V w∧aC Z ψ h w (.agg cs) V:=by
 obtain⟨i,z,hi,hzz,rfl,_⟩:=pj hz;obtain⟨fV,h1,h2⟩:=Hi hp (AT z) hf;have hpl:=P3 (P:=P) (w:=w) fs (fun f hf=>adq.1 (adK.1 eY f hf));refine⟨.agg fV,?_,by simp only[aC];exact⟨_,rfl,h2⟩⟩;have Uc:Instr.fill (fun x=>(fs.map fun f=>(f.offset,P.cellsOf f.type))[x]?) z.cells qs.toList=some fV:=by rw[←h1];congr 1;funext x;simp
 simp only[Instr.build,Sem.run_bind,uX hi hzz,run_underlying ht,Result.andThen_ok,hpl,Uc];rfl
theorem Ki:∀(k:K) (cs:List AV) (x:k.T) (r:List AV),dec k cs=some (x,r)→cs.head?≠some .no
 |.int ik,cs,x,r,h,hc=>by
  cases cs with
  |nil=>simp at hc
  |cons a s=>simp at hc;subst hc;simp[dec,Ff]at h
 |.bool,cs,x,r,h,hc=>by
  cases cs with
  |nil=>simp at hc
  |cons a s=>simp at hc;subst hc;simp[dec,zL]at h
 |.str,cs,x,r,h,hc=>by
  cases cs with
  |nil=>simp at hc
  |cons a s=>simp at hc;subst hc;simp[dec,Fg]at h
 |.sl k,cs,x,r,h,hc=>by
  cases cs with
  |nil=>simp at hc
  |cons a s=>simp at hc;subst hc;simp[dec,LW]at h
 |.pair a b,cs,x,r,h,hc=>by
  simp only[dec]at h
  split at h
  ·rename_i x1 r1 h1;exact Ki a cs x1 r1 h1 hc
  ·cases h
 |.one k,cs,x,r,h,hc=>by simp only[dec]at h;exact Ki k cs x r h hc
 |.mp kk vk,cs,x,r,h,hc=>by
  cases cs with
  |nil=>simp at hc
  |cons a s=>simp at hc;subst hc;simp[dec,LY]at h
theorem D3{k:K}{hh:Heap}{a:AV}{x:k.T}(h:dL k (a.cells.map (cP hh))=some x):a≠.no:=by
 rintro rfl;unfold dL at h
 split at h
 ·rename_i x' h1;exact Ki k _ _ _ h1 (by simp[AV.cells,cP])
 ·cases h
theorem Hk{k:K}{hh:Heap}(g:Good Z ψ hh.get w B0 O)(hz:∀b,Z b→Z' b):∀{ps:List (Nat×AV)} {qs:List (Nat×Value)} {xs:List k.T} {i:Nat} {cells:Array Value},(∀p∈ps,∀id b,AV.bK id∈p.2.cells→hh.get id≠none→ob (ψ id)=some b→Z' b)→s5 Z ψ hh.get w ps qs→qK k hh i ps=some xs→(i+ps.length)*k.sz≤cells.size → ∃fV flat,Instr.fill (fun i=>some (i*k.sz,k.sz)) cells qs=some fV∧fV.toList=cells.toList.take (i*k.sz)++flat++cells.toList.drop ((i+ps.length)*k.sz)∧flat.length=ps.length*k.sz∧nE Z' w k xs flat∧(∀q∈flat,q.oneCell'=true)∧xs.length=ps.length
 |[],[],xs,i,cells,_,_,hl,_=>by simp only[qK]at hl;cases hl;exact⟨cells,[],rfl,by simp,by simp,fun i x hx=>by simp at hx,by simp,rfl⟩
 |[],_::_,_,_,_,_,hp,_,_=>hp.elim
 |_::_,[],_,_,_,_,hp,_,_=>hp.elim
 |(j,a)::ps,(j',v)::qs,xs,i,cells,hb,hp,hl,hs=>by
  obtain⟨hjj,qU,hv,hp⟩:=hp;simp only at hjj qU hv;subst hjj;simp only[qK]at hl
  split at hl
  ·rename_i e;subst e
   split at hl
   ·rename_i y ys h1 h2
    cases hl
    simp only[List.length_cons]at hs;have Py:=hv.cells qU;have hvw:=og g hz (hb (j,a) (by simp)) Py;have hk:=dM h1 hvw;have P4:=hk.len;rw[Array.length_toList]at P4;have iZ:j*k.sz+k.sz≤cells.size:=by have:(j+1)*k.sz≤(j+(ps.length+1))*k.sz:=adB _ (by omega);rw[Nat.succ_mul]at this;omega
    simp only[Instr.fill];rw[if_neg (by simp only[Bool.or_eq_true,decide_eq_true_eq];omega),yv];obtain⟨fV,flat,h3,h4,h5,h6,h7,h8⟩:=Hk g hz (ps:=ps) (qs:=qs) (xs:=ys) (i:=j+1) (cells:=(dY cells.toList (j*k.sz) v.cells.toList).toArray) (fun p hp=>hb p (acm _ hp)) hp h2 (by rw[List.size_toArray,sZ];have e9:cells.toList.length=cells.size:=Array.length_toList;rw[e9,show j+1+ps.length=j+(ps.length+1) by omega];exact hs);refine⟨fV,v.cells.toList++flat,h3,?_,?_,?_,?_,by simp[h8]⟩
    ·rw[h4,List.toList_toArray,rS _ _ _ (by rw[Array.length_toList,Array.length_toList];omega)];have e1:(j+1)*k.sz=j*k.sz+k.sz:=ae1 _ _;have e2:(j+1+ps.length)*k.sz=(j+(ps.length+1))*k.sz:=by congr 1;omega
     rw[List.length_cons,e1,e2];have l1:(cells.toList.take (j*k.sz)++v.cells.toList).length=j*k.sz+k.sz:=by rw[List.length_append,List.length_take,Array.length_toList,Array.length_toList];omega
     rw[←l1,List.take_left];have l2:(j+(ps.length+1))*k.sz=(cells.toList.take (j*k.sz)++v.cells.toList).length+(ps.length*k.sz):=by rw[l1,Nat.add_mul,Nat.add_mul];omega
     have hd:(cells.toList.take (j*k.sz)++v.cells.toList++cells.toList.drop (j*k.sz+v.cells.toList.length)).drop ((j+(ps.length+1))*k.sz)=cells.toList.drop ((j+(ps.length+1))*k.sz):=by rw[l2,List.drop_append,List.drop_eq_nil_of_le (by omega),List.nil_append,Nat.add_sub_cancel_left,List.drop_drop];congr 1;rw[l1,Array.length_toList];omega
     rw[hd];simp[List.append_assoc]
    ·rw[List.length_append,h5,Array.length_toList,P4,List.length_cons,Nat.succ_mul];omega
    ·intro n x hx
     cases n with
     |zero =>
      simp only[List.getElem?_cons_zero,Option.some.injEq]at hx;subst hx;have XZ:v.cells.toList.length=k.sz:=by rw[Array.length_toList];exact P4
      rw[Nat.zero_mul,List.drop_zero,←XZ,List.take_left];exact hk
     |succ n =>
      have:=h6 n x (by simpa using hx);have XZ:v.cells.toList.length=k.sz:=by rw[Array.length_toList];exact P4
      have e:(n+1)*k.sz=v.cells.toList.length+n*k.sz:=by rw[XZ,Nat.succ_mul];omega
      rw[e,List.drop_append,List.drop_eq_nil_of_le (by omega),List.nil_append,Nat.add_sub_cancel_left];exact this
    ·intro q hq;rcases ac8.1 hq with hq|hq
     ·exact hk.one q hq
     ·exact h7 q hq
   ·cases hl
  ·cases hl
theorem Next.drop{Z1:Nat→Prop}{h1:Hp}(n:Next Z1 ψ h1 w B0 O N Z' ψ' h' w')(hz:∀b,Z b→Z1 b)(yw:∀b,Z1 b→Z b∨Own ψ h b)(bE:∀id o,h1 id=some o→h id=some o):Next Z ψ h w B0 O N Z' ψ' h' w':=by
 have hn:∀id,h1 id≠none→h id≠none:=fun id hn=>by obtain⟨o,ho⟩:=ac9.1 hn;rw[bE id o ho];simp
 have ho:∀b,Own ψ h1 b→Own ψ h b:=fun b ⟨id,h2,h3⟩=>⟨id,hn id h2,h3⟩;refine⟨fun b hb=>n.fU b (hz b hb),fun b hb=>?_,⟨n.keep.os,n.keep.tape,n.keep.output,n.keep.size,fun b hb qU=>n.keep.block b hb (fun h=>qU (ho b h))⟩,fun id bS=>(n.ids id bS).imp (fun⟨h2,h3⟩=>⟨hn id h2,h3⟩) (fun h=>h),n.dZ⟩;rcases n.eQ b hb with h2|h2|h2
 ·exact(yw b h2).imp (fun h=>h) (fun h=>.inl h)
 ·exact .inr (.inl (ho b h2))
 ·exact .inr (.inr h2)
theorem s5.qx{h h':Hp}(hs:∀id o,h' id=some o→h id=some o):∀{ps:List (Nat×AV)} {qs:List (Nat×Value)},s5 Z ψ h w ps qs→s5 Z ψ h' w ps qs:=by
 intro ps
 induction ps with
 |nil=>intro qs hp;cases qs with
  |nil=>trivial
  |cons q r=>exact hp.elim
 |cons p r ih=>intro qs hp;cases qs with
  |nil=>exact hp.elim
  |cons q s=>exact⟨hp.1,hp.2.1,hp.2.2.1.qx hs,ih hp.2.2.2⟩
theorem Hl{hh:Heap}{Z1:Nat→Prop}(g:Good Z1 ψ h w B0 O)(g0:Good Z ψ hh.get w B0 O)(hz:∀b,Z b→Z1 b)(hB:B0≤w.heap.size){id:Nat}(hN:N id){t e:TypeId}{k:K}{i:TypeInfo}{z:Value}(ht:P.underlying t=some (.slice e))(he:nI P e k i z) {ps:List (Nat×AV)} {qs:Array (Nat×Value)} {xs:List k.T} (Pz:∀p∈ps,∀id b,AV.bK id∈p.2.cells→hh.get id≠none→ob (ψ id)=some b→Z1 b) (hp:s5 Z ψ hh.get w ps qs.toList) (hl:qK k hh 0 ps=some xs) (hn:ps.length*k.sz≤1048576) (bz:∀i ty cs,h i=some (.box ty cs)→aG (fun i=>i≠id) cs) :
  ∃v' w',(Instr.buildSlice t ps.length qs).run P w=.ok v' w'∧Next Z1 ψ h w B0 O N Z1 (eu ψ id v') (eu h id (some (.own (.row e k) xs))) w'∧(v'.cells=#[v']∧v'.oneCell'=true)∧(∀b,Own ψ h b→w'.heap[b]? = w.heap[b]?)∧(∀b,ob v'=some b→w.heap.size≤b)∧∃A c,v'=.slice A c c:=by
 let Hm:Array Value:=(Array.range (ps.length*k.sz)).map (z.cells[· % z.cells.size]!)
 have zt:Hm.size=ps.length*k.sz:=by simp[Hm]
 obtain⟨fV,flat,h1,h2,h3,h4,h5,h6⟩:=Hk (Z':=Z1) g0 hz (ps:=ps) (qs:=qs.toList) (xs:=xs) (i:=0) (cells:=Hm) Pz hp hl (by rw[Nat.zero_add,zt];exact adj _);have Wz:fV.toList=flat:=by rw[h2,Nat.zero_mul,List.take_zero,List.nil_append,Nat.zero_add,List.drop_eq_nil_of_le (by rw[Array.length_toList,zt];exact Nat.le_refl _),List.append_nil]
 have Nv:fV.size=ps.length*k.sz:=by rw[←Array.length_toList,Wz];exact h3
 have Kd:=k.iy;have hlen:ps.length≤1048576:=adC (Nat.le_mul_of_pos_right _ Kd) hn;have tP:(w.alloc (.cells fV e)).ownsRow 0 e k.sz (.slice (some ⟨w.heap.size,0,none⟩) ps.length ps.length) xs.length flat:=by have:=World.ownsRow_lit (base:=0) (e:=e) (size:=k.sz) w fV ps.length (aeG _) (by simp only[maxLen];omega) Nv;rw[h6,←Wz];exact this
 refine⟨.slice (some ⟨w.heap.size,0,none⟩) ps.length ps.length,w.alloc (.cells fV e),?_,qS g hB id e hN (vs:=flat) (dg.alloc _ _ _ _) (fun b hb=>heap_alloc_old w _ (g.bT hb)) (eF.of tP) (h4.Hf ((dg.alloc ψ h w _).same g)) (fun b hb=>by simp only[ob]at hb;split at hb<;>cases hb;exact adj _) bz,(eF.of tP).one,fun b hb=>heap_alloc_old w _ (g.bT hb),fun b hb=>by simp only[ob]at hb;split at hb<;>cases hb;exact adj _,_,_,rfl⟩
 ·show _=Result.ok (Value.slice (some ⟨w.heap.size,0,none⟩) ps.length ps.length) _;have AU:¬ps.length*k.sz>2 ^ 24:=by omega
  have hc:P.cellsOf e=k.sz:=by simp[Program.cellsOf,he.info,he.size]
  simp only[Instr.buildSlice,Sem.run_bind,run_underlying ht,Result.andThen_ok,dD he.info,hc];rw[if_neg AU];have Dx:(newRow e fV).run P w=.ok ⟨w.heap.size,0,none⟩ (w.alloc (.cells fV e)):=rfl;by_cases h0:ps.length*k.sz=0
  ·have UF:Hm=#[]:=aeJ (by rw[zt,h0]);have yw:(Array.range (ps.length*k.sz)).map (fun x=>(#[]:Array Value)[x%(#[]:Array Value).size]!)=#[]:=aeJ (by simp[h0]);rw[if_pos h0];rw[UF]at h1;simp only[Sem.run_pure,Result.andThen_ok,yw,h1,Sem.run_bind,Dx]
  ·rw[if_neg h0];simp only[Sem.run_bind,uX he.info he.zero,Result.andThen_ok,Sem.run_pure];rw[show(Array.range (ps.length*k.sz)).map (fun x=>z.cells[x%z.cells.size]!)=Hm from rfl,h1];simp only[Sem.run_bind,Dx,Result.andThen_ok,Sem.run_pure]
theorem P5(g:Good Z ψ h w B0 O)(hB:B0≤w.heap.size){id:Nat}{e:TypeId}{k:K}{xs:List k.T}{v':Value}(n:Next Z ψ h w B0 O N Z (eu ψ id v') (eu h id (some (.own (.row e k) xs))) w') (sX:∀b,Own ψ h b→w'.heap[b]? = w.heap[b]?) (Dx:∀b,ob v'=some b→w.heap.size≤b) (hex:∃A c,v'=.slice A c c) :
  Next Z ψ h w B0 O N (fun b=>Z b∨ob v'=some b) ψ h w'∧aC (fun b=>Z b∨ob v'=some b) ψ h w' (.sl true k xs) v':=by
 have oi:jH Z w' (.row e k) v' xs:=by
  have:=n.dZ.row id (.row e k) xs (bA _ _ _)
  rwa [bA]at this
 obtain⟨vs,ho,hv⟩:=oi;have m:Next Z ψ h w B0 O (fun _=>False) Z ψ h w':=g.more n.keep sX (fun _ _=>⟨rfl,rfl⟩) (fun i ty cs hb=>by
  have e:(fun _:Nat=>¬False)=fun _=>True:=by funext i;simp
  rw[e];exact aG.top cs) (fun _ _ _ h=>h.elim) (fun _ _ _ h=>h.elim) (fun _ _ h=>h.elim) (fun _ _ _ h=>h.elim) hB
 have hz:∀b,Z b→Z b∨ob v'=some b:=fun b h=>.inl h;refine⟨⟨hz,fun b hb=>hb.imp (fun h=>h) fun h=>.inr (Dx b h),m.keep,fun i hi=>.inl ((m.ids i hi).resolve_right (fun h=>h)),⟨fun i ty cs hb=>?_,fun i ok x hb=>?_,fun i b h1 h2=>?_,m.dZ.apart,fun b hb=>?_⟩⟩,?_⟩
 ·obtain⟨gg,vs,f1,f2,f3,f4⟩:=m.dZ.box i ty cs hb;exact⟨gg,vs,f1,f2,aq.less hz (cy.refl _ _) (fun _ h=>⟨h,rfl⟩) f3,f4⟩
 ·exact(m.dZ.row i ok x hb).kept hz (cy.refl _ _) (fun _ _=>rfl)
 ·obtain⟨k1,k2⟩:=m.dZ.live i b h1 h2;refine⟨fun hb=>hb.elim k1 fun hb=>?_,k2⟩;have:=g.bT ⟨i,h1,h2⟩;have:=Dx b hb;omega
 ·rcases hb with hb|hb
  ·exact m.dZ.jO b hb
  ·exact jH.lt (ok:=.row e k) ⟨vs,ho,hv⟩ hb
 ·simp only[aC];exact⟨uT ho hv (fun b h=>.inl h) (fun b h=>.inr h),fun _=>hex⟩
end Go.Vs
