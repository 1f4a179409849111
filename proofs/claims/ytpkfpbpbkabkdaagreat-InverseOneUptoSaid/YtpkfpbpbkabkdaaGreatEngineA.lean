/- The value semantics of the -/
import Derived.Control
import Derived.Calls
import Derived.Orders
import GoSem.Machine.Frame
import Derived.Laws.AppendOwn
import GoSem.Core.Utf8
import Derived.Below
import Derived.Laws.OwnMore
import Derived.Laws.Rows
import Derived.Deep.Draws
import Derived.Laws.CopyRow
import Derived.Laws.Cells
import Derived.Laws.Sem
import Derived.Maps.AppendAt
import Derived.ArgAppend
import Derived.WalkKit
namespace Go
abbrev aaV:=@List.getElem?_eq_getElem
abbrev aaW:=@List.getElem?_eq_some_iff
abbrev aaY:=@List.mem_cons_of_mem
abbrev aa1:=@List.mem_cons
abbrev aa2:=@List.mem_append_left
abbrev aa3:=@Array.getElem?_eq_some_iff
abbrev aco:=@List.mem_append_right
abbrev acr:=@List.mem_cons_self
abbrev acv:=@Option.some.inj
abbrev acw:=@List.mem_append
abbrev acx:=@Option.ne_none_iff_exists'
abbrev ac7:=@List.mem_of_getElem?
abbrev ac9:=@List.nodup_cons
abbrev ada:=@Nat.le_refl
abbrev adf:=@Option.isSome_iff_exists
abbrev adg:=@List.getElem_mem
abbrev adn:=@List.eq_nil_of_length_eq_zero
abbrev ado:=@List.mem_of_find?_eq_some
abbrev adv:=@Array.getElem?_eq_getElem
abbrev adA:=@Nat.mul_le_mul_right
abbrev adC:=@Nat.le_trans
abbrev adD:=@List.mem_map
abbrev adF:=@List.rel_of_pairwise_cons
abbrev adG:=@List.all_eq_true
abbrev adH:=@Option.bind_eq_some_iff
abbrev adJ:=@Option.map_eq_some_iff
abbrev adK:=@List.drop_eq_getElem_cons
abbrev adL:=@List.length_filter_le
abbrev adP:=@List.mem_range
abbrev aej:=@List.Perm.append_right
abbrev aeA:=@Nat.lt_of_lt_of_le
abbrev aeB:=@List.nodup_append
abbrev aeC:=@List.mem_iff_getElem?
abbrev aeD:=@List.append_of_mem
abbrev aeE:=@List.mem_flatten
abbrev aeF:=@List.find?_some
abbrev aeG:=@Array.mem_of_getElem?
abbrev aeH:=@Nat.zero_le
abbrev aeI:=@Array.all_eq_true_iff_forall_mem
abbrev aeJ:=@List.length_pos_of_mem
abbrev aeK:=@Array.eq_empty_of_size_eq_zero
abbrev aeL:=@List.mem_filter
abbrev aeM:=@List.countP_le_length
abbrev aeN:=@List.getElem?_of_mem
abbrev aeO:=@List.ext_getElem?
abbrev aeP:=@List.getElem_of_mem
abbrev aeQ:=@List.perm_middle
abbrev aeR:=@List.perm_append_comm
abbrev aeS:=@List.pairwise_iff_getElem
abbrev aeT:=@List.mem_of_mem_drop
abbrev aeU:=@Nat.lt_or_ge
abbrev aeV:=@List.drop_eq_nil_of_le
abbrev aeW:=@Nat.mod_lt
abbrev aeX:=@List.Perm.refl
abbrev aeY:=@List.Pairwise.of_cons
abbrev aeZ:=@List.mem_of_mem_erase
abbrev ae0:=@List.mem_erase_of_ne
abbrev ae1:=@List.map_congr_left
abbrev ae2:=@Nat.succ_mul
abbrev ae3:=@List.mem_filterMap
abbrev ae4:=@Nat.mul_le_mul
abbrev ae5:=@List.pairwise_map
end Go
namespace Go.Vs
inductive K where
 |int (k:IntKind)|bool|str|sl (k:K)|pair (a b:K)|one (k:K)|mp (kk vk:K)
 deriving DecidableEq
def K.T:K→Type
 |.int _=>Int
 |.bool=>Bool
 |.str=>ByteArray
 |.sl k=>List k.T
 |.pair a b=>a.T×b.T
 |.one k=>k.T
 |.mp kk vk=>List (kk.T×vk.T)
def K.sz:K→Nat
 |.pair a b=>a.sz+b.sz
 |.one k=>k.sz
 |_=>1
def qF(P:Program):Nat→TypeId→Option K
 |0,_=>none
 |d+1,t =>
  match P.underlying t with
  |some (.int k)=>some (.int k)
  |some .bool=>some .bool
  |some .string=>some .str
  |some (.slice e)=>(qF P d e).map .sl
  |some (.map a b)=>match qF P d a,qF P d b with
   |some x,some y=>some (.mp x y)
   |_,_=>none
  |some (.struct fs) =>
   match (fs.toList.map fun f=>qF P d f.type).reverse with
   |[]=>none
   |[k]=>k.map .one
   |last::rest=>rest.foldl (fun acc k=>match k,acc with|some k,some a=>some (.pair k a)|_,_=>none) last
  |_=>none
def K.flat:K→Bool
 |.sl _=>false
 |.mp _ _=>false
 |.pair a b=>a.flat&&b.flat
 |.one k=>k.flat
 |_=>true
def K.isAgg:K→Bool
 |.pair _ _=>true
 |.one _=>true
 |_=>false
inductive AV where
 |no
 |bool (b:Bool)
 |int (k:IntKind) (n:Int)
 |str (s:ByteArray)
 |lf
 |gh
 |ref (id s i off:Nat)
 |fp (k:K) (x:k.T) (off:Nat)
 |sl (ex:Bool) (k:K) (xs:List k.T)
 |mp (kk vk:K) (es:List (kk.T×vk.T))
 |bK (id:Nat)
 |fn (f:FuncId) (cap:List AV)
 |agg (cs:List AV)
 |nu (vs:List AV)
def AV.isAgg:AV→Bool
 |.agg _=>true
 |_=>false
def AV.cells:AV→List AV
 |.agg cs=>cs
 |v=>[v]
def enc:(k:K)→k.T→List AV
 |.int ik,n=>[.int ik n]
 |.bool,b=>[.bool b]
 |.str,s=>[.str s]
 |.sl k,xs=>[.sl false k xs]
 |.mp kk vk,es=>[.mp kk vk es]
 |.pair a b,x=>enc a x.1++enc b x.2
 |.one k,x=>enc k x
def Fj(ik:IntKind):List AV→Option (Int×List AV)
 |.int ZI n::r=>if ZI=ik then some (n,r) else none
 |_=>none
def zP:List AV→Option (Bool×List AV)
 |.bool b::r=>some (b,r)
 |_=>none
def Fk:List AV→Option (ByteArray×List AV)
 |.str s::r=>some (s,r)
 |_=>none
def LZ(k:K):List AV→Option (List k.T×List AV)
 |.sl _ k' xs::r=>if h:k'=k then some (h▸xs,r) else none
 |.gh::r=>some ([],r)
 |_=>none
def L0(kk vk:K):List AV→Option (List (kk.T×vk.T)×List AV)
 |.mp L3 UA es::r=>if h:L3=kk∧UA=vk then some (h.1▸h.2▸es,r) else none
 |_=>none
def dec:(k:K)→List AV→Option (k.T×List AV)
 |.int ik,cs=>Fj ik cs
 |.bool,cs=>zP cs
 |.str,cs=>Fk cs
 |.sl k,cs=>LZ k cs
 |.mp kk vk,cs=>L0 kk vk cs
 |.pair a b,cs =>
  match dec a cs with
  |some (x,r)=>match dec b r with
   |some (y,r')=>some ((x,y),r')
   |none=>none
  |none=>none
 |.one k,cs=>dec k cs
def dz(k:K)(cs:List AV):Option k.T :=match dec k cs with
 |some (x,[])=>some x
 |_=>none
def cq:(k:K)→k.T→AV
 |.pair a b,x=>.agg (enc (.pair a b) x)
 |.one k,x=>.agg (enc (.one k) x)
 |.int ik,n=>.int ik n
 |.bool,b=>.bool b
 |.str,s=>.str s
 |.sl k,xs=>.sl false k xs
 |.mp kk vk,es=>.mp kk vk es
inductive OK where
 |row (ty:TypeId) (k:K)|map (kk vk:K)|iter (kk vk:K)|nX
 deriving DecidableEq
abbrev OK.T:OK→Type
 |.row _ k=>List k.T
 |.map kk vk=>List (kk.T×vk.T)
 |.iter kk vk=>Option (kk.T×vk.T)×List (kk.T×vk.T)
 |.nX=>ByteArray×Nat
inductive Ob where
 |box (ty:TypeId) (cs:List AV)
 |own (ok:OK) (x:ok.T)
abbrev Heap:=List (Nat×Ob)
def Heap.get:Heap→Nat→Option Ob
 |[],_=>none
 |(i,o)::r,n=>if i=n then some o else Heap.get r n
def Heap.del:Heap→Nat→Heap
 |[],_=>[]
 |(i,o)::r,n=>if i=n then Heap.del r n else(i,o)::Heap.del r n
def Heap.set(h:Heap)(n:Nat)(o:Ob):Heap:=(n,o)::h.del n
def cQ(h:Heap):AV→AV
 |.bK id=>match h.get id with
  |some (.own (.row _ k) xs)=>.sl false k xs
  |some (.own (.map kk vk) es)=>.mp kk vk es
  |_=>.no
 |v=>v
def drop1(h:Heap):AV→Heap
 |.bK id=>h.del id
 |_=>h
def cO(h:Heap):List AV→Heap
 |[]=>h
 |c::r=>cO (drop1 h c) r
structure St where
 tmps:List (Nat×AV)
 heap:Heap
def look:List (Nat×AV)→Nat→AV
 |[],_=>.no
 |(i,v)::r,n=>if i=n then v else look r n
def St.put(s:St)(d:Option Tmp)(v:AV):St :=match d with
 |some d=>{ s with tmps:=(d,v)::s.tmps }
 |none=>s
def wJ:Value→AV
 |.bool b=>.bool b
 |.int k n=>.int k n
 |.string s=>.str s
 |.pointer a=>if a=none then .lf else .no
 |.slice a n c=>if a=none∧n=0∧c=0 then .gh else .no
 |.func fn first cap=>match fn with
  |.func f=>if first.size=0∧cap.size=0 then .fn f [] else .no
  |_=>.no
 |_=>.no
def tL(v:Value):AV :=match v with
 |.agg cs=>.agg (cs.toList.map wJ)
 |v=>wJ v
def ρ(s:List (Nat×AV)):Operand→AV
 |.tmp t=>look s t
 |.const v=>tL v
 |.global _=>.no
 |.func f=>.fn f []
inductive bL where
 |val (v:AV)
 |new (v:AV) (os:Heap)
 |wr (v:AV) (h:Heap)
def bL.v:bL→AV
 |.val v=>v
 |.new v _=>v
 |.wr v _=>v
def bL.h(h:Heap):bL→Heap
 |.val _=>h
 |.new _ os=>os++h
 |.wr _ h'=>h'
inductive CK where
 |val (k:K)
 |own (ok:OK)
inductive PK where
 |val (k:K)
 |ref
 |own
 |G5 (f:FuncId) (n:Nat)
 |agg (n:Nat)
inductive RK where
 |val (k:K)
 |own (ok:OK)
 |eY (b:Nat) (alts:List (Nat×Nat×Nat))
 |agg (c:List CK)
inductive BK where
 |box (ty:TypeId) (dy:List CK)
 |own (ok:OK)
def BK.dy:BK→List CK
 |.box _ c=>c
 |.own _=>[]
def CK.T:CK→Type
 |.val k=>k.T
 |.own ok=>ok.T
def qG:List CK→Type
 |[]=>Unit
 |c::r=>c.T×qG r
abbrev BK.T:BK→Type
 |.box _ c=>qG c
 |.own ok=>ok.T
def wK:List BK→Type
 |[]=>Unit
 |b::r=>b.T×wK r
def Hd:List K→Type
 |[]=>Unit
 |k::r=>k.T×Hd r
def RK.T:RK→Type
 |.val k=>k.T
 |.own ok=>ok.T
 |.eY _ alts=>Option (Fin alts.length×Nat)
 |.agg c=>qG c
def lM:List RK→Type
 |[]=>Unit
 |r::l=>r.T×lM l
def kR:List PK→List K
 |[]=>[]
 |.val k::r=>k::kR r
 |_::r=>kR r
structure aS where
 ps:List PK
 bs:List BK
 rs:List RK
 x:Option (Heap→Nat→List AV→Option (Bool×bL)):=none
abbrev aS.A(g:aS):Type:=Hd (kR g.ps)×wK g.bs
abbrev aS.B(g:aS):Type:=lM g.rs×wK g.bs
def RK.plain:RK→Bool
 |.val _=>true
 |.own ..=>true
 |.eY ..=>false
 |.agg c=>decide (c.length≤16)
def RK.flat:RK→Bool
 |.val k=>k.flat
 |.own ..=>false
 |.eY ..=>true
 |.agg _=>false
section
variable (P:Program)
def J9:TypeDesc→Bool
 |.struct _=>true
 |.array _ _=>true
 |_=>false
def D1(t:TypeId):Option Bool:=(P.underlying t).map J9
def g6(t:TypeId)(f:Nat):Option (Nat×TypeId) :=match P.underlying t with
 |some (.struct fs)=>(fs[f]?).map fun x=>(x.offset,x.type)
 |_=>none
def ym(t:TypeId):Option TypeId :=match P.underlying t with
 |some (.slice e)=>some e
 |_=>none
def AG(t:TypeId):Option (List AV):=(P.info? t).bind fun i=>i.zero.bind fun z=>if z.cells.toList.all (·.oneCell') then some (tL z).cells else none
def ep(t:TypeId)(cs:List AV):Option AV :=match D1 P t with
 |some true=>if P.cellsOf t≤cs.length then some (.agg (cs.take (P.cellsOf t))) else none
 |some false=>match cs with
  |c::_=>some c
  |[]=>none
 |none=>none
def dZ{α:Type}(cs:List α):Nat→List α→List α
 |_,[]=>cs
 |off,v::r=>dZ (cs.set off v) (off+1) r
def D2(place:Nat→Option (Nat×Nat))(cs:List AV):List (Nat×AV)→Option (List AV)
 |[]=>some cs
 |(i,v)::r =>
  match place i with
  |none=>none
  |some (off,size)=>if v.cells.length≠size∨off+v.cells.length>cs.length then none else D2 place (dZ cs off v.cells) r
def cY(op:BinOp)(k:IntKind)(a b:Int):Int :=k.wrap ((match op with
  |.and=>BitVec.ofInt k.bits a &&& BitVec.ofInt k.bits b
  |.or=>BitVec.ofInt k.bits a ||| BitVec.ofInt k.bits b
  |.xor=>BitVec.ofInt k.bits a ^^^ BitVec.ofInt k.bits b
  |_=>BitVec.ofInt k.bits a &&& ~~~(BitVec.ofInt k.bits b)).toNat:Int)
def He(k:IntKind)(a b:Int):Int:=k.wrap (a*2 ^ (min b.toNat k.bits))
def lg(k:IntKind)(a b:Int):Int:=a.fdiv (2 ^ (min b.toNat k.bits))
def XT(op:BinOp)(k:IntKind)(a b:Int):Option AV :=match op with
 |.add=>some (.int k (k.wrap (a+b)))
 |.sub=>some (.int k (k.wrap (a-b)))
 |.mul=>some (.int k (k.wrap (a*b)))
 |.eql=>some (.bool (a==b))
 |.neq=>some (.bool (a != b))
 |.lss=>some (.bool (decide (a<b)))
 |.leq=>some (.bool (decide (a≤b)))
 |.gtr=>some (.bool (decide (a>b)))
 |.geq=>some (.bool (decide (a≥b)))
 |.and=>some (.int k (cY .and k a b))
 |.or=>some (.int k (cY .or k a b))
 |.xor=>some (.int k (cY .xor k a b))
 |.andNot=>some (.int k (cY .andNot k a b))
 |_=>none
def aak(op:BinOp)(a b:ByteArray):Option AV :=match op with
 |.eql=>some (.bool (a==b))
 |.neq=>some (.bool (!(a==b)))
 |_=>none
def rN:(k:K)→k.T→k.T→Bool
 |.int _,x,y=>(show Int from x)==y
 |.bool,x,y=>(show Bool from x)==y
 |.str,x,y=>(show ByteArray from x)==y
 |.sl _,_,_=>false
 |.mp _ _,_,_=>false
 |.pair a b,x,y=>rN a x.1 y.1&&rN b x.2 y.2
 |.one k,x,y=>rN k x y
def tM(kk:K){α:Type}(x:kk.T)(es:List (kk.T×α)):Option Nat:=es.findIdx? fun e=>rN kk x e.1
def jk(kk:K){α:Type}(x:kk.T)(es:List (kk.T×α)):Option α:=(tM kk x es).bind fun i=>(es[i]?).map (·.2)
def mK(kk:K){α:Type}(x:kk.T)(v:α)(es:List (kk.T×α)):List (kk.T×α):=match tM kk x es with
 |some i=>es.set i (x,v)
 |none=>es++[(x,v)]
def PW(kk:K){α:Type}(x:kk.T)(es:List (kk.T×α)):List (kk.T×α):=match tM kk x es with
 |some i=>es.eraseIdx i
 |none=>es
def nY:(k:K)→k.T
 |.int _=>(0:Int)
 |.bool=>false
 |.str=>ByteArray.empty
 |.sl k=>([]:List k.T)
 |.pair a b=>(nY a,nY b)
 |.one k=>nY k
 |.mp kk vk=>([]:List (kk.T×vk.T))
def PX:K→Value→Bool
 |.int ik,.int ZI n=>decide (ZI=ik∧n=0)
 |.bool,.bool b => !b
 |.str,.string s=>decide (s=ByteArray.empty)
 |.sl _,.slice a n c=>decide (a=none∧n=0∧c=0)
 |_,_=>false
def L4(t:TypeId)(k:K):Bool:=match P.info? t with
 |some i=>match i.zero with
  |some z=>PX k z
  |none=>false
 |none=>false
def L5(Eqs:TypeId→Option K)(t:TypeId)(k:K):Bool:=k.flat&&(match k,P.underlying t with
 |.int ik,some (.int ZI)=>decide (ZI=ik)
 |.bool,some .bool=>true
 |.str,some .string=>true
 |k,_=>k.isAgg&&decide (Eqs t=some k))
def mapOf(Eqs:TypeId→Option K)(t:TypeId):Option (K×K):=match P.underlying t with
 |some (.map a b)=>match qF P 8 a,qF P 8 b with
  |some kk,some vk=>if L5 P Eqs a kk&&L4 P b vk then some (kk,vk) else none
  |_,_=>none
 |_=>none
def aT{α:Type}(xs:List α)(i:Int):Option α:=if 0≤i then xs[i.toNat]? else none
def fk:Nat:=1073741824
def aN(n m:Nat):Bool:=decide (n+m≤fk)
def n6(n:Nat)(lo hi:Option AV):Option (Int×Int) :=match lo,hi with
 |none,none=>some (0,(n:Int))
 |some (.int .i64 l),none=>some (l,(n:Int))
 |none,some (.int .i64 h)=>some (0,h)
 |some (.int .i64 l),some (.int .i64 h)=>some (l,h)
 |_,_=>none
def bp(n:Nat)(l h:Int):Bool:=decide (0≤l)&&(decide (l≤h)&&decide (h≤(n:Int)))
def cut{α:Type}(xs:List α)(l h:Int):List α:=(xs.take h.toNat).drop l.toNat
def XU(s:ByteArray)(l h:Int):ByteArray:=s.extract l.toNat h.toNat
variable {R:Type}
def fY(k:K)(h:Heap)(v:AV):Option k.T:=if k.isAgg=v.isAgg then dz k (v.cells.map (cQ h)) else none
def rowOf(h:Heap)(v:AV)(k:K):Option (List k.T) :=match cQ h v with
 |.sl _ k' xs=>if e:k'=k then some (e▸xs) else none
 |.gh=>some []
 |_=>none
def Fl(e:TypeId)(k:K):Bool :=match P.info? e with
 |some i=>(match i.zero with
  |some z=>decide (i.size=k.sz)&&(decide (z.cells.size=k.sz)&&decide (i.bytes≤65536))
  |none=>false)
 |none=>false
def n8(h:Heap)(id:Nat)(t:TypeId)(s x:AV)(K:bL→Option R):Option R :=match ym P t with
 |none=>none
 |some e =>
  match qF P 8 e with
  |none=>none
  |some kk =>
   match rowOf h x kk,Fl P e kk with
   |some ys,true =>
    match s with
    |.gh=>cond (aN 0 ys.length) (K (.new (.bK id) [(id,.own (.row e kk) ys)])) none
    |.bK cW =>
     match h.get cW with
     |some (.own (.row e' k') xs) =>
      if c:e'=e∧k'=kk then cond (aN xs.length ys.length) (K (.wr (.bK id) ((h.del cW).set id (.own (.row e kk) (c.2▸xs++ys))))) none else none
     |_=>none
    |.sl ex k' xs =>
     if c:k'=kk then cond (ex&&((!ys.isEmpty || xs.isEmpty)&&aN xs.length ys.length)) (K (.new (.bK id) [(id,.own (.row e kk) (c▸xs++ys))])) none else none
    |_=>none
   |_,_=>none
def wL:AV→Bool
 |.no=>false
 |.agg _=>false
 |.nu _=>false
 |_=>true
def Ka(id:Nat):List AV→Bool
 |[]=>true
 |.bK i::r => !(i==id)&&Ka id r
 |_::r=>Ka id r
def stored(h:Heap)(vs:List AV):List AV×Heap:=(vs.map (cQ h),cO h vs)
def rO(h:Heap)(t:TypeId)(a v:AV)(K:bL→Option R):Option R :=if v.cells.length=P.cellsOf t∧(P.info? t).isSome∧v.cells.all wL then
  match a with
  |.ref id s i off =>
   match h.get id with
   |some (.box ty cs)=>if i=0∧off+v.cells.length≤cs.length then K (.wr .no (h.set id (.box ty (dZ cs off v.cells)))) else none
   |some (.own (.row ty kk) xs) =>
    (xs[i]?).bind fun x =>if s=kk.sz∧off+v.cells.length≤kk.sz∧Ka id v.cells then
      match dz kk (dZ (enc kk x) off (stored h v.cells).1) with
      |some y=>K (.wr .no ((stored h v.cells).2.set id (.own (.row ty kk) (xs.set i y))))
      |none=>none
     else none
   |_=>none
  |_=>none
 else none
def lN(h:Heap)(t:TypeId)(a:AV)(K:bL→Option R):Option R :=match a with
 |.ref id s i off =>
  match h.get id with
  |some (.box _ cs)=>if i=0 then(match ep P t (cs.drop off) with|some v=>K (.val v)|none=>none) else none
  |some (.own (.row _ kk) xs)=>if s=kk.sz then(xs[i]?).bind fun x=>match ep P t ((enc kk x).drop off) with|some v=>K (.val v)|none=>none else none
  |_=>none
 |.fp kk x off=>match ep P t ((enc kk x).drop off) with|some v=>K (.val v)|none=>none
 |_=>none
def dE(h:Heap)(t:TypeId)(x i:AV)(K:bL→Option R):Option R :=match ym P t with
 |none=>none
 |some e =>
  match x,i with
  |.sl _ kk xs,.int _ n=>if P.cellsOf e=kk.sz then(aT xs n).bind fun y=>K (.val (.fp kk y 0)) else none
  |.bK id,.int _ n =>
   match h.get id with
   |some (.own (.row _ kk) xs)=>if P.cellsOf e=kk.sz then cond (decide (0≤n)&&decide (n<(xs.length:Int))) (K (.val (.ref id kk.sz n.toNat 0))) none else none
   |_=>none
  |_,_=>none
def wM(x:AV)(lo hi mx:Option AV)(K:bL→Option R):Option R :=match x,mx with
 |.str s,none =>
  match n6 s.size lo hi with
  |some (l,u)=>cond (bp s.size l u) (K (.val (.str (XU s l u)))) none
  |none=>none
 |_,_=>none
def o8(_:Heap)(sz:Nat)(x:AV)(lo hi mx:Option AV)(K:bL→Option R):Option R :=match x with
 |.gh =>
  match n6 0 lo hi,mx with
  |some (l,u),none=>cond (bp 0 l u) (K (.val .gh)) none
  |_,_=>none
 |.sl _ kk xs =>
  if sz=kk.sz then
   match n6 xs.length lo hi with
   |some (l,u) =>
    match mx with
    |none=>cond (bp xs.length l u) (K (.val (.sl false kk (cut xs l u)))) none
    |some (.int .i64 m)=>cond (bp xs.length l u&&(hi.isSome&&decide (m=u))) (K (.val (.sl true kk (cut xs l u)))) none
    |_=>none
   |none=>none
  else none
 |_=>none
def XV(t:TypeId)(x:AV):Bool :=match P.underlying t,x with
 |some .string,.str _=>true
 |some (.slice _),.str _=>false
 |some (.slice _),_=>true
 |_,_=>false
def Kb(t:TypeId):Bool :=match P.underlying t with
 |some (.map _ _)=>true
 |_=>false
def D3(h:Heap)(x:AV)(K:bL→Option R):Option R :=match cQ h x with
 |.str s=>K (.val (.int .i64 (s.size:Int)))
 |.sl _ _ xs=>K (.val (.int .i64 (xs.length:Int)))
 |.gh=>K (.val (.int .i64 0))
 |_=>none
def wN(h:Heap)(x:AV)(K:bL→Option R):Option R :=match cQ h x with
 |.mp _ _ es=>K (.val (.int .i64 (es.length:Int)))
 |_=>none
def ly(Eqs:TypeId→Option K)(id:Nat)(t:TypeId)(K:bL→Option R):Option R :=match mapOf P Eqs t with
 |some (kk,vk)=>K (.new (.bK id) [(id,.own (.map kk vk) [])])
 |none=>none
def oa(Eqs:TypeId→Option K)(h:Heap)(t:TypeId)(m i:AV)(ok:Bool)(K:bL→Option R):Option R :=match mapOf P Eqs t,cQ h m with
 |some (kk,vk),.mp L3 UA es =>
  if c:L3=kk∧UA=vk then
   match fY kk h i with
   |some x=>K (.val (cond ok (.nu [cq vk ((jk kk x (c.1▸c.2▸es:List (kk.T×vk.T))).getD (nY vk)),.bool (jk kk x (c.1▸c.2▸es:List (kk.T×vk.T))).isSome]) (cq vk ((jk kk x (c.1▸c.2▸es:List (kk.T×vk.T))).getD (nY vk)))))
   |none=>none
  else none
 |_,_=>none
def iO(Eqs:TypeId→Option K)(h:Heap)(t:TypeId)(m i v:AV)(K:bL→Option R):Option R :=match mapOf P Eqs t,m with
 |some (kk,vk),.bK id =>
  match h.get id with
  |some (.own (.map L3 UA) es) =>
   if c:L3=kk∧UA=vk then
    match fY kk h i,fY vk h v,(v.cells.all fun c=>match c with | .bK j => !(j==id)|_=>true) with
    |some x,some y,true=>K (.wr (.nu []) ((cO h v.cells).set id (.own (.map kk vk) (mK kk x y (c.1▸c.2▸es:List (kk.T×vk.T))))))
    |_,_,_=>none
   else none
  |_=>none
 |_,_=>none
def oc(Eqs:TypeId→Option K)(h:Heap)(t:TypeId)(m i:AV)(K:bL→Option R):Option R :=match mapOf P Eqs t,m with
 |some (kk,vk),.bK id =>
  match h.get id with
  |some (.own (.map L3 UA) es) =>
   if c:L3=kk∧UA=vk then
    match fY kk h i with
    |some x=>K (.wr (.nu []) (h.set id (.own (.map kk vk) (PW kk x (c.1▸c.2▸es:List (kk.T×vk.T))))))
    |none=>none
   else none
  |_=>none
 |_,_=>none
def od(id:Nat)(t:TypeId)(x:AV)(K:bL→Option R):Option R :=match P.underlying t,x with
 |some .string,.str s=>K (.new (.bK id) [(id,.own .nX (s,0))])
 |_,_=>none
def o9(s:ByteArray)(p:Nat):Int:=(Utf8.decode s p).1
def AH(s:ByteArray)(p:Nat):Nat:=(Utf8.decode s p).2
def rP(h:Heap)(x:AV)(K:bL→Option R):Option R :=match x with
 |.bK id=>match h.get id with
  |some (.own .nX x)=>cond (decide (x.2<x.1.size)) (K (.wr (.nu [.bool true,.int .i64 (x.2:Int),.int .i32 (o9 x.1 x.2)]) (h.set id (.own .nX (x.1,x.2+AH x.1 x.2))))) (K (.val (.nu [.bool false])))
  |_=>none
 |_=>none
def rQ(h:Heap)(x:AV)(K:bL→Option R):Option R :=match x with
 |.bK id=>match h.get id with
  |some (.own (.iter kk vk) (some c,_))=>K (.val (.nu [cq kk c.1,cq vk c.2]))
  |_=>none
 |_=>none
def Fm:TypeDesc→Bool
 |.bool=>true
 |_=>false
def wO:TypeDesc→Bool
 |.pointer _=>true
 |_=>false
def yn(Eqs:TypeId→Option K)(op:BinOp)(t:TypeId)(x y:AV)(K:bL→Option R):Option R :=match x,y with
 |.int k a,.int k' b =>
  match op with
  |.shl=>cond (decide (b<0)) none (K (.val (.int k (He k a b))))
  |.shr=>cond (decide (b<0)) none (K (.val (.int k (lg k a b))))
  |op =>
  if k=k' then
   match op with
   |.quo=>cond (b==0) none (K (.val (.int k (k.wrap (a.tdiv b)))))
   |.rem=>cond (b==0) none (K (.val (.int k (a.tmod b))))
   |op=>match XT op k a b with
    |some v=>K (.val v)
    |none=>none
  else none
 |.str a,.str b=>match aak op a b with
  |some v=>K (.val v)
  |none=>none
 |.bool a,.bool b =>
  match op,(P.underlying t).map Fm with
  |.eql,some true=>K (.val (.bool (a==b)))
  |.neq,some true=>K (.val (.bool (!(a==b))))
  |_,_=>none
 |.agg a,.agg b =>
  match Eqs t with
  |none=>none
  |some k =>
   match op,dz k a,dz k b with
   |.eql,some x,some y=>K (.val (.bool (rN k x y)))
   |.neq,some x,some y=>K (.val (.bool (!(rN k x y))))
   |_,_,_=>none
 |.lf,.lf =>
  match op,(P.underlying t).map wO with
  |.eql,some true=>K (.val (.bool true))
  |.neq,some true=>K (.val (.bool false))
  |_,_=>none
 |.ref ..,.lf =>
  match op,(P.underlying t).map wO with
  |.eql,some true=>K (.val (.bool false))
  |.neq,some true=>K (.val (.bool true))
  |_,_=>none
 |_,_=>none
def Wz(b:Bool)(x y:AV):AV :=match x,y with
 |.bool p,.bool q=>.bool (cond b p q)
 |x,y=>cond b x y
end
def dY(h:Heap)(ok:OK)(c:AV):Option ok.T :=match c with
 |.gh=>match ok with
  |.row _ _=>some []
  |_=>none
 |.bK id=>match h.get id with
  |some (.own ZJ x)=>if e:ZJ=ok then some (e▸x) else none
  |_=>none
 |_=>none
def pe:AV→List Nat
 |.bK id=>[id]
 |_=>[]
def cS:(dy:List CK)→Heap→List AV→Option (qG dy)
 |[],_,[]=>some ()
 |.val k::r,h,cs =>
  match dz k ((cs.take k.sz).map (cQ h)),cS r h (cs.drop k.sz) with
  |some x,some y=>some (x,y)
  |_,_=>none
 |.own ok::r,h,c::cs =>
  match dY h ok c,cS r h cs with
  |some x,some y=>some (x,y)
  |_,_=>none
 |_,_,_=>none
def qn:List CK→List AV→List AV
 |.val k::r,cs=>cs.take k.sz++qn r (cs.drop k.sz)
 |.own _::r,_::cs=>qn r cs
 |_,_=>[]
def fU:List CK→List AV→List Nat
 |.val k::r,cs=>fU r (cs.drop k.sz)
 |.own _::r,c::cs=>pe c++fU r cs
 |_,_=>[]
def aI:(dy:List CK)→Nat→qG dy→List AV
 |[],_,_=>[]
 |.val k::r,n,x=>enc k x.1++aI r (n+1) x.2
 |.own _::r,n,x=>.bK n::aI r (n+1) x.2
def bm:(dy:List CK)→Nat→qG dy→Heap
 |[],_,_=>[]
 |.val _::r,n,x=>bm r (n+1) x.2
 |.own ok::r,n,x=>(n,.own ok x.1)::bm r (n+1) x.2
def AI(h:Heap)(id:Nat)(ty:TypeId):Option (List AV) :=match h.get id with
 |some (.box zr cs)=>if zr=ty then some cs else none
 |_=>none
def qo:(b:BK)→Heap→Nat→Option b.T
 |.box ty c,h,i=>match AI h i ty with
  |some cs=>cS c h cs
  |none=>none
 |.own ok,h,i=>dY h ok (.bK i)
def de:(bs:List BK)→Heap→List Nat→Option (wK bs)
 |[],_,[]=>some ()
 |b::r,h,i::is =>
  match qo b h i,de r h is with
  |some x,some y=>some (x,y)
  |_,_=>none
 |_,_,_=>none
def jl:(b:BK)→Nat→Nat→b.T→Heap
 |.box ty c,i,n,x=>(i,.box ty (aI c n x))::bm c n x
 |.own ok,i,_,x=>[(i,.own ok x)]
def bC:(bs:List BK)→List Nat→Nat→wK bs→Heap
 |b::r,i::is,n,x=>jl b i n x.1++bC r is (n+16) x.2
 |_,_,_,_=>[]
def AJ:BK→Heap→Nat→List AV
 |.box _ c,h,i=>match h.get i with
  |some (.box _ cs)=>qn c cs
  |_=>[]
 |.own _,_,_=>[]
def gi:List BK→Heap→List Nat→List AV
 |b::r,h,i::is=>AJ b h i++gi r h is
 |_,_,_=>[]
def kb:BK→Heap→Nat→List Nat
 |.box _ c,h,i=>i::(match h.get i with
  |some (.box _ cs)=>fU c cs
  |_=>[])
 |.own _,_,i=>[i]
def dg:List BK→Heap→List Nat→List Nat
 |b::r,h,i::is=>kb b h i++dg r h is
 |_,_,_=>[]
def g8(h:Heap):List Nat→Heap
 |[]=>h
 |i::r=>g8 (h.del i) r
def D4:AV→Option Nat
 |.ref id _ 0 0=>some id
 |_=>none
def jM:List AV→Option (List Nat)
 |[]=>some []
 |v::r=>match D4 v,jM r with
  |some i,some is=>some (i::is)
  |_,_=>none
def pf:List AV→Option (List Nat)
 |[]=>some []
 |.bK i::r=>match pf r with
  |some is=>some (i::is)
  |none=>none
 |_=>none
def cJ:List PK→List AV→Option (List Nat)
 |[],[]=>some []
 |.val _::ps,_::vs=>cJ ps vs
 |.ref::ps,v::vs=>match D4 v,cJ ps vs with
  |some i,some is=>some (i::is)
  |_,_=>none
 |.own::ps,.bK i::vs=>match cJ ps vs with
  |some is=>some (i::is)
  |none=>none
 |.G5 f n::ps,.fn f' cap::vs =>
  if f'=f∧cap.length=n then match jM cap,cJ ps vs with
   |some a,some b=>some (a++b)
   |_,_=>none
  else none
 |.agg n::ps,.agg cs::vs =>
  if cs.length=n then match pf cs,cJ ps vs with
   |some a,some b=>some (a++b)
   |_,_=>none
  else none
 |_,_=>none
def eU:(ps:List PK)→Heap→List AV→Option (Hd (kR ps))
 |[],_,[]=>some ()
 |.val k::ps,h,v::vs =>
  match fY k h v,eU ps h vs with
  |some x,some y=>some (x,y)
  |_,_=>none
 |.ref::ps,h,_::vs=>eU ps h vs
 |.own::ps,h,_::vs=>eU ps h vs
 |.G5 _ _::ps,h,_::vs=>eU ps h vs
 |.agg _::ps,h,_::vs=>eU ps h vs
 |_,_,_=>none
def dx:List PK→List AV→List AV
 |.val _::ps,v::vs=>v.cells++dx ps vs
 |_::ps,_::vs=>dx ps vs
 |_,_=>[]
def aZ:(ps:List PK)→(ids:List Nat)→Nat→Hd (kR ps)→List (Nat×AV)
 |[],_,_,_=>[]
 |.val k::ps,ids,s,x=>(s,cq k x.1)::aZ ps ids (s+1) x.2
 |.ref::ps,i::ids,s,x=>(s,.ref i 0 0 0)::aZ ps ids (s+1) x
 |.ref::ps,[],s,x=>(s,.no)::aZ ps [] (s+1) x
 |.own::ps,i::ids,s,x=>(s,.bK i)::aZ ps ids (s+1) x
 |.own::ps,[],s,x=>(s,.no)::aZ ps [] (s+1) x
 |.G5 f n::ps,ids,s,x=>(s,.fn f ((ids.take n).map fun i=>.ref i 0 0 0))::aZ ps (ids.drop n) (s+1) x
 |.agg n::ps,ids,s,x=>(s,.agg ((ids.take n).map .bK))::aZ ps (ids.drop n) (s+1) x
def mR:List CK→Nat→Nat
 |.val k::r,c+1=>k.sz+mR r c
 |.own _::r,c+1=>1+mR r c
 |_,_=>0
def fZ:List CK→Nat→Bool
 |.own (.row _ _)::_,0=>true
 |_::r,c+1=>fZ r c
 |_,_=>false
def PY(id:Nat):Option AV→Bool
 |some (.bK mL)=>mL==id
 |_=>false
def yp(c:List CK)(cs:List AV)(id s off:Nat)(a:Nat×Nat×Nat):Bool :=PY id (cs[mR c a.1]?)&&(decide (s=a.2.1)&&(decide (off=a.2.2)&&fZ c a.1))
def nC(bs:List BK)(h:Heap)(ids:List Nat)(b:Nat)(alts:List (Nat×Nat×Nat))(v:AV):Option (Option (Fin alts.length×Nat)) :=match v with
 |.lf=>some none
 |.ref id s i off =>
  (match ids[b]?,bs[b]? with
  |some bi,some bk=>(match h.get bi with
   |some (.box _ cs)=>(match (List.finRange alts.length).find? (fun a=>yp bk.dy cs id s off (alts.get a)) with
    |some a=>some (some (a,i))
    |none=>none)
   |_=>none)
  |_,_=>none)
 |_=>none
def AK(c:List CK)(h:Heap)(v:AV):Option (qG c) :=match v with
 |.agg cs=>cS c h cs
 |_=>none
def bM(bs:List BK):(rs:List RK)→Heap→List Nat→List AV→Option (lM rs)
 |[],_,_,[]=>some ()
 |.val k::r,h,ids,v::vs =>
  match fY k h v,bM bs r h ids vs with
  |some x,some y=>some (x,y)
  |_,_=>none
 |.own ok::r,h,ids,v::vs =>
  match dY h ok v,bM bs r h ids vs with
  |some x,some y=>some (x,y)
  |_,_=>none
 |.eY b alts::r,h,ids,v::vs =>
  match nC bs h ids b alts v,bM bs r h ids vs with
  |some x,some y=>some (x,y)
  |_,_=>none
 |.agg c::r,h,ids,v::vs =>
  match AK c h v,bM bs r h ids vs with
  |some x,some y=>some (x,y)
  |_,_=>none
 |_,_,_,_=>none
def gj:List RK→List AV→List AV
 |.val _::r,v::vs=>v.cells++gj r vs
 |.agg c::r,v::vs=>qn c v.cells++gj r vs
 |_::r,_::vs=>gj r vs
 |_,_=>[]
def dU:List RK→List AV→List Nat
 |.own _::r,v::vs=>pe v++dU r vs
 |.agg c::r,v::vs=>fU c v.cells++dU r vs
 |_::r,_::vs=>dU r vs
 |_,_=>[]
def uO(b n:Nat)(alts:List (Nat×Nat×Nat)):Option (Fin alts.length×Nat)→AV
 |none=>.lf
 |some (a,i)=>.ref (n+16*b+(alts.get a).1) (alts.get a).2.1 i (alts.get a).2.2
def bf:(rs:List RK)→(ids:List Nat)→(n m:Nat)→lM rs→List AV
 |[],_,_,_,_=>[]
 |.val k::r,ids,n,m,x=>cq k x.1::bf r ids n (m+1) x.2
 |.agg c::r,ids,n,m,x=>.agg (aI c m x.1)::bf r ids n (m+1) x.2
 |.own _::r,ids,n,m,x=>.bK m::bf r ids n (m+1) x.2
 |.eY b alts::r,ids,n,m,x=>uO b n alts x.1::bf r ids n (m+1) x.2
def ak:(rs:List RK)→(m:Nat)→lM rs→Heap
 |[],_,_=>[]
 |.own ok::r,m,x=>(m,.own ok x.1)::ak r (m+1) x.2
 |.agg c::r,m,x=>bm c m x.1++ak r (m+1) x.2
 |.val _::r,m,x=>ak r (m+1) x.2
 |.eY _ _::r,m,x=>ak r (m+1) x.2
def fi:List AV→AV
 |[v]=>v
 |vs=>.nu vs
def cr:List CK→Nat→List Nat
 |[],_=>[]
 |.val _::r,n=>cr r (n+1)
 |.own _::r,n=>n::cr r (n+1)
def cd:List BK→List Nat→Nat→List Nat
 |b::r,i::is,n=>i::(cr b.dy n++cd r is (n+16))
 |_,_,_=>[]
def bD:List RK→Nat→List Nat
 |[],_=>[]
 |.own _::r,m=>m::bD r (m+1)
 |.agg c::r,m=>cr c m++bD r (m+1)
 |.val _::r,m=>bD r (m+1)
 |.eY _ _::r,m=>bD r (m+1)
def aU(n:Nat):List Nat:=(List.range n).map fun i=>1000+20*i
def qH(g:aS):List Nat:=cd g.bs (aU g.bs.length) 2000++bD g.rs 3000
def Hf:List AV→Bool
 |[]=>true
 |.bK _::_=>false
 |_::r=>Hf r
def qI:List AV→Bool
 |[]=>true
 |v::r=>Hf v.cells&&qI r
def ck:List Nat→Bool
 |[]=>true
 |i::r => !(r.contains i)&&ck r
def wP(kept:List Nat)(kP:List AV):Bool:=ck kept&&kept.all fun i=>Ka i kP
section
variable (P:Program) (Eqs:TypeId→Option K) (Sg:FuncId→Option aS) (F:(f:FuncId)→(g:aS)→g.A→Option g.B)
variable {R:Type}
def tN(f:FuncId):List AV→FuncId
 |[]=>f
 |.fn g _::_=>f+1000*(g+1)
 |_::r=>tN f r
def AL:List AV→Bool
 |[]=>false
 |.bK _::_=>true
 |.agg cs::r=>(cs.any fun c=>match c with | .bK _=>true|_=>false) || AL r
 |_::r=>AL r
def keyOf(f:FuncId)(vs:List AV):FuncId:=if AL vs&&(Sg (tN f vs+500000)).isSome then tN f vs+500000 else tN f vs
def DB(bs:List BK)(r:RK):Bool:=match r with
 |.eY b alts=>match bs[b]? with
  |some bk=>(alts.all fun a=>fZ bk.dy a.1)&&decide ((alts.map fun a=>(a.1,a.2.2)).Nodup)
  |none=>false
 |.agg c=>decide (c.length≤16)
 |_=>true
def qJ(bs:List BK)(rs:List RK):Bool:=rs.all (DB bs)
def PZ(f:FuncId)(g:aS):Bool:=qJ g.bs g.rs&&( (decide (g.bs.length≤8)&&(g.bs.all fun b=>decide (b.dy.length≤16)))&&((decide (g.rs.length≤100)&&decide (f<1000))&&ck (qH g)))
def qK{α R:Type}(o:Option α)(a:Option R)(f:α→Option R):Option R:=match o with
 |none=>a
 |some x=>f x
def aal{R:Type}(n:Nat)(a:Fin n)(f:Fin n→Option R):Option R:=(List.finRange n).foldr (fun j r=>cond (a.val==j.val) (f j) r) none
def jN{R:Type}:(rs:List RK)→lM rs→(lM rs→Option R)→Option R
 |[],_,K=>K ()
 |.eY _ alts::r,x,K=>qK x.1 (jN r x.2 fun z=>K (none,z)) (fun p=>aal alts.length p.1 fun a=>jN r x.2 fun z=>K (some (a,p.2),z))
 |.val _::r,x,K=>jN r x.2 fun z=>K (x.1,z)
 |.own _::r,x,K=>jN r x.2 fun z=>K (x.1,z)
 |.agg _::r,x,K=>jN r x.2 fun z=>K (x.1,z)
def jm(h:Heap)(id:Nat)(f:FuncId)(vs:List AV)(K:bL→Option R):Option R :=match Sg (keyOf Sg f vs) with
 |none=>none
 |some g=>match g.x with
 |some u=>if f<1000 then(u h id vs).bind fun p=>cond p.1 (K p.2) none else none
 |none =>
  match cJ g.ps vs,PZ f g with
  |some is,true =>
   if is.isEmpty&&g.rs.all RK.plain then
   match eU g.ps h vs,de g.bs h [],g.rs.all RK.plain with
   |some x,some b,true =>
    (F (keyOf Sg f vs) g (x,b)).bind fun y =>cond (g.rs.all RK.flat || qI vs) (K (.new (fi (bf g.rs [] id (id+128) y.1)) (ak g.rs (id+128) y.1))) (K (.wr (fi (bf g.rs [] id (id+128) y.1)) (ak g.rs (id+128) y.1++cO h (dx g.ps vs))))
   |_,_,_=>none
   else
   match eU g.ps h vs,de g.bs h is,wP (dg g.bs h is) (dx g.ps vs++gi g.bs h is)&&ck (cd g.bs is id++bD g.rs (id+128)) with
   |some x,some b,true =>
    (F (keyOf Sg f vs) g (x,b)).bind fun y=>jN g.rs y.1 fun z =>K (.wr (fi (bf g.rs is id (id+128) z)) (bC g.bs is id y.2++(ak g.rs (id+128) z++g8 (cO h (dx g.ps vs++gi g.bs h is)) (dg g.bs h is))))
   |_,_,_=>none
  |_,_=>none
def qL{α:Type}(xs:List α)(i:Int)(ys:List α):Bool:=decide (0≤i)&&(decide (i≤xs.length)&&(decide (ys.length=1)&&aN xs.length ys.length))
def gk{α:Type}(xs:List α)(i:Int)(ys:List α):List α:=xs.take i.toNat++(ys++xs.drop i.toNat)
def jH{α:Type}(xs:List α)(i j:Int):Bool:=decide (0≤i)&&(decide (i<j)&&(decide (j≤xs.length)&&aN xs.length 0))
def dA{α:Type}(xs:List α)(i j:Int):List α:=xs.take i.toNat++xs.drop j.toNat
def qM(n:Int):Bool:=decide (0≤n)&&decide (n≤fk)
def P0(ty:TypeId)(k:K)(h:Heap)(id:Nat):List AV→Option (Bool×bL)
 |[.bK o,.int .i64 i,.bK j]=>match dY h (.row ty k) (.bK o),dY h (.row ty k) (.bK j) with
  |some xs,some ys=>if o=j then none else some (qL xs i ys,.wr (.bK id) ((id,.own (.row ty k) (gk xs i ys))::h.del o))
  |_,_=>none
 |_=>none
def UB(ty:TypeId)(k:K)(h:Heap)(id:Nat):List AV→Option (Bool×bL)
 |[.bK o,.int .i64 i,.int .i64 j]=>match dY h (.row ty k) (.bK o) with
  |some xs=>some (jH xs i j,.wr (.bK id) ((id,.own (.row ty k) (dA xs i j))::h.del o))
  |none=>none
 |_=>none
def L6(ty:TypeId)(k:K)(_:Heap)(id:Nat):List AV→Option (Bool×bL)
 |[.gh,.int .i64 n]=>some (qM n,.new (.bK id) [(id,.own (.row ty k) [])])
 |_=>none
def wQ(id:Nat)(t:TypeId)(vs:List AV)(K:bL→Option R):Option R :=K (.new (.ref id vs.length 0 0) [(id,.box t vs)])
def WA:AV→Bool
 |.no=>false
 |_=>true
def rR(t:TypeId)(parts:List (Nat×AV))(K:bL→Option R):Option R :=match AG P t,P.underlying t with
 |some z,some (.struct fs) =>
  match D2 (fun i=>(fs[i]?).map fun f=>(f.offset,P.cellsOf f.type)) z parts,fs.toList.all (fun f=>(P.info? f.type).isSome)&&parts.all (fun p=>WA p.2) with
  |some cs,true=>K (.val (.agg cs))
  |_,_=>none
 |_,_=>none
def qN(k:K)(h:Heap):Nat→List (Nat×AV)→Option (List k.T)
 |_,[]=>some []
 |i,(j,v)::r =>
  if j=i then match dz k (v.cells.map (cQ h)),qN k h (i+1) r with
   |some x,some xs=>some (x::xs)
   |_,_=>none
  else none
def uP(h:Heap)(id:Nat)(t:TypeId)(n:Nat)(parts:List (Nat×AV))(K:bL→Option R):Option R :=match ym P t with
 |none=>none
 |some e =>
  match qF P 8 e with
  |none=>none
  |some k =>
   match qN k h 0 parts,Fl P e k with
   |none,_=>none
   |some _,false=>none
   |some xs,true =>
    if parts.length=n∧n*k.sz≤1048576 then
     cond (qI (parts.map (·.2))) (K (.new (.bK id) [(id,.own (.row e k) xs)])) (K (.wr (.bK id) ((id,.own (.row e k) xs)::cO h (parts.flatMap (·.2.cells)))))
    else none
def UC:bL→bL
 |.new (.bK _) [(_,.own (.row _ k) xs)]=>.new (.sl true k xs) []
 |e=>e
def wR(kP:Bool)(h:Heap)(id:Nat)(t:TypeId)(n:Nat)(parts:List (Nat×AV))(K:bL→Option R):Option R :=uP P h id t n parts fun e=>K (if kP then UC e else e)
def AM(src dst:TypeId)(x:AV)(K:bL→Option R):Option R :=match P.underlying src,P.underlying dst,x with
 |some (.int _),some (.int k),.int _ n=>K (.val (.int k (k.wrap n)))
 |some .string,some .string,.str s=>K (.val (.str s))
 |_,_,_=>none
def Ns(mx:Bool)(vs:List AV)(K:bL→Option R):Option R :=match vs with
 |[.int k a,.int k' b]=>if k=k' then K (.val (.int k (cond mx (max a b) (min a b)))) else none
 |_=>none
def WB(t id:Nat):Bool:=(Sg (900000+t)).isSome&&(Sg (2000003+1000*(id / 256-128))).isSome
def cZ(id:Nat)(h:Heap)(s:List (Nat×AV))(o:Oper)(K:bL→Option R):Option R :=match o.op with
 |.move x | .assign x=>K (.val (ρ s x))
 |.pick c a b=>match ρ s c with
  |.bool t=>K (.val (Wz t (ρ s a) (ρ s b)))
  |_=>none
 |.box t x=>if(ρ s x).cells.all wL then wQ id t (ρ s x).cells K else none
 |.alloc t=>match AG P t with
  |some z=>wQ id t z K
  |none=>none
 |.build t ps=>rR P t (ps.toList.map fun p=>(p.1,ρ s p.2)) K
 |.buildSlice t n ps=>wR P (WB Sg t id) h id t n (ps.toList.map fun p=>(p.1,ρ s p.2)) K
 |.load t a=>lN P h t (ρ s a) K
 |.store t a v=>rO P h t (ρ s a) (ρ s v) K
 |.nilCheck x=>match ρ s x with
  |.ref id s i off=>K (.val (.ref id s i off))
  |.fp k x off=>K (.val (.fp k x off))
  |.fn f cap=>K (.val (.fn f cap))
  |_=>none
 |.binOp op t x y _=>yn P Eqs op t (ρ s x) (ρ s y) K
 |.unOp .not _ x=>match ρ s x with
  |.bool b=>K (.val (.bool (!b)))
  |_=>none
 |.convert src dst x=>AM P src dst (ρ s x) K
 |.makeFunc (.func f) first cap=>if first.size=0 then K (.val (.fn f (cap.toList.map (ρ s)))) else none
 |.slice t x lo hi mx=>match P.underlying t with
  |some .string=>wM (ρ s x) (lo.map (ρ s)) (hi.map (ρ s)) (mx.map (ρ s)) K
  |some (.slice e)=>if(P.info? e).isSome then o8 h (P.cellsOf e) (ρ s x) (lo.map (ρ s)) (hi.map (ρ s)) (mx.map (ρ s)) K else none
  |_=>none
 |.fieldAddr t x f=>match g6 P t f,ρ s x with
  |some (n,ft),.ref id s i off=>if P.cellsOf ft=0 then none else K (.val (.ref id s i (off+n)))
  |some (n,ft),.fp k x off=>if P.cellsOf ft=0 then none else K (.val (.fp k x (off+n)))
  |_,_=>none
 |.field t x f=>match g6 P t f,ρ s x with
  |some (n,ft),.agg cs=>match ep P ft (cs.drop n) with
   |some v=>K (.val v)
   |none=>none
  |_,_=>none
 |.indexAddr t x i=>dE P h t (ρ s x) (ρ s i) K
 |.index t x i=>match P.underlying t,ρ s x,ρ s i with
  |some .string,.str b,.int _ n=>(if 0≤n then b[n.toNat]? else none).bind fun c=>K (.val (.int .u8 (c.toNat:Int)))
  |_,_,_=>none
 |.makeMap t none=>ly P Eqs id t K
 |.lookup t m i ok=>oa P Eqs h t (ρ s m) (ρ s i) ok K
 |.mapUpdate t m i v=>iO P Eqs h t (ρ s m) (ρ s i) (ρ s v) K
 |.range t x=>od P id t (ρ s x) K
 |.next x true=>rP h (ρ s x) K
 |.entry x=>rQ h (ρ s x) K
 |.extract t i=>match ρ s t with
  |.nu vs=>match vs[i]? with
   |some v=>K (.val v)
   |none=>none
  |_=>none
 |.call c =>
  match c.callee with
  |.value f=>match ρ s f with
   |.fn f cap=>jm Sg F h id f (c.args.toList.map (ρ s)++cap) K
   |_=>none
  |.builtin .len=>match c.args.toList,c.argTypes.toList with
   |[x],[t]=>if Kb P t then wN h (ρ s x) K else if XV P t (ρ s x) then D3 h (ρ s x) K else none
   |_,_=>none
  |.builtin .append=>match c.args.toList,c.argTypes.toList with
   |[x,y],[t,t']=>if t'=t then n8 P h id t (ρ s x) (ρ s y) K else none
   |_,_=>none
  |.builtin .delete=>match c.args.toList,c.argTypes.toList with
   |[m,x],t::_=>oc P Eqs h t (ρ s m) (ρ s x) K
   |_,_=>none
  |.builtin .max=>Ns true (c.args.toList.map (ρ s)) K
  |.builtin .min=>Ns false (c.args.toList.map (ρ s)) K
  |_=>none
 |_=>none
def nD:Op→Bool
 |.move _ | .assign _ | .extract .. | .unOp .. | .pick .. | .fieldAddr .. | .nilCheck _ | .makeFunc .. | .build .. | .slice ..=>true
 |.binOp op ..=>match op with
  |.eql | .neq=>false
  |_=>true
 |_=>false
def makes:Op→Bool
 |.box .. | .alloc _ | .buildSlice .. | .makeMap .. | .range ..=>true
 |.call c=>match c.callee with
  |.builtin .append | .value _=>true
  |_=>false
 |_=>false
def opId(rid i:Nat):Nat:=((rid+1)*128+i)*256
def uQ(ops:Array Oper)(b:Array Nat):Bool :=(List.range ops.size).all fun i=>match ops[i]? with
  |some o=>(o.after.toList.all fun e => !Region.binds .any e || decide (e.on<i)) && b.getD i 0==o.after.toList.foldl (fun s e=>if Region.binds .any e then s ||| 2 ^ e.on ||| b.getD e.on 0 else s) 0
  |none=>false
def AO(ops:Array Oper)(b:Array Nat):Bool :=(List.range ops.size).all fun j=>(List.range j).all fun i =>(b.getD j 0).testBit i || (match ops[i]?,ops[j]? with
   |some x,some y=>x.apart ops y
   |_,_=>false)
def gV:Op→Option Operand
 |.load _ x=>some x
 |.indexAddr _ x _=>some x
 |_=>none
def zQ:Op→Bool
 |.store ..=>true
 |.call c=>match c.callee with
  |.value (.func f)=>f != 29
  |.value _=>true
  |_=>false
 |_=>false
def og(ops:Array Oper)(i j:Nat):Bool :=match (ops[j]?).bind (gV ·.op) with
 |some (.tmp d)=>(List.range ops.size).all fun m => !(decide (min i j≤m)&&decide (m<max i j)) || (match (ops[m]?).bind (·.dst) with|some d'=>d' != d|none=>true)
 |some _=>true
 |none=>false
def qp:AV→List Nat
 |.ref id _ _ _=>[id]
 |.bK id=>[id]
 |_=>[]
def XW(ops:Array Oper)(b:Array Nat)(i:Nat)(tmps:List (Nat×AV)):List Nat :=(List.range ops.size).flatMap fun j=>if j==i || (b.getD j 0).testBit i || (b.getD i 0).testBit j then[] else match (ops[j]?).bind (gV ·.op) with
  |some x=>qp (ρ tmps x)
  |none=>[]
def late(ops:Array Oper)(j:Nat):Bool:=ops.size==50&&(j==27 || j==29)
def rS(ops:Array Oper)(b:Array Nat)(i:Nat)(tmps:List (Nat×AV))(o:Oper):Bool:=match gV o.op with
 |some x=>late ops i && !(qp (ρ tmps x)).isEmpty && !((List.range ops.size).all fun k=>k==i || (b.getD i 0).testBit k || (b.getD k 0).testBit i || (match ops[k]? with|some p => !zQ p.op|none=>true) || og ops k i)
 |none=>false
def gW(ops:Array Oper)(b:Array Nat)(i:Nat)(tmps:List (Nat×AV))(o:Oper):List Nat:=if zQ o.op then XW ops b i tmps else if rS ops b i tmps o then[1] else[]
def Kc(ops:Array Oper)(b:Array Nat)(i:Nat):Bool :=(List.range ops.size).all fun j =>j==i || (b.getD j 0).testBit i || (b.getD i 0).testBit j || (match ops[j]? with|some o=>nD o.op|none=>true) || ((match ops[i]? with|some o=>zQ o.op|none=>false)&&(og ops i j || (late ops j&&(match ops[j]? with|some o=>(gV o.op).isSome|none=>false))))
def ahead(rid:Nat)(Kd:Nat)(h:Heap):Heap:=h.filter fun p=>(p.1 / 32768 != rid+1) || Kd.testBit (p.1 / 256%128)
def iz(n:Nat)(o:Oper):Bool :=match o.dst with
 |some d=>decide (d<n)
 |none=>true
end
def qO(rid bits id:Nat):Bool:=(id / 32768 != rid+1) || bits.testBit (id / 256%128)
mutual
def s6(rid bits:Nat):AV→Bool
 |.ref id _ _ _=>qO rid bits id
 |.bK id=>qO rid bits id
 |.fn _ cap=>AP rid bits cap
 |.agg cs=>AP rid bits cs
 |.nu vs=>AP rid bits vs
 |.no=>true
 |.bool _=>true
 |.int _ _=>true
 |.str _=>true
 |.lf=>true
 |.gh=>true
 |.fp _ _ _=>true
 |.sl _ _ _=>true
 |.mp _ _ _=>true
def AP(rid bits:Nat):List AV→Bool
 |[]=>true
 |v::r=>s6 rid bits v&&AP rid bits r
end
def yq(rid bits:Nat):Heap→Bool
 |[]=>true
 |(id,.box _ cs)::r=>qO rid bits id&&AP rid bits cs&&yq rid bits r
 |(id,.own _ _)::r=>qO rid bits id&&yq rid bits r
def gS(draw:Bool)(rid:Nat)(ops:Array Oper)(b:Array Nat)(i Kd:Nat):bL→Bool
 |.wr v h=>(!draw || Kc ops b i)&&s6 rid (Kd ||| 2 ^ i) v&&yq rid (Kd ||| 2 ^ i) h
 |.new v os=>s6 rid (Kd ||| 2 ^ i) v&&(os.all fun p=>p.1 / 256==(rid+1)*128+i)&&yq rid (Kd ||| 2 ^ i) os
 |.val v=>s6 rid Kd v
def fm(ft:List Nat)(hp h:Heap):Heap:=(ft.filterMap fun i=>(hp.get i).map fun o=>(i,o))++h
def gX(ft:List Nat)(hp:Heap):bL→bL
 |.wr v h=>.wr v (fm ft hp h)
 |.val v=>.val v
 |.new v os=>.new v os
mutual
def qP(ft:List Nat):AV→Bool
 |.ref id _ _ _ => !(ft.contains id)
 |.bK id => !(ft.contains id)
 |.fn _ cap=>tO ft cap
 |.agg cs=>tO ft cs
 |.nu vs=>tO ft vs
 |.no=>true
 |.bool _=>true
 |.int _ _=>true
 |.str _=>true
 |.lf=>true
 |.gh=>true
 |.fp _ _ _=>true
 |.sl _ _ _=>true
 |.mp _ _ _=>true
def tO(ft:List Nat):List AV→Bool
 |[]=>true
 |v::r=>qP ft v&&tO ft r
end
def tP(ft:List Nat):Heap→Bool
 |[]=>true
 |(id,.box _ cs)::r => !(ft.contains id)&&(tO ft cs&&tP ft r)
 |(id,.own _ _)::r => !(ft.contains id)&&tP ft r
def lO(ft:List Nat):bL→Bool
 |.wr v h=>qP ft v&&tP ft h
 |.val _ => !(ft.contains 1)
 |.new _ _=>true
section
variable (P:Program) (Eqs:TypeId→Option K) (Sg:FuncId→Option aS) (F:(f:FuncId)→(g:aS)→g.A→Option g.B)
variable {R:Type}
noncomputable def sW(n:Nat)(f:Nat→Option R):Option R:=open Classical in if h:∃r,∀j,j<n→f j=some r then some (Classical.choose h) else none
def zt(m:Nat)(d:AV):AV→AV
 |.bK i=>if i=m then d else .bK i
 |v=>v
def pj(id:Nat)(st:St)(o:Oper):Option St :=match o.op with
 |.range t x=>match P.underlying t,ρ st.tmps x with
  |some (.map _ _),.bK m=>match st.heap.get m with
   |some (.own (.map kk vk) es)=>some (({ tmps:=st.tmps.map fun p=>(p.1,zt m (.mp kk vk es) p.2),heap:=(id,.own (.iter kk vk) (none,es))::st.heap.del m }:St).put o.dst (.bK id))
   |_=>none
  |_,_=>none
 |_=>none
def uR(o:Oper):Option Operand :=match o.op with
 |.next x false=>some x
 |_=>none
noncomputable def lh(h:Heap)(x:AV)(K:AV→Heap→Option R):Option R :=match x with
 |.bK id=>match h.get id with
  |some (.own (.iter kk vk) p)=>cond p.2.isEmpty (K (.nu [.bool false]) h) (sW p.2.length fun j=>(p.2[j]?).bind fun c=>K (.nu [.bool true,cq kk c.1,cq vk c.2]) (h.set id (.own (.iter kk vk) (some c,p.2.eraseIdx j))))
  |_=>none
 |_=>none
def isNil(o:Oper):Option (Operand×Bool) :=match o.op with
 |.binOp op t x (.const v) _=>match op,P.underlying t,wJ v with
  |.eql,some (.slice _),.gh=>some (x,true)
  |.neq,some (.slice _),.gh=>some (x,false)
  |_,_,_=>none
 |_=>none
noncomputable def uS(h:Heap)(x:AV)(want:Bool)(K:AV→Option R):Option R :=match cQ h x with
 |.gh=>K (.bool want)
 |.sl _ _ xs=>cond xs.isEmpty (sW 2 fun j=>K (.bool ((j==0)==want))) (K (.bool (!want)))
 |_=>none
noncomputable def bG(rid:Nat)(draw:Bool)(ops:Array Oper)(b:Array Nat):List (Nat×Oper)→St→(St→Option R)→Option R
 |[],st,K=>K st
 |(i,o)::r,st,K =>
  let run (st:St):Option R :=match (if draw then none else pj P (opId rid i) st o) with
   |some eQ=>bG rid draw ops b r eQ K
   |none =>
   match (if draw then none else uR o) with
   |some x=>lh st.heap (ρ st.tmps x) fun v h=>bG rid draw ops b r (({ st with heap:=h }:St).put o.dst v) K
   |none =>
   match (if draw then none else isNil P o) with
   |some (x,want)=>uS st.heap (ρ st.tmps x) want fun v=>bG rid draw ops b r (st.put o.dst v) K
   |none =>
   if draw then
    cZ P Eqs Sg F (opId rid i) (g8 (ahead rid (b.getD i 0) st.heap) (gW ops b i st.tmps o)) st.tmps o fun e =>if gS true rid ops b i (b.getD i 0) (gX (gW ops b i st.tmps o) (ahead rid (b.getD i 0) st.heap) e)&&lO (gW ops b i st.tmps o) e then
      bG rid draw ops b r ({ st with heap:=match gX (gW ops b i st.tmps o) (ahead rid (b.getD i 0) st.heap) e with | .wr _ h=>h|e=>e.h st.heap }.put o.dst e.v) K else none
   else
    cZ P Eqs Sg F (opId rid i) st.heap st.tmps o fun e =>if gS false rid ops b i (2 ^ i-1) e then bG rid draw ops b r ({ st with heap:=match e with | .wr _ h=>h|e=>e.h st.heap }.put o.dst e.v) K else none
  let skip (st:St):Option R:=bG rid draw ops b r (st.put o.dst (.nu [])) K
  match o.guard with
  |none=>run st
  |some (j,want) =>
   match (ops[j]?).bind (·.dst) with
   |none=>none
   |some d =>
    match look st.tmps d with
    |.bool t=>cond t (if want then run (st.put (some d) (.bool true)) else skip (st.put (some d) (.bool true))) (if want then skip (st.put (some d) (.bool false)) else run (st.put (some d) (.bool false)))
    |.nu _=>skip st
    |_=>none
end
mutual
def bH(rid:Nat):AV→AV
 |.ref id s i off=>if id / 32768=rid+1 then .no else .ref id s i off
 |.bK id=>if id / 32768=rid+1 then .no else .bK id
 |.fn f cap=>.fn f (lP rid cap)
 |.agg cs=>.agg (lP rid cs)
 |.nu vs=>.nu (lP rid vs)
 |.no=>.no
 |.bool b=>.bool b
 |.int k n=>.int k n
 |.str s=>.str s
 |.lf=>.lf
 |.gh=>.gh
 |.fp k x off=>.fp k x off
 |.sl ex k xs=>.sl ex k xs
 |.mp kk vk es=>.mp kk vk es
def lP(rid:Nat):List AV→List AV
 |[]=>[]
 |v::r=>bH rid v::lP rid r
end
def AQ(rid:Nat):Ob→Ob
 |.box ty cs=>.box ty (lP rid cs)
 |.own ok x=>.own ok x
def kY(draw:Bool)(rid:Nat)(ops:Array Oper)(st:St):St :=if draw || ops.any (makes ·.op) then
  { tmps:=st.tmps.map fun p=>(p.1,bH rid p.2),heap:=(st.heap.filter fun p=>p.1 / 32768 != rid+1).map fun p=>(p.1,AQ rid p.2) }
 else st
section
variable (P:Program) (Eqs:TypeId→Option K) (Sg:FuncId→Option aS) (F:(f:FuncId)→(g:aS)→g.A→Option g.B)
variable {R:Type}
noncomputable def iA(n rid:Nat)(ops:Array Oper)(draw:Bool)(st:St)(K:St→Option R):Option R :=let b:=if draw then Region.before ops else #[]
 if(ops.all fun o=>iz n o)&&(!draw || (uQ ops b&&(AO ops b&&ck (ops.toList.filterMap (·.dst)))))&&decide (ops.size≤128) then
  bG P Eqs Sg F rid draw ops b (ops.toList.zipIdx.map fun p=>(p.2,p.1)) (kY draw rid ops st) K
 else none
inductive Src where
 |slot (s:Nat)
 |cap (s j:Nat)
structure Shape where
 zu:List (Nat×K)
 boxes:List (Src×Nat×BK)
 rows:List (Nat×Nat×OK)
 fns:List (Nat×FuncId×List Nat)
def Shape.ks(sh:Shape):List K:=sh.zu.map (·.2)
def Shape.bs(sh:Shape):List BK:=sh.boxes.map (·.2.2)
def Ke:List OK→Type
 |[]=>Unit
 |k::r=>k.T×Ke r
abbrev Shape.T(sh:Shape):Type:=Hd sh.ks×wK sh.bs×Ke (sh.rows.map (·.2.2))
def qQ(st:St):(l:List (Nat×K))→Option (Hd (l.map (·.2)))
 |[]=>some ()
 |(s,k)::r =>
  match fY k st.heap (look st.tmps s),qQ st r with
  |some x,some y=>some (x,y)
  |_,_=>none
def WC(st:St):Src→Option Nat
 |.slot s=>D4 (look st.tmps s)
 |.cap s j=>match look st.tmps s with
  |.fn _ cap=>match cap[j]? with
   |some v=>D4 v
   |none=>none
  |_=>none
def Fp(st:St):List (Src×Nat×BK)→Option (List Nat)
 |[]=>some []
 |p::r=>match WC st p.1,Fp st r with
  |some i,some is=>some (i::is)
  |_,_=>none
def nE(st:St):(l:List (Nat×Nat×OK))→Option (Ke (l.map (·.2.2)))
 |[]=>some ()
 |(s,_,ok)::r =>
  match dY st.heap ok (look st.tmps s),nE st r with
  |some x,some y=>some (x,y)
  |_,_=>none
def zR(st:St)(sh:Shape)(ids:List Nat):List AV:=(sh.zu.flatMap fun p=>(look st.tmps p.1).cells)++gi sh.bs st.heap ids
def Hg(st:St)(sh:Shape)(ids:List Nat):List Nat:=dg sh.bs st.heap ids++sh.rows.flatMap fun p=>pe (look st.tmps p.1)
def oi(st:St)(m:Nat):List (Nat×Nat×OK)→Bool
 |[]=>false
 |(s,id,_)::r=>(id==m&&(match look st.tmps s with | .bK i=>i==m|_=>false)) || oi st m r
def rT(sh:Shape):List Nat:=cd sh.bs (sh.boxes.map (·.2.1)) 9000++sh.rows.map (·.2.1)
def L7(st:St)(ids:List (Nat×Nat)):List (Nat×FuncId×List Nat)→Bool
 |[]=>true
 |(s,f,DC)::r =>
  (match look st.tmps s with
  |.fn f' cap=>decide (f'=f)&&(match jM cap with|some is=>decide (is.map (fun i=>(ids.find? (·.1==i)).map (·.2))=DC.map some)|none=>false)
  |_=>false)&&L7 st ids r
def cK(sh:Shape)(st:St):Option sh.T :=match Fp st sh.boxes with
 |none=>none
 |some ids =>
  match qQ st sh.zu,de sh.bs st.heap ids,nE st sh.rows,wP (Hg st sh ids) (zR st sh ids)&&(ck (rT sh)&&((rT sh).all (fun m=>decide (2000≤m) || ((ids.zip (sh.boxes.map (·.2.1))).any fun p=>p.1==m&&p.2==m) || oi st m sh.rows)&&L7 st (ids.zip (sh.boxes.map (·.2.1))) sh.fns)) with
  |some x,some y,some z,true=>some (x,y,z)
  |_,_,_,_=>none
def qR:(l:List (Nat×K))→Hd (l.map (·.2))→List (Nat×AV)
 |[],_=>[]
 |(s,k)::r,x=>(s,cq k x.1)::qR r x.2
def jO:List (Src×Nat×BK)→List (Nat×AV)
 |[]=>[]
 |(.slot s,id,_)::r=>(s,.ref id 0 0 0)::jO r
 |(.cap _ _,_,_)::r=>jO r
def zT(l:List (Nat×FuncId×List Nat)):List (Nat×AV):=l.map fun p=>(p.1,.fn p.2.1 (p.2.2.map fun i=>.ref i 0 0 0))
def qS:(l:List (Nat×Nat×OK))→Ke (l.map (·.2.2))→Heap
 |[],_=>[]
 |(_,id,ok)::r,x=>(id,.own ok x.1)::qS r x.2
def ar(sh:Shape)(x:sh.T):St :={ tmps:=qR sh.zu x.1++(jO sh.boxes++(zT sh.fns++sh.rows.map fun p=>(p.1,.bK p.2.1))),heap:=bC sh.bs (sh.boxes.map (·.2.1)) 9000 x.2.1++qS sh.rows x.2.2 }
def rU:Code→Nat
 |.region id _ _=>id
 |.seq a _=>rU a
 |.block _ a=>rU a
 |.loop a=>rU a
 |.scope a=>rU a
 |_=>0
def P1(s:Nat)(st:St):St:=match look st.tmps s with
 |.bK m=>match st.heap.get m with
  |some (.own (.row _ k) xs)=>{ tmps:=st.tmps.map fun p=>(p.1,zt m (.sl false k xs) p.2),heap:=st.heap.del m }
  |_=>st
 |_=>st
def Hh(o:Option Shape)(st:St):St:=match o with
 |some sh=>sh.rows.foldl (fun st p=>P1 p.1 st) st
 |none=>st
noncomputable def aE(n:Nat)(ann:Nat→Option Shape)(J:(sh:Shape)→List Item→sh.T→Option R)(ret:St→Option R):Nat→List Item→St→Option R
 |0,_,_=>none
 |_+1,[],st=>ret st
 |m+1,.inBlock _::k,st=>aE n ann J ret m k st
 |m+1,.inScope _::k,st=>aE n ann J ret m k st
 |_+1,.inLoop c::k,st =>
  match ann (rU c) with
  |none=>none
  |some sh=>match cK sh st with
   |some x=>J sh (.inLoop c::k) x
   |none=>none
 |m+1,.code c::k,st =>
  match c with
  |.skip | .label _=>aE n ann J ret m k st
  |.seq a b=>aE n ann J ret m (.code a::.code b::k) st
  |.cond c a b=>match ρ st.tmps c with
   |.bool t=>cond t (aE n ann J ret m (.code a::k) st) (aE n ann J ret m (.code b::k) st)
   |_=>none
  |.block id c=>aE n ann J ret m (.code c::.inBlock id::k) st
  |.scope c=>aE n ann J ret m (.code c::.inScope c::k) st
  |.loop c=>aE n ann J ret m (.inLoop c::k) st
  |.exit id=>match exitTo id k with
   |some k'=>aE n ann J ret m k' st
   |none=>none
  |.ret=>ret st
  |.region id ops draw=>iA P Eqs Sg F n id ops draw (Hh (ann (500000+id)) st) fun eQ=>aE n ann J ret m k eQ
  |_=>none
 |_,_,_=>none
def yr(h:Heap)(tmps:List (Nat×AV))(rvs:List ResultVar):Option (List AV) :=match rvs with
 |[]=>some []
 |.tmp t::r=>match yr h tmps r with
  |some vs=>some (look tmps t::vs)
  |none=>none
 |.cell a t::r=>match look tmps a with
  |.ref id _ 0 off=>(match h.get id with
   |some (.box _ cs)=>(match ep P t (cs.drop off),yr h tmps r with
    |some v,some vs=>some (v::vs)
    |_,_=>none)
   |_=>none)
  |_=>none
def qT(g:aS)(fn:Func)(st:St):Option g.B :=match yr P st.heap st.tmps fn.results.toList with
 |none=>none
 |some vs =>
  match bM g.bs g.rs st.heap (aU g.bs.length) vs,de g.bs st.heap (aU g.bs.length),
   wP (dg g.bs st.heap (aU g.bs.length)++dU g.rs vs) (gj g.rs vs++gi g.bs st.heap (aU g.bs.length))&&ck (qH g) with
  |some x,some y,true=>some (x,y)
  |_,_,_=>none
def entry(g:aS)(x:g.A):St :={ tmps:=aZ g.ps (aU g.bs.length) 0 x.1,heap:=bC g.bs (aU g.bs.length) 2000 x.2 }
def fuel:Nat:=100000
end
section
variable (P:Program) (Eqs:TypeId→Option K) (Sg:FuncId→Option aS) (An:FuncId→Nat→Option Shape) (G:(f:FuncId)→(g:aS)→Option (g.A→Option g.B))
variable (F:(f:FuncId)→(g:aS)→g.A→Option g.B)
def body(f:FuncId):Option (Func×Code):=(P.funcs[f]?).bind fun fn=>fn.body.map fun c=>(fn,c)
noncomputable def mM(f:FuncId)(g:aS)(fn:Func):Nat→(sh:Shape)→List Item→sh.T→Option g.B
 |0,_,_,_=>none
 |n+1,sh,.inLoop c::k,x=>aE P Eqs Sg F fn.ntmps (An f) (mM f g fn n) (qT P g fn) fuel (.code c::.inLoop c::k) (ar sh x)
 |_+1,_,_,_=>none
noncomputable def Kf(f:FuncId)(g:aS)(n:Nat)(x:g.A):Option g.B :=match body P (f%1000) with
 |none=>none
 |some (fn,c)=>if decide (g.ps.length≤fn.ntmps)&&decide (g.bs.length≤8) then aE P Eqs Sg F fn.ntmps (An f) (mM P Eqs Sg An F f g fn n) (qT P g fn) fuel [.code c] (entry g x) else none
end
section
variable (P:Program) (Eqs:TypeId→Option K) (Sg:FuncId→Option aS) (An:FuncId→Nat→Option Shape) (G:(f:FuncId)→(g:aS)→Option (g.A→Option g.B))
noncomputable def Fn:Nat→(f:FuncId)→(g:aS)→g.A→Option g.B
 |0,f,g,x=>match G f g with
  |some u=>u x
  |none=>none
 |m+1,f,g,x=>match G f g with
  |some u=>u x
  |none=>Kf P Eqs Sg An (Fn m) f g m x
end
end Go.Vs
namespace Go.Vs
def qU:Code→List Item→List (List Item)
 |.seq a b,k=>qU a (.code b::k)++qU b k
 |.cond _ a b,k=>qU a k++qU b k
 |.block id c,k=>qU c (.inBlock id::k)
 |.scope c,k=>qU c (.inScope c::k)
 |.loop c,k=>(.inLoop c::k)::qU c (.inLoop c::k)
 |_,_=>[]
def aO(P:Program)(f:FuncId)(j:Nat):List Item :=match body P f with
 |some (_,c)=>(qU c []).getD j []
 |none=>[]
def round:List Item→List Item
 |.inLoop c::k=>.code c::.inLoop c::k
 |k=>k
theorem uT(a:Addr)(n m:Nat):(a.add n).add m=a.add (n+m):=by unfold Addr.add;by_cases h1:n=0<;>by_cases h2:m=0<;>simp[h1,h2,Nat.add_assoc]
theorem D5(a:Addr):a.add 0=a:=by simp[Addr.add]
theorem fq(a:Addr)(n:Nat):(a.add n).block=a.block:=by unfold Addr.add;split<;>rfl
theorem cT(g i n:Nat):(⟨g,i,none⟩:Addr).add n=⟨g,i+n,none⟩:=by unfold Addr.add;split<;>simp_all
def cz(Z:Nat→Prop)(w w':World):Prop:=∀b,Z b→w'.heap[b]? = w.heap[b]?
theorem cz.refl(Z:Nat→Prop)(w:World):cz Z w w:=fun _ _=>rfl
theorem cz.trans{Z:Nat→Prop}{w w1 w2:World}(h:cz Z w w1)(k:cz Z w1 w2):cz Z w w2:=fun b hb=>(k b hb).trans (h b hb)
theorem cz.cell{Z:Nat→Prop}{w w':World}(h:cz Z w w'){a:Addr}(ha:Z a.block):w'.cell? a=w.cell? a:=World.cell?_of_block (h _ ha)
def afu{α:Type}(r:α→List Value→Prop)(Z:Nat→Prop)(sz:Nat)(w:World)(xs:List α)(v:Value):Prop :=∃A c,v=.slice A xs.length c∧xs.length≤c∧(A=none→c=0) ∧ ∀(i:Nat) (x:α),xs[i]? = some x→∃a us,A=some a∧Z a.block∧r x us∧∀(j:Nat) u,us[j]? = some u→w.cell? (a.add (i*sz+j))=some u
def Fq{α β:Type}(ra:α→List Value→Prop)(rb:β→List Value→Prop)(pa pb:Bool)(es:List (α×β))(b6:List MapEntry):Prop :=es.length=b6.length∧∀(i:Nat) (x:α×β) (e:MapEntry),es[i]? = some x→b6[i]? = some e →(ra x.1 e.key.cells.toList∧(pa=true→∃vs,e.key=.agg vs)∧(pa=false→e.key.cells=#[e.key]))∧rb x.2 e.val.cells.toList∧(pb=true→∃vs,e.val=.agg vs)∧(pb=false→e.val.cells=#[e.val])
def aL(Z:Nat→Prop)(w:World):(k:K)→k.T→List Value→Prop
 |.int ik,n,vs=>vs=[.int ik n]
 |.bool,b,vs=>vs=[.bool b]
 |.str,s,vs=>vs=[.string s]
 |.sl k,xs,vs=>∃v,vs=[v]∧afu (aL Z w k) Z k.sz w xs v
 |.pair a b,x,vs=>∃us ws,vs=us++ws∧aL Z w a x.1 us∧aL Z w b x.2 ws
 |.one k,x,vs=>aL Z w k x vs
 |.mp kk vk,es,vs=>∃A,vs=[.map A]∧((A=none∧es=[])∨∃m b6 clock,A=some m∧Z m∧w.heap[m]? = some (.map b6 clock)∧Fq (aL Z w kk) (aL Z w vk) kk.isAgg vk.isAgg es b6.toList)
variable {Z Z':Nat→Prop} {w w':World}
theorem aL.len:∀{k:K} {x:k.T} {vs:List Value},aL Z w k x vs→vs.length=k.sz
 |.int _,_,_,h=>by simp only[aL]at h;subst h;rfl
 |.bool,_,_,h=>by simp only[aL]at h;subst h;rfl
 |.str,_,_,h=>by simp only[aL]at h;subst h;rfl
 |.sl _,_,_,h=>by simp only[aL]at h;obtain⟨v,rfl,_⟩:=h;rfl
 |.pair a b,x,_,h=>by simp only[aL]at h;obtain⟨us,ws,rfl,h1,h2⟩:=h;rw[List.length_append,aL.len h1,aL.len h2];rfl
 |.one k,x,_,h=>by simp only[aL]at h;exact aL.len (k:=k) h
 |.mp _ _,_,_,h=>by simp only[aL]at h;obtain⟨A,rfl,_⟩:=h;rfl
theorem K.iB:∀k:K,0<k.sz
 |.int _=>Nat.one_pos
 |.bool=>Nat.one_pos
 |.str=>Nat.one_pos
 |.sl _=>Nat.one_pos
 |.pair a _=>aeA (K.iB a) (Nat.le_add_right _ _)
 |.one k=>K.iB k
 |.mp _ _=>Nat.one_pos
theorem aL.one:∀{k:K} {x:k.T} {vs:List Value},aL Z w k x vs→∀u∈vs,u.oneCell'=true
 |.int _,_,_,h=>by simp only[aL]at h;subst h;simp[Value.oneCell']
 |.bool,_,_,h=>by simp only[aL]at h;subst h;simp[Value.oneCell']
 |.str,_,_,h=>by simp only[aL]at h;subst h;simp[Value.oneCell']
 |.sl _,_,_,h=>by simp only[aL]at h;obtain⟨v,rfl,A,c,rfl,_⟩:=h;simp[Value.oneCell']
 |.pair a b,x,_,h=>by
  simp only[aL]at h;obtain⟨us,ws,rfl,h1,h2⟩:=h;intro u hu;rcases acw.1 hu with hu|hu
  ·exact aL.one h1 u hu
  ·exact aL.one h2 u hu
 |.one k,x,_,h=>by simp only[aL]at h;exact aL.one (k:=k) h
 |.mp _ _,_,_,h=>by simp only[aL]at h;obtain⟨A,rfl,_⟩:=h;simp[Value.oneCell']
theorem Fq.imp{α β:Type}{ra ra':α→List Value→Prop}{rb rb':β→List Value→Prop}{pa pb:Bool}(ha:∀x vs,ra x vs→ra' x vs)(hb:∀x vs,rb x vs→rb' x vs){es:List (α×β)}{b6:List MapEntry}(h:Fq ra rb pa pb es b6):Fq ra' rb' pa pb es b6 :=⟨h.1,fun i x e h1 h2=>by obtain⟨⟨a,b⟩,c,d⟩:=h.2 i x e h1 h2;exact⟨⟨ha _ _ a,b⟩,hb _ _ c,d⟩⟩
theorem aL.mono(hz:∀b,Z b→Z' b)(hs:cz Z w w'):∀{k:K} {x:k.T} {vs:List Value},aL Z w k x vs→aL Z' w' k x vs
 |.int _,_,_,h=>h
 |.bool,_,_,h=>h
 |.str,_,_,h=>h
 |.sl k,xs,_,h=>by simp only[aL]at h ⊢;obtain⟨v,rfl,A,c,rfl,hl,hn,he⟩:=h;refine⟨_,rfl,A,c,rfl,hl,hn,fun i x hx=>?_⟩;obtain⟨a,us,ha,hza,hr,hc⟩:=he i x hx;refine⟨a,us,ha,hz _ hza,aL.mono hz hs hr,fun j u hu=>?_⟩;rw[hs.cell (by rw[fq];exact hza)];exact hc j u hu
 |.pair a b,x,_,h=>by simp only[aL]at h ⊢;obtain⟨us,ws,rfl,h1,h2⟩:=h;exact⟨us,ws,rfl,aL.mono hz hs h1,aL.mono hz hs h2⟩
 |.one k,x,_,h=>by simp only[aL]at h ⊢;exact aL.mono hz hs (k:=k) h
 |.mp kk vk,es,_,h=>by simp only[aL]at h ⊢;obtain⟨A,rfl,h⟩:=h;refine⟨A,rfl,h.imp (fun h=>h) fun⟨m,b6,clock,h1,h2,h3,h4⟩=>⟨m,b6,clock,h1,hz _ h2,(hs m h2).trans h3,h4.imp (fun _ _ h=>aL.mono hz hs h) (fun _ _ h=>aL.mono hz hs h)⟩⟩
def UD:Value→Nat
 |.pointer (some a)=>a.block
 |.slice (some a) _ _=>a.block
 |_=>0
def ob:Value→Option Nat
 |.pointer (some a)=>some a.block
 |.slice (some a) _ c=>if c=0 then none else some a.block
 |.map (some m)=>some m
 |_=>none
mutual
def aC(Z:Nat→Prop)(ψ:Nat→Value)(h:Nat→Option Ob)(w:World):AV→Value→Prop
 |.no,_=>True
 |.bool b,v=>v=.bool b
 |.int k n,v=>v=.int k n
 |.str s,v=>v=.string s
 |.lf,v=>v=.pointer none
 |.gh,v=>v=.slice none 0 0
 |.ref id s i off,v=>∃a,v=.pointer (some a)∧(h id≠none→a=⟨UD (ψ id),i*s+off,none⟩)
 |.fp k x off,v=>∃a us,v=.pointer (some a)∧Z a.block∧aL Z w k x us∧∀(j:Nat) u,us[off+j]? = some u→w.cell? (a.add j)=some u
 |.sl ex k xs,v=>aL Z w (.sl k) xs [v]∧(ex=true→∃A c,v=.slice A c c)
 |.mp kk vk es,v=>aL Z w (.mp kk vk) es [v]
 |.bK id,v=>(v.cells=#[v]∧v.oneCell'=true)∧(h id≠none→v=ψ id)
 |.fn f cap,v=>∃vs,v=.func (.func f) #[] vs∧aq Z ψ h w cap vs.toList
 |.agg cs,v=>∃vs,v=.agg vs∧aq Z ψ h w cs vs.toList
 |.nu cs,v=>∃vs,v=.tuple vs∧aq Z ψ h w cs vs.toList
def aq(Z:Nat→Prop)(ψ:Nat→Value)(h:Nat→Option Ob)(w:World):List AV→List Value→Prop
 |[],vs=>vs=[]
 |a::r,vs=>∃v us,vs=v::us∧aC Z ψ h w a v∧aq Z ψ h w r us
end
mutual
def aM(p:Nat→Prop):AV→Prop
 |.ref id _ _ _=>p id
 |.bK id=>p id
 |.fn _ cap=>aG p cap
 |.agg cs=>aG p cs
 |.nu vs=>aG p vs
 |.no=>True
 |.bool _=>True
 |.int _ _=>True
 |.str _=>True
 |.lf=>True
 |.gh=>True
 |.fp _ _ _=>True
 |.sl _ _ _=>True
 |.mp _ _ _=>True
def aG(p:Nat→Prop):List AV→Prop
 |[]=>True
 |v::r=>aM p v∧aG p r
end
section
variable {Z Z':Nat→Prop} {w w':World} {ψ ψ':Nat→Value} {h h':Nat→Option Ob} {p:Nat→Prop}
mutual
theorem aC.move(hz:∀b,Z b→Z' b)(hs:cz Z w w')(hh:∀id,p id→h' id≠none→h id≠none∧ψ' id=ψ id):∀{a:AV} {v:Value},aM p a→aC Z ψ h w a v→aC Z' ψ' h' w' a v
 |.no,_,_,_=>by simp only[aC]
 |.bool b,_,_,hr=>by simpa only[aC] using hr
 |.int k n,_,_,hr=>by simpa only[aC] using hr
 |.str s,_,_,hr=>by simpa only[aC] using hr
 |.lf,_,_,hr=>by simpa only[aC] using hr
 |.gh,_,_,hr=>by simpa only[aC] using hr
 |.ref id s i off,_,hm,hr=>by simp only[aC,aM]at hr hm ⊢;obtain⟨a,rfl,ha⟩:=hr;refine⟨a,rfl,fun hn=>?_⟩;obtain⟨h1,h2⟩:=hh id hm hn;rw[h2];exact ha h1
 |.fp k x off,_,_,hr=>by simp only[aC]at hr ⊢;obtain⟨a,us,rfl,hza,hk,hc⟩:=hr;refine⟨a,us,rfl,hz _ hza,hk.mono hz hs,fun j u hu=>?_⟩;rw[hs.cell (by rw[fq];exact hza)];exact hc j u hu
 |.sl ex k xs,_,_,hr=>by simp only[aC]at hr ⊢;exact⟨aL.mono hz hs hr.1,hr.2⟩
 |.mp kk vk es,_,_,hr=>by simp only[aC]at hr ⊢;exact aL.mono hz hs hr
 |.bK id,_,hm,hr=>by simp only[aC,aM]at hr hm ⊢;refine⟨hr.1,fun hn=>?_⟩;obtain⟨h1,h2⟩:=hh id hm hn;rw[h2];exact hr.2 h1
 |.fn f cap,_,hm,hr=>by simp only[aC,aM]at hr hm ⊢;obtain⟨vs,rfl,hl⟩:=hr;exact⟨vs,rfl,aq.move hz hs hh hm hl⟩
 |.agg cs,_,hm,hr=>by simp only[aC,aM]at hr hm ⊢;obtain⟨vs,rfl,hl⟩:=hr;exact⟨vs,rfl,aq.move hz hs hh hm hl⟩
 |.nu cs,_,hm,hr=>by simp only[aC,aM]at hr hm ⊢;obtain⟨vs,rfl,hl⟩:=hr;exact⟨vs,rfl,aq.move hz hs hh hm hl⟩
theorem aq.move(hz:∀b,Z b→Z' b)(hs:cz Z w w')(hh:∀id,p id→h' id≠none→h id≠none∧ψ' id=ψ id):∀{a:List AV} {v:List Value},aG p a→aq Z ψ h w a v→aq Z' ψ' h' w' a v
 |[],_,_,hr=>by simpa only[aq] using hr
 |a::r,_,hm,hr=>by simp only[aq,aG]at hr hm ⊢;obtain⟨v,us,rfl,h1,h2⟩:=hr;exact⟨v,us,rfl,aC.move hz hs hh hm.1 h1,aq.move hz hs hh hm.2 h2⟩
end
mutual
theorem aM.top:∀a:AV,aM (fun _=>True) a
 |.no=>by simp only[aM]
 |.bool b=>by simp only[aM]
 |.int k n=>by simp only[aM]
 |.str s=>by simp only[aM]
 |.lf=>by simp only[aM]
 |.gh=>by simp only[aM]
 |.ref id s i off=>by simp only[aM]
 |.fp k x off=>by simp only[aM]
 |.sl ex k xs=>by simp only[aM]
 |.mp kk vk es=>by simp only[aM]
 |.bK id=>by simp only[aM]
 |.fn f cap=>by simp only[aM];exact aG.top cap
 |.agg cs=>by simp only[aM];exact aG.top cs
 |.nu cs=>by simp only[aM];exact aG.top cs
theorem aG.top:∀a:List AV,aG (fun _=>True) a
 |[]=>by simp only[aG]
 |a::r=>by simp only[aG];exact⟨aM.top a,aG.top r⟩
end
theorem aC.less(hz:∀b,Z b→Z' b)(hs:cz Z w w')(hh:∀id,h' id≠none→h id≠none∧ψ' id=ψ id){a:AV}{v:Value}(hr:aC Z ψ h w a v):aC Z' ψ' h' w' a v :=aC.move (p:=fun _=>True) hz hs (fun id _ hn=>hh id hn) (aM.top a) hr
theorem aq.less(hz:∀b,Z b→Z' b)(hs:cz Z w w')(hh:∀id,h' id≠none→h id≠none∧ψ' id=ψ id){a:List AV}{v:List Value}(hr:aq Z ψ h w a v):aq Z' ψ' h' w' a v :=aq.move (p:=fun _=>True) hz hs (fun id _ hn=>hh id hn) (aG.top a) hr
theorem aq.length:∀{a:List AV} {v:List Value},aq Z ψ h w a v→a.length=v.length
 |[],_,hr=>by simp only[aq]at hr;subst hr;rfl
 |a::r,_,hr=>by simp only[aq]at hr;obtain⟨v,us,rfl,_,h2⟩:=hr;simp[aq.length h2]
theorem aq.get:∀{a:List AV} {v:List Value} (i:Nat) {x:AV},aq Z ψ h w a v→a[i]? = some x→∃u,v[i]? = some u∧aC Z ψ h w x u
 |[],_,i,x,_,hx=>by simp at hx
 |a::r,_,0,x,hr,hx=>by simp only[aq]at hr;obtain⟨v,us,rfl,h1,h2⟩:=hr;simp only[List.getElem?_cons_zero,Option.some.injEq]at hx;subst hx;exact⟨v,rfl,h1⟩
 |a::r,_,i+1,x,hr,hx=>by simp only[aq]at hr;obtain⟨v,us,rfl,h1,h2⟩:=hr;obtain⟨u,hu,hr⟩:=aq.get i h2 (by simpa using hx);exact⟨u,by simpa using hu,hr⟩
theorem aq.append:∀{a b:List AV} {v u:List Value},aq Z ψ h w a v→aq Z ψ h w b u→aq Z ψ h w (a++b) (v++u)
 |[],b,_,u,hr,hb=>by simp only[aq]at hr;subst hr;exact hb
 |a::r,b,_,u,hr,hb=>by simp only[aq]at hr;obtain⟨v,us,rfl,h1,h2⟩:=hr;simp only[List.cons_append,aq];exact⟨v,us++u,rfl,h1,aq.append h2 hb⟩
theorem aq.split:∀{a b:List AV} {v:List Value},aq Z ψ h w (a++b) v→∃us ws,v=us++ws∧aq Z ψ h w a us∧aq Z ψ h w b ws
 |[],b,v,hr=>⟨[],v,rfl,by simp only[aq],hr⟩
 |a::r,b,v,hr=>by simp only[List.cons_append,aq]at hr;obtain⟨x,us,rfl,h1,h2⟩:=hr;obtain⟨je,ws,rfl,h3,h4⟩:=aq.split h2;exact⟨x::je,ws,rfl,by simp only[aq];exact⟨x,je,rfl,h1,h3⟩,h4⟩
theorem aq.drop(n:Nat){a:List AV}{v:List Value}(hr:aq Z ψ h w a v):aq Z ψ h w (a.drop n) (v.drop n):=by
 by_cases hn:n≤a.length
 ·have rW:aq Z ψ h w (a.take n++a.drop n) v:=by rw[List.take_append_drop];exact hr
  obtain⟨us,ws,rfl,h1,h2⟩:=aq.split rW;have hl:=h1.length;rw[List.length_take,Nat.min_eq_left hn]at hl;rw[hl,List.drop_left];rw[←hl];exact h2
 ·have:=hr.length;rw[List.drop_eq_nil_of_le (by omega),List.drop_eq_nil_of_le (by omega)];simp only[aq]
theorem aq.take(n:Nat){a:List AV}{v:List Value}(hr:aq Z ψ h w a v):aq Z ψ h w (a.take n) (v.take n):=by
 by_cases hn:n≤a.length
 ·have rW:aq Z ψ h w (a.take n++a.drop n) v:=by rw[List.take_append_drop];exact hr
  obtain⟨us,ws,rfl,h1,h2⟩:=aq.split rW;have hl:=h1.length;rw[List.length_take,Nat.min_eq_left hn]at hl
  conv=>rhs;rw[hl,List.take_left]
  exact h1
 ·have:=hr.length;rw[List.take_of_length_le (by omega),List.take_of_length_le (by omega)];exact hr
theorem aq.set:∀{a:List AV} {v:List Value} (i:Nat) {x:AV} {u:Value},aq Z ψ h w a v→aC Z ψ h w x u→aq Z ψ h w (a.set i x) (v.set i u)
 |[],_,i,x,u,hr,_=>by simp only[aq]at hr;subst hr;simp only[List.set_nil,aq]
 |a::r,_,0,x,u,hr,hx=>by simp only[aq]at hr;obtain⟨v,us,rfl,h1,h2⟩:=hr;simp only[List.set_cons_zero,aq];exact⟨u,us,rfl,hx,h2⟩
 |a::r,_,i+1,x,u,hr,hx=>by simp only[aq]at hr;obtain⟨v,us,rfl,h1,h2⟩:=hr;simp only[List.set_cons_succ,aq];exact⟨v,_,rfl,h1,aq.set i h2 hx⟩
theorem iv:∀{k:K} {x:k.T} {vs:List Value},aL Z w k x vs→aq Z ψ h w (enc k x) vs
 |.int _,_,_,hr=>by simp only[aL]at hr;subst hr;simp[enc,aq,aC]
 |.bool,_,_,hr=>by simp only[aL]at hr;subst hr;simp[enc,aq,aC]
 |.str,_,_,hr=>by simp only[aL]at hr;subst hr;simp[enc,aq,aC]
 |.sl k,xs,_,hr=>by have rW:=hr;simp only[aL]at rW;obtain⟨v,rfl,_⟩:=rW;simp only[enc,aq,aC];exact⟨v,[],rfl,⟨hr,by simp⟩,rfl⟩
 |.pair a b,x,_,hr=>by simp only[aL]at hr;obtain⟨us,ws,rfl,h1,h2⟩:=hr;simp only[enc];exact aq.append (iv h1) (iv h2)
 |.one k,x,_,hr=>by simp only[aL]at hr;simp only[enc];exact iv (k:=k) hr
 |.mp kk vk,es,_,hr=>by have rW:=hr;simp only[aL]at rW;obtain⟨A,rfl,_⟩:=rW;simp only[enc,aq,aC];exact⟨_,[],rfl,hr,rfl⟩
theorem P2{k:K}{v:Value}(hr:aC Z ψ h w .gh v):aL Z w (.sl k) [] [v]:=by simp only[aC]at hr;subst hr;simp only[aL];exact⟨_,rfl,none,0,rfl,ada _,fun _=>rfl,fun i x hx=>by simp at hx⟩
theorem zU:∀{k:K} {cs:List AV} {x:k.T} {r:List AV} {vs:List Value},dec k cs=some (x,r)→aq Z ψ h w cs vs→∃us ws,vs=us++ws∧aL Z w k x us∧aq Z ψ h w r ws
 |.int ik,cs,x,r,vs,hd,hr=>by
  simp only[dec]at hd;unfold Fj at hd
  split at hd
  ·split at hd
   ·rename_i he;subst he
    cases hd
    simp only[aq,aC]at hr;obtain⟨v,us,rfl,rfl,h2⟩:=hr;exact⟨[_],us,rfl,by simp only[aL],h2⟩
   ·cases hd
  ·cases hd
 |.bool,cs,x,r,vs,hd,hr=>by
  simp only[dec]at hd;unfold zP at hd
  split at hd
  ·cases hd
   simp only[aq,aC]at hr;obtain⟨v,us,rfl,rfl,h2⟩:=hr;exact⟨[_],us,rfl,by simp only[aL],h2⟩
  ·cases hd
 |.str,cs,x,r,vs,hd,hr=>by
  simp only[dec]at hd;unfold Fk at hd
  split at hd
  ·cases hd
   simp only[aq,aC]at hr;obtain⟨v,us,rfl,rfl,h2⟩:=hr;exact⟨[_],us,rfl,by simp only[aL],h2⟩
  ·cases hd
 |.sl k,cs,x,r,vs,hd,hr=>by
  simp only[dec]at hd;unfold LZ at hd
  split at hd
  ·split at hd
   ·rename_i he;subst he
    cases hd
    simp only[aq]at hr;obtain⟨v,us,rfl,h1,h2⟩:=hr;simp only[aC]at h1;exact⟨[_],us,rfl,h1.1,h2⟩
   ·cases hd
  ·cases hd
   simp only[aq]at hr;obtain⟨v,us,rfl,h1,h2⟩:=hr;exact⟨[_],us,rfl,P2 h1,h2⟩
  ·cases hd
 |.pair a b,cs,x,r,vs,hd,hr=>by
  simp only[dec]at hd
  split at hd
  ·rename_i x1 r1 h1
   split at hd
   ·rename_i y1 r2 h2
    cases hd
    obtain⟨us,ws,rfl,k1,k2⟩:=zU h1 hr;obtain⟨je,ws',rfl,k3,k4⟩:=zU h2 k2;exact⟨us++je,ws',by rw[List.append_assoc],by simp only[aL];exact⟨us,je,rfl,k1,k3⟩,k4⟩
   ·cases hd
  ·cases hd
 |.one k,cs,x,r,vs,hd,hr=>by simp only[dec]at hd;obtain⟨us,ws,e,k1,k2⟩:=zU (k:=k) hd hr;exact⟨us,ws,e,by simp only[aL];exact k1,k2⟩
 |.mp kk vk,cs,x,r,vs,hd,hr=>by
  simp only[dec]at hd;unfold L0 at hd
  split at hd
  ·split at hd
   ·rename_i he;obtain⟨rfl,rfl⟩:=he
    cases hd
    simp only[aq]at hr;obtain⟨v,us,rfl,h1,h2⟩:=hr;simp only[aC]at h1;exact⟨[_],us,rfl,h1,h2⟩
   ·cases hd
  ·cases hd
theorem dN{k:K}{cs:List AV}{x:k.T}{vs:List Value}(hd:dz k cs=some x)(hr:aq Z ψ h w cs vs):aL Z w k x vs:=by
 unfold dz at hd
 split at hd
 ·rename_i x' h1
  cases hd
  obtain⟨us,ws,rfl,k1,k2⟩:=zU h1 hr;simp only[aq]at k2;subst k2;rw[List.append_nil];exact k1
 ·cases hd
theorem lQ{k:K}{x:k.T}{v:Value}(hr:aL Z w k x v.cells.toList)(hp:k.isAgg=true→∃vs,v=.agg vs)(hn:k.isAgg=false→v.cells=#[v]):aC Z ψ h w (cq k x) v:=by
 cases k with
 |int ik=>rw[hn rfl]at hr;simp only[aL]at hr;simp only[cq,aC];simpa using hr
 |bool=>rw[hn rfl]at hr;simp only[aL]at hr;simp only[cq,aC];simpa using hr
 |str=>rw[hn rfl]at hr;simp only[aL]at hr;simp only[cq,aC];simpa using hr
 |sl k=>rw[hn rfl]at hr;simp only[cq,aC];exact⟨hr,by simp⟩
 |mp kk vk=>rw[hn rfl]at hr;simp only[cq,aC];exact hr
 |pair a b =>obtain⟨vs,rfl⟩:=hp rfl;simp only[cq,aC];exact⟨vs,rfl,iv hr⟩
 |one k =>obtain⟨vs,rfl⟩:=hp rfl;simp only[cq,aC];exact⟨vs,rfl,iv hr⟩
end
end Go.Vs
namespace Go.Vs
theorem Heap.iC{n m:Nat}(bw:m≠n):∀h:Heap,(h.del n).get m=h.get m
 |[]=>rfl
 |(i,o)::r=>by
  simp only[Heap.del]
  split
  ·rename_i hi;rw[Heap.iC bw r];simp only[Heap.get];rw[if_neg (by omega)]
  ·simp only[Heap.get]
   split
   ·rfl
   ·exact Heap.iC bw r
theorem Heap.gI(n:Nat):∀h:Heap,(h.del n).get n=none
 |[]=>rfl
 |(i,o)::r=>by
  simp only[Heap.del]
  split
  ·exact Heap.gI n r
  ·rename_i hi;simp only[Heap.get];rw[if_neg hi];exact Heap.gI n r
theorem Heap.Fs(h:Heap)(n:Nat)(o:Ob):(h.set n o).get n=some o:=by simp[Heap.set,Heap.get]
theorem Heap.Kg{n m:Nat}(bw:m≠n)(h:Heap)(o:Ob):(h.set n o).get m=h.get m:=by simp only[Heap.set,Heap.get];rw[if_neg (by omega)];exact Heap.iC bw h
theorem Heap.uU{n m:Nat}{h:Heap}{o:Ob}(hg:(h.del n).get m=some o):h.get m=some o∧m≠n:=by
 by_cases bw:m=n
 ·subst bw;rw[Heap.gI]at hg;cases hg
 ·rw[Heap.iC bw]at hg;exact⟨hg,bw⟩
theorem Heap.get_append(a b:Heap)(n:Nat):(a++b).get n=(match a.get n with|some o=>some o|none=>b.get n):=by
 induction a with
 |nil=>rfl
 |cons p r ih =>
  obtain⟨i,o⟩:=p;simp only[List.cons_append,Heap.get]
  split
  ·rfl
  ·exact ih
def nF(Z:Nat→Prop)(w:World)(k:K)(xs:List k.T)(vs:List Value):Prop :=∀(i:Nat) (x:k.T),xs[i]? = some x→aL Z w k x ((vs.drop (i*k.sz)).take k.sz)
abbrev Hp:=Nat→Option Ob
def eI(w:World)(e:TypeId)(size:Nat)(v:Value)(n:Nat)(vs:List Value):Prop :=vs.length=n*size ∧((n=0∧∃A,v=.slice A 0 0) ∨ ∃g cap cur,v=.slice (some ⟨g,0,none⟩) n cap∧0<cap∧w.heap[g]? = some (.cells cur e (0,0))∧n≤cap∧cap≤maxLen∧cur.size=cap*size∧cur.toList.take (n*size)=vs)
theorem eI.of{w:World}{base e size n:Nat}{v:Value}{vs:List Value}(h:w.ownsRow base e size v n vs):eI w e size v n vs:=by
 obtain⟨h1,h2⟩:=h;refine⟨h1,?_⟩;rcases h2 with⟨rfl,h2⟩|⟨g,cap,cur,rfl,_,h3,h4,h5,h6,h7⟩
 ·exact .inl ⟨h2,none,rfl⟩
 ·by_cases hc:cap=0
  ·subst hc;have:n=0:=by omega
   subst this;exact .inl ⟨rfl,_,rfl⟩
  ·exact .inr ⟨g,cap,cur,rfl,by omega,h3,h4,h5,h6,h7⟩
theorem eI.slice{w:World}{e size n:Nat}{v:Value}{vs:List Value}(h:eI w e size v n vs):∃A c,v=.slice A n c:=by
 rcases h.2 with⟨h0,A,rfl⟩|⟨g,cap,cur,rfl,_⟩
 ·subst h0;exact⟨A,0,rfl⟩
 ·exact⟨_,_,rfl⟩
theorem eI.one{w:World}{e size n:Nat}{v:Value}{vs:List Value}(h:eI w e size v n vs):v.cells=#[v]∧v.oneCell'=true:=by obtain⟨A,c,rfl⟩:=h.slice;exact⟨rfl,by simp[Value.oneCell']⟩
theorem eI.kept{w w':World}{e size n:Nat}{v:Value}{vs:List Value}(ho:eI w e size v n vs)(hk:∀g,ob v=some g→w'.heap[g]? = w.heap[g]?):eI w' e size v n vs:=by
 obtain⟨h1,h2⟩:=ho;refine⟨h1,?_⟩;rcases h2 with h2|⟨g,cap,cur,rfl,hc,hh,r⟩
 ·exact .inl h2
 ·exact .inr ⟨g,cap,cur,rfl,hc,(hk g (by simp only[ob];rw[if_neg (by omega)])).trans hh,r⟩
def jI(Z:Nat→Prop)(w:World):(ok:OK)→Value→ok.T→Prop
 |.row ty k,v,xs=>∃vs,eI w ty k.sz v xs.length vs∧nF Z w k xs vs
 |.map kk vk,v,es=>∃m b6 clock,v=.map (some m)∧w.heap[m]? = some (.map b6 clock)∧Fq (aL Z w kk) (aL Z w vk) kk.isAgg vk.isAgg es b6.toList∧b6.toList.Pairwise (fun a b=>a.born≠b.born)∧∀e∈b6.toList,e.born<clock
 |.iter kk vk,v,x=>∃r m since seen b6 clock,v=.pointer (some ⟨r,0,none⟩)∧w.heap[r]? = some (.mapIter (some m) since seen clock)∧Z m∧w.heap[m]? = some (.map b6 clock) ∧ b6.toList.Pairwise (fun a b=>a.born≠b.born)∧since=clock∧(∀e∈b6.toList,e.born<clock)∧Fq (aL Z w kk) (aL Z w vk) kk.isAgg vk.isAgg x.2 (b6.toList.filter fun e => !seen.contains e.born) ∧(match x.1 with|none=>True|some c=>∃e∈b6.toList,seen.back? = some e.born∧Fq (aL Z w kk) (aL Z w vk) kk.isAgg vk.isAgg [c] [e])
 |.nX,v,x=>∃r,v=.pointer (some ⟨r,0,none⟩)∧w.heap[r]? = some (.stringIter x.1 x.2)
theorem jI.lt{Z:Nat→Prop}{w:World}:∀{ok:OK} {v:Value} {x:ok.T} {b:Nat},jI Z w ok v x→ob v=some b→b<w.heap.size
 |.row ty k,v,xs,b,h,hb=>by
  obtain⟨vs,⟨_,h⟩,_⟩:=h;rcases h with⟨_,A,rfl⟩|⟨g,cap,cur,rfl,hc,h2,_⟩
  ·cases A<;>simp[ob]at hb
  ·simp only[ob]at hb;rw[if_neg (by omega)]at hb
   cases hb
   exact(aa3.1 h2).1
 |.map _ _,v,_,b,h,hb=>by obtain⟨m,b6,clock,rfl,h2,_⟩:=h;simp only[ob,Option.some.injEq]at hb;subst hb;exact(aa3.1 h2).1
 |.iter _ _,v,_,b,h,hb=>by obtain⟨r,m,since,seen,b6,clock,rfl,h2,_⟩:=h;simp only[ob,Option.some.injEq]at hb;subst hb;exact(aa3.1 h2).1
 |.nX,v,_,b,h,hb=>by obtain⟨r,rfl,h2⟩:=h;simp only[ob,Option.some.injEq]at hb;subst hb;exact(aa3.1 h2).1
theorem jI.one{Z:Nat→Prop}{w:World}:∀{ok:OK} {v:Value} {x:ok.T},jI Z w ok v x→v.cells=#[v]∧v.oneCell'=true
 |.row ty k,v,xs,h=>by obtain⟨vs,h,_⟩:=h;obtain⟨A,c,rfl⟩:=h.slice;exact⟨rfl,by simp[Value.oneCell']⟩
 |.map _ _,v,_,h=>by obtain⟨m,b6,clock,rfl,_⟩:=h;exact⟨rfl,by simp[Value.oneCell']⟩
 |.iter _ _,v,_,h=>by obtain⟨r,m,since,seen,b6,clock,rfl,_⟩:=h;exact⟨rfl,by simp[Value.oneCell']⟩
 |.nX,v,_,h=>by obtain⟨r,rfl,_⟩:=h;exact⟨rfl,by simp[Value.oneCell']⟩
theorem jI.kept{Z Z':Nat→Prop}{w w':World}(hz:∀b,Z b→Z' b)(sm:cz Z w w'):∀{ok:OK} {v:Value} {x:ok.T},(∀g,ob v=some g→w'.heap[g]? = w.heap[g]?)→jI Z w ok v x→jI Z' w' ok v x
 |.row ty k,v,xs,hk,h=>by obtain⟨vs,h1,h2⟩:=h;exact⟨vs,h1.kept hk,fun i x hx=>(h2 i x hx).mono hz sm⟩
 |.map _ _,v,_,hk,h=>by obtain⟨m,b6,clock,rfl,h2,h3,h4⟩:=h;exact⟨m,b6,clock,rfl,(hk m rfl).trans h2,h3.imp (fun _ _ h=>h.mono hz sm) (fun _ _ h=>h.mono hz sm),h4⟩
 |.iter _ _,v,x,hk,h=>by
  obtain⟨r,m,since,seen,b6,clock,rfl,h2,h3,h4,h5,h6,h7,h8,h9⟩:=h;refine⟨r,m,since,seen,b6,clock,rfl,(hk r rfl).trans h2,hz _ h3,(sm m h3).trans h4,h5,h6,h7,h8.imp (fun _ _ h=>h.mono hz sm) (fun _ _ h=>h.mono hz sm),?_⟩
  split
  ·trivial
  ·rename_i c hc;rw[hc]at h9;obtain⟨e,he,nG,zw⟩:=h9;exact⟨e,he,nG,zw.imp (fun _ _ h=>h.mono hz sm) (fun _ _ h=>h.mono hz sm)⟩
 |.nX,v,_,hk,h=>by obtain⟨r,rfl,h2⟩:=h;exact⟨r,rfl,(hk r rfl).trans h2⟩
structure Good(Z:Nat→Prop)(ψ:Nat→Value)(h:Hp)(w:World)(B0:Nat)(O:Nat→Prop):Prop where
 box:∀id ty cs,h id=some (.box ty cs)→∃g vs,ψ id=.pointer (some ⟨g,0,none⟩)∧w.heap[g]? = some (.cells vs ty (0,0))∧aq Z ψ h w cs vs.toList∧∀u∈vs.toList,u.oneCell'=true
 row:∀id ok x,h id=some (.own ok x)→jI Z w ok (ψ id) x
 live:∀id g,h id≠none→ob (ψ id)=some g→¬Z g∧(B0≤g∨O g)
 apart:∀id mL g,h id≠none→h mL≠none→ob (ψ id)=some g→ob (ψ mL)=some g→id=mL
 jP:∀b,Z b→b<w.heap.size
variable {Z Z':Nat→Prop} {ψ ψ':Nat→Value} {h h':Hp} {w w':World} {B0:Nat} {O:Nat→Prop}
theorem Good.sub(g:Good Z ψ h w B0 O)(hs:∀id o,h' id=some o→h id=some o):Good Z ψ h' w B0 O:=by
 have hn:∀id,h' id≠none→h id≠none:=fun id hn=>by obtain⟨o,ho⟩:=acx.1 hn;rw[hs id o ho];simp
 refine⟨fun id ty cs hb=>?_,fun id ok x hb=>g.row id ok x (hs _ _ hb),fun id b h1 h2=>g.live id b (hn id h1) h2,fun id mL b h1 h2 h3 h4=>g.apart id mL b (hn _ h1) (hn _ h2) h3 h4,g.jP⟩;obtain⟨b,vs,h1,h2,h3,h4⟩:=g.box id ty cs (hs _ _ hb);exact⟨b,vs,h1,h2,aq.less (fun _ h=>h) (cz.refl _ _) (fun id bR=>⟨hn id bR,rfl⟩) h3,h4⟩
theorem Good.freeze(g:Good Z ψ h w B0 O)(hs:∀id o,h' id=some o→h id=some o)(hz:∀b,Z b→Z' b) (Pz:∀b,Z' b→Z b∨∃id,h id≠none∧h' id=none∧ob (ψ id)=some b):Good Z' ψ h' w B0 O:=by
 have hn:∀id,h' id≠none→h id≠none:=fun id hn=>by obtain⟨o,ho⟩:=acx.1 hn;rw[hs id o ho];simp
 have lt:∀id b,h id≠none→ob (ψ id)=some b→b<w.heap.size:=by
  intro id b h1 h2;obtain⟨o,ho⟩:=acx.1 h1
  cases o with
  |box ty cs =>obtain⟨gg,vs,e1,e2,_⟩:=g.box id ty cs ho;rw[e1]at h2;simp only[ob,Option.some.injEq]at h2;subst h2;exact(aa3.1 e2).1
  |own ok x=>exact(g.row id ok x ho).lt h2
 refine⟨fun id ty cs hb=>?_,fun id ok x hb=>?_,fun id b h1 h2=>⟨fun hzb=>?_,(g.live id b (hn id h1) h2).2⟩,fun id mL b h1 h2 h3 h4=>g.apart id mL b (hn _ h1) (hn _ h2) h3 h4,fun b hb=>?_⟩
 ·obtain⟨b,vs,h1,h2,h3,h4⟩:=g.box id ty cs (hs _ _ hb);exact⟨b,vs,h1,h2,aq.less hz (cz.refl _ _) (fun id bR=>⟨hn id bR,rfl⟩) h3,h4⟩
 ·exact(g.row id ok x (hs _ _ hb)).kept hz (cz.refl _ _) (fun _ _=>rfl)
 ·rcases Pz b hzb with h3|⟨mL,h3,h4,h5⟩
  ·exact(g.live id b (hn id h1) h2).1 h3
  ·have:=g.apart id mL b (hn id h1) h3 h2 h5;subst this;exact h1 h4
 ·rcases Pz b hb with h3|⟨mL,h3,h4,h5⟩
  ·exact g.jP b h3
  ·exact lt mL b h3 h5
theorem uV{ty:TypeId}{k:K}{xs:List k.T}{v:Value}{vs:List Value}(ho:eI w ty k.sz v xs.length vs)(hv:nF Z w k xs vs)(hz:∀b,Z b→Z' b)(hb:∀b,ob v=some b→Z' b) :
  aL Z' w (.sl k) xs [v]:=by
 simp only[aL];refine⟨v,rfl,?_⟩;obtain⟨hl,e⟩:=ho;rcases e with⟨h0,A,rfl⟩|⟨g,cap,cur,rfl,Kh,hh,hc,_,hs,afw⟩
 ·have:xs=[]:=adn h0;subst this;exact⟨A,0,rfl,ada _,fun _=>rfl,fun i x hx=>by simp at hx⟩
 ·refine⟨some ⟨g,0,none⟩,cap,rfl,hc,fun e=>(by cases e),fun i x hx=>?_⟩;have hi:i<xs.length:=(aaW.1 hx).1;refine⟨⟨g,0,none⟩,_,rfl,hb g (by simp only[ob];rw[if_neg (by omega)]),(hv i x hx).mono hz (cz.refl _ _),fun j u hu=>?_⟩;rw[cT,Nat.zero_add];simp only[World.cell?,hh];rw[List.getElem?_take]at hu
  split at hu
  ·rename_i hj;rw[List.getElem?_drop]at hu;rw[←afw,List.getElem?_take]at hu
   split at hu
   ·simpa using hu
   ·cases hu
  ·cases hu
theorem D6{hh:Heap}{a:AV}{v:Value}(g:Good Z ψ hh.get w B0 O)(hz:∀b,Z b→Z' b)(hb:∀id b,a=.bK id→hh.get id≠none→ob (ψ id)=some b→Z' b)(hr:aC Z ψ hh.get w a v):aC Z' ψ hh.get w (cQ hh a) v:=by
 unfold cQ
 split
 ·rename_i id
  split
  ·rename_i ty k xs hg;simp only[aC]at hr;have hv:=hr.2 (by rw[hg];simp);subst hv;obtain⟨vs,h1,h2⟩:=g.row id (.row ty k) xs hg;simp only[aC];exact⟨uV h1 h2 hz (fun b XX=>hb id b rfl (by rw[hg];simp) XX),by simp⟩
  ·rename_i kk vk es hg;simp only[aC]at hr;have hv:=hr.2 (by rw[hg];simp);subst hv;obtain⟨m,b6,clock,h1,h2,h3,_⟩:=g.row id (.map kk vk) es hg;simp only[aC,aL];refine⟨some m,by rw[h1],.inr ⟨m,b6,clock,rfl,hb id m rfl (by rw[hg];simp) (by rw[h1];rfl),h2,h3.imp (fun _ _ h=>h.mono hz (cz.refl _ _)) (fun _ _ h=>h.mono hz (cz.refl _ _))⟩⟩
  ·simp only[aC]
 ·exact hr.less hz (cz.refl _ _) (fun id bR=>⟨bR,rfl⟩)
theorem om{hh:Heap}(g:Good Z ψ hh.get w B0 O)(hz:∀b,Z b→Z' b):∀{cs:List AV} {vs:List Value},(∀id b,AV.bK id∈cs→hh.get id≠none→ob (ψ id)=some b→Z' b)→aq Z ψ hh.get w cs vs→aq Z' ψ hh.get w (cs.map (cQ hh)) vs
 |[],_,_,hr=>by simpa only[aq,List.map_nil] using hr
 |a::r,_,hb,hr=>by simp only[aq,List.map_cons]at hr ⊢;obtain⟨v,us,rfl,h1,h2⟩:=hr;exact⟨v,us,rfl,D6 g hz (fun id b e=>hb id b (by rw[e];simp)) h1,om g hz (fun id b e=>hb id b (aaY _ e)) h2⟩
theorem Nt(hh:Heap)(a:AV):∀id o,(drop1 hh a).get id=some o→hh.get id=some o:=by
 intro id o hg;unfold drop1 at hg
 split at hg
 ·exact(Heap.uU hg).1
 ·exact hg
theorem eu:∀(cs:List AV) (hh:Heap),∀id o,(cO hh cs).get id=some o→hh.get id=some o
 |[],_,_,_,hg=>hg
 |c::r,hh,id,o,hg=>Nt hh c id o (eu r (drop1 hh c) id o hg)
theorem AR:∀(cs:List AV) (hh:Heap) (id:Nat),AV.bK id∈cs→(cO hh cs).get id=none
 |[],_,_,hm=>by simp at hm
 |c::r,hh,id,hm=>by
  simp only[cO];rcases aa1.1 hm with rfl|hm
  ·cases hg:(cO (drop1 hh (.bK id)) r).get id with
   |none=>rfl
   |some o =>have:=eu r _ id o hg;simp only[drop1,Heap.gI]at this;cases this
  ·exact AR r _ id hm
theorem pn:∀(cs:List AV) (hh:Heap) (id:Nat),AV.bK id∉cs→(cO hh cs).get id=hh.get id
 |[],_,_,_=>rfl
 |c::r,hh,id,hm=>by
  simp only[cO];rw[pn r _ id (fun h=>hm (List.mem_cons_of_mem _ h))];unfold drop1
  split
  ·rename_i mL;exact Heap.iC (fun e=>hm (by rw[e];simp)) hh
  ·rfl
def qE(Z:Nat→Prop)(ψ:Nat→Value)(h:Hp)(cs:List AV):Nat→Prop:=fun b=>Z b∨∃id,AV.bK id∈cs∧h id≠none∧ob (ψ id)=some b
theorem iD{hh:Heap}(g:Good Z ψ hh.get w B0 O)(cs:List AV):Good (qE Z ψ hh.get cs) ψ (cO hh cs).get w B0 O :=g.freeze (eu cs hh) (fun _ hb=>.inl hb) (fun b hb=>by
  rcases hb with hb|⟨id,h1,h2,h3⟩
  ·exact .inl hb
  ·exact .inr ⟨id,h2,AR cs hh id h1,h3⟩)
end Go.Vs
namespace Go.Vs
def Own(ψ:Nat→Value)(h:Hp)(b:Nat):Prop:=∃id,h id≠none∧ob (ψ id)=some b
structure dh(ψ:Nat→Value)(h:Hp)(w w':World):Prop where
 os:w'.os=w.os
 tape:w'.tape=w.tape
 output:w'.output=w.output
 size:w.heap.size≤w'.heap.size
 block:∀b,b<w.heap.size→¬Own ψ h b→w'.heap[b]? = w.heap[b]?
structure Next(Z:Nat→Prop)(ψ:Nat→Value)(h:Hp)(w:World)(B0:Nat)(O:Nat→Prop)(N:Nat→Prop)(Z':Nat→Prop)(ψ':Nat→Value)(h':Hp)(w':World):Prop where
 fV:∀b,Z b→Z' b
 eR:∀b,Z' b→Z b∨Own ψ h b∨w.heap.size≤b
 keep:dh ψ h w w'
 ids:∀id,h' id≠none→(h id≠none∧ψ' id=ψ id)∨N id
 ed:Good Z' ψ' h' w' B0 O
variable {Z Z':Nat→Prop} {ψ ψ':Nat→Value} {h h':Hp} {w w':World} {B0:Nat} {O:Nat→Prop} {N:Nat→Prop}
theorem dh.refl(ψ:Nat→Value)(h:Hp)(w:World):dh ψ h w w:=⟨rfl,rfl,rfl,ada _,fun _ _ _=>rfl⟩
theorem dh.same(k:dh ψ h w w')(g:Good Z ψ h w B0 O):cz Z w w':=fun b hb=>k.block b (g.jP b hb) (fun⟨id,h1,h2⟩=>(g.live id b h1 h2).1 hb)
theorem Next.same(n:Next Z ψ h w B0 O N Z' ψ' h' w')(g:Good Z ψ h w B0 O):cz Z w w':=n.keep.same g
theorem Next.refl(g:Good Z ψ h w B0 O):Next Z ψ h w B0 O N Z ψ h w :=⟨fun _ h=>h,fun _ h=>.inl h,dh.refl _ _ _,fun _ bR=>.inl ⟨bR,rfl⟩,g⟩
theorem Next.rep(n:Next Z ψ h w B0 O N Z' ψ' h' w')(g:Good Z ψ h w B0 O){a:AV}{v:Value}(hm:aM (fun id=>¬N id) a)(hr:aC Z ψ h w a v):aC Z' ψ' h' w' a v :=hr.move n.fV (n.same g) (fun id hp bR=>(n.ids id bR).resolve_right hp) hm
theorem Good.bT(g:Good Z ψ h w B0 O){b:Nat}(ho:Own ψ h b):b<w.heap.size:=by
 obtain⟨id,h1,h2⟩:=ho;obtain⟨o,ho⟩:=acx.1 h1
 cases o with
 |box ty cs =>obtain⟨gg,vs,e1,e2,_⟩:=g.box id ty cs ho;rw[e1]at h2;simp only[ob,Option.some.injEq]at h2;subst h2;exact(aa3.1 e2).1
 |own ok x=>exact(g.row id ok x ho).lt h2
theorem Good.more(g:Good Z ψ h w B0 O)(k:dh ψ h w w')(s8:∀b,Own ψ h b→w'.heap[b]? = w.heap[b]?) (hold:∀id,¬N id→h' id=h id∧ψ' id=ψ id) (bz:∀id ty cs,h id=some (.box ty cs)→aG (fun i=>¬N i) cs) (P3:∀id ty cs,N id→h' id=some (.box ty cs)→∃g vs,ψ' id=.pointer (some ⟨g,0,none⟩)∧w'.heap[g]? = some (.cells vs ty (0,0))∧aq Z ψ' h' w' cs vs.toList∧∀u∈vs.toList,u.oneCell'=true) (oo:∀id ok x,N id→h' id=some (.own ok x)→jI Z w' ok (ψ' id) x) (AS:∀id b,N id→h' id≠none→ob (ψ' id)=some b→w.heap.size≤b) (Ki:∀id mL b,N id→N mL→h' id≠none→h' mL≠none→ob (ψ' id)=some b→ob (ψ' mL)=some b→id=mL) (hB:B0≤w.heap.size) :
  Next Z ψ h w B0 O N Z ψ' h' w':=by
 have nH:∀id,h' id≠none→(h id≠none∧ψ' id=ψ id)∨N id:=fun id bR=>by
  by_cases hn:N id
  ·exact .inr hn
  ·obtain⟨e1,e2⟩:=hold id hn;exact .inl ⟨by rwa [e1]at bR,e2⟩
 have sm:cz Z w w':=k.same g;have yu:∀id b,¬N id→h' id≠none→ob (ψ' id)=some b→Own ψ h b:=fun id b hn h1 h2=>by obtain⟨e1,e2⟩:=hold id hn;exact⟨id,by rwa [e1]at h1,by rwa [e2]at h2⟩
 refine⟨fun _ h=>h,fun _ h=>.inl h,k,nH,⟨fun id ty cs hb=>?_,fun id ok x hb=>?_,fun id b h1 h2=>?_,fun id mL b h1 h2 h3 h4=>?_,fun b hb=>aeA (g.jP b hb) k.size⟩⟩
 ·by_cases hn:N id
  ·exact P3 id ty cs hn hb
  ·obtain⟨e1,e2⟩:=hold id hn;rw[e1]at hb;obtain⟨gg,vs,h1,h2,h3,h4⟩:=g.box id ty cs hb;have ho:Own ψ h gg:=⟨id,by rw[hb];simp,by rw[h1];rfl⟩;exact⟨gg,vs,by rw[e2,h1],(s8 gg ho).trans h2,h3.move (fun _ h=>h) sm (fun i hp bR=>(nH i bR).resolve_right hp) (bz id ty cs hb),h4⟩
 ·by_cases hn:N id
  ·exact oo id ok x hn hb
  ·obtain⟨e1,e2⟩:=hold id hn;rw[e1]at hb;rw[e2];exact(g.row id ok x hb).kept (fun _ h=>h) sm (fun gg Nu=>s8 gg ⟨id,by rw[hb];simp,Nu⟩)
 ·by_cases hn:N id
  ·have:=AS id b hn h1 h2;exact⟨fun hz=>by have:=g.jP b hz;omega,.inl (by omega)⟩
  ·obtain⟨e1,e2⟩:=hold id hn;rw[e1]at h1;rw[e2]at h2;exact g.live id b h1 h2
 ·by_cases hn:N id<;>by_cases Kj:N mL
  ·exact Ki id mL b hn Kj h1 h2 h3 h4
  ·have:=AS id b hn h1 h3;have:=g.bT (yu mL b Kj h2 h4);omega
  ·have:=AS mL b Kj h2 h4;have:=g.bT (yu id b hn h1 h3);omega
  ·obtain⟨e1,e2⟩:=hold id hn;obtain⟨e3,e4⟩:=hold mL Kj;rw[e1]at h1;rw[e2]at h3;rw[e3]at h2;rw[e4]at h4;exact g.apart id mL b h1 h2 h3 h4
end Go.Vs
namespace Go.Vs
variable {P:Program} {Z Z':Nat→Prop} {ψ ψ':Nat→Value} {h h':Hp} {w w':World} {B0:Nat} {O:Nat→Prop} {N:Nat→Prop}
theorem rX{α:Type}:∀(vs cs:List α) (off:Nat),off+vs.length≤cs.length→dZ cs off vs=cs.take off++vs++cs.drop (off+vs.length)
 |[],cs,off,_=>by simp[dZ]
 |v::r,cs,off,hl=>by
  simp only[List.length_cons]at hl;simp only[dZ];rw[rX r (cs.set off v) (off+1) (by rw[List.length_set];omega)];have h1:(cs.set off v).take (off+1)=cs.take off++[v]:=by rw[List.take_set,List.take_succ_eq_append_getElem (by omega),List.set_append_right _ _ (by rw[List.length_take];omega)];rw[List.length_take,Nat.min_eq_left (by omega)];simp
  have h2:(cs.set off v).drop (off+1+r.length)=cs.drop (off+(r.length+1)):=by rw[List.drop_set_of_lt (by omega)];congr 1;omega
  rw[h1,h2,List.append_assoc,List.append_assoc,List.append_assoc];rfl
theorem gm{t:TypeId}{b:Bool}(hb:D1 P t=some b):(isAgg t).run P w=.ok b w:=by
 unfold D1 at hb;obtain⟨d,hd,rfl⟩:=adJ.1 hb;simp only[isAgg,Sem.run_bind,run_underlying hd,Result.andThen_ok]
 cases d<;>rfl
theorem ta{t:TypeId}{d:TypeDesc}(hd:P.underlying t=some d):∃i,P.info? t=some i:=by
 unfold Program.underlying at hd
 split at hd
 ·rename_i heq;exact⟨_,heq⟩
 ·rename_i heq;exact⟨_,heq⟩
 ·cases hd
theorem dF{t:TypeId}{i:TypeInfo}(hi:P.info? t=some i):(sizeOf t).run P w=.ok (P.cellsOf t) w:=by simp[sizeOf,typeInfo,hi,Program.cellsOf]
theorem yv{t:TypeId}{b:Bool}(hb:D1 P t=some b):∃i,P.info? t=some i:=by unfold D1 at hb;obtain⟨d,hd,rfl⟩:=adJ.1 hb;exact ta hd
theorem jQ{t:TypeId}{cs:List AV}{us:List Value}{a:Addr}{x:AV}(hr:aq Z ψ h w cs us)(hc:∀(j:Nat) u,us[j]? = some u→w.cell? (a.add j)=some u)(hx:ep P t cs=some x) :
  ∃V,(Instr.loadAt t (.pointer (some a))).run P w=.ok V w∧aC Z ψ h w x V:=by
 unfold ep at hx;have hlen:=hr.length
 split at hx
 ·rename_i hb
  split at hx
  ·rename_i hl
   cases hx
   obtain⟨i,hi⟩:=yv hb;refine⟨.agg (us.take (P.cellsOf t)).toArray,?_,by simp only[aC];exact⟨_,rfl,by simpa using hr.take (P.cellsOf t)⟩⟩;have aF:(us.take (P.cellsOf t)).length=P.cellsOf t:=by rw[List.length_take];omega
   have hld:=run_loadCells_list (P:=P) w a (us.take (P.cellsOf t)) (fun j v hv=>hc j v (by
    rw[List.getElem?_take]at hv;split at hv
    ·exact hv
    ·cases hv))
   rw[aF]at hld;simp[Instr.loadAt,Instr.sureAddr,loadVar,gm hb,dF hi,hld]
  ·cases hx
 ·rename_i hb
  split at hx
  ·rename_i c r
   cases hx
   simp only[aq]at hr;obtain⟨v,je,rfl,h1,h2⟩:=hr;refine⟨v,?_,h1⟩;have:=hc 0 v rfl;rw[D5]at this;simp[Instr.loadAt,Instr.sureAddr,loadVar,gm hb,this]
  ·cases hx
 ·cases hx
theorem kS{t:TypeId}{i:TypeInfo}(hi:P.info? t=some i)(g off:Nat)(V:Value)(cur:Array Value)(ty:TypeId)(hg:w.heap[g]? = some (.cells cur ty (0,0)))(hs:V.cells.size=P.cellsOf t) (hl:off+V.cells.size≤cur.size) (h1:∀v∈V.cells.toList,v.oneCell'=true) :
  (Instr.storeAt t (.pointer (some ⟨g,off,none⟩)) V).run P w=.ok () (w.setRow g (cur.toList.take off++V.cells.toList++cur.toList.drop (off+V.cells.size)).toArray):=by
 have uW:=run_storeCells_at P g off ty V.cells.toList 0 cur w hg (by simpa using hl) h1;simp only[Nat.add_zero,Array.length_toList]at uW;simp[Instr.storeAt,Instr.sureAddr,storeVar,dF hi,hs,uW]
def eC{α:Type}(f:Nat→α)(i:Nat)(v:α):Nat→α:=fun j=>if j=i then v else f j
theorem bA{α:Type}(f:Nat→α)(i:Nat)(v:α):eC f i v i=v:=by simp[eC]
theorem dk{α:Type}(f:Nat→α){i j:Nat}(v:α)(bw:j≠i):eC f i v j=f j:=by simp[eC,bw]
theorem dh.alloc(ψ:Nat→Value)(h:Hp)(w:World)(o:Obj):dh ψ h w (w.alloc o) :=⟨rfl,rfl,rfl,by rw[World.size_alloc];omega,fun b hb _=>heap_alloc_old w o hb⟩
theorem AT(g:Good Z ψ h w B0 O)(hB:B0≤w.heap.size)(id:Nat)(ty:TypeId){cs:List AV}{vs:Array Value}(hN:N id)(hr:aq Z ψ h w cs vs.toList)(h1:∀u∈vs.toList,u.oneCell'=true) (bz:∀i ty cs,h i=some (.box ty cs)→aG (fun i=>i≠id) cs) (hm:aG (fun i=>i≠id) cs) :
  Next Z ψ h w B0 O N Z (eC ψ id (.pointer (some ⟨w.heap.size,0,none⟩))) (eC h id (some (.box ty cs))) (w.alloc (.cells vs ty)):=by
 have n:Next Z ψ h w B0 O (·=id) Z (eC ψ id (.pointer (some ⟨w.heap.size,0,none⟩))) (eC h id (some (.box ty cs))) (w.alloc (.cells vs ty)):=by
  refine g.more (dh.alloc _ _ _ _) (fun b hb=>heap_alloc_old w _ (g.bT hb)) (fun i hi=>⟨dk _ _ hi,dk _ _ hi⟩) (fun i zr cs' hb=>?_) (fun i zr cs' hi hb=>?_) (fun i ok x hi hb=>?_) (fun i b hi bw hb=>?_) (fun i i' b hi tQ _ _ _ _=>by subst hi;exact tQ.symm) hB
  ·exact bz i zr cs' hb
  ·subst hi;rw[bA]at hb;cases hb;refine⟨w.heap.size,vs,bA _ _ _,heap_alloc_new _ _,?_,h1⟩;refine hr.move (fun _ h=>h) ((dh.alloc ψ h w _).same g) (fun j hj bw=>?_) hm;rw[dk _ _ hj]at bw;exact⟨bw,dk _ _ hj⟩
  ·subst hi;rw[bA]at hb;cases hb
  ·subst hi;rw[bA]at hb;simp only[ob,Option.some.injEq]at hb;omega
 exact⟨n.fV,n.eR,n.keep,fun i hi=>(n.ids i hi).imp (fun h=>h) (fun e=>by subst e;exact hN),n.ed⟩
theorem P4{h:Hp}{id:Nat}{o:Ob}(bR:h id≠none):∀i,eC h id (some o) i≠none→h i≠none:=fun i hi=>by
 by_cases e:i=id
 ·subst e;exact bR
 ·rwa [dk _ _ e]at hi
theorem Good.write(g:Good Z ψ h w B0 O)(id:Nat)(bR:h id≠none)(k:dh ψ h w w')(P5:∀b,ob (ψ id)≠some b→b<w.heap.size→w'.heap[b]? = w.heap[b]?)(o':Ob) (P3:∀ty cs,o'=.box ty cs→∃gg vs,ψ id=.pointer (some ⟨gg,0,none⟩)∧w'.heap[gg]? = some (.cells vs ty (0,0))∧aq Z ψ h w' cs vs.toList∧∀u∈vs.toList,u.oneCell'=true) (oo:∀ok x,o'=.own ok x→jI Z w' ok (ψ id) x) :
  Next Z ψ h w B0 O N Z ψ (eC h id (some o')) w':=by
 have hs:=P4 (o:=o') bR;have sm:=k.same g;refine⟨fun _ h=>h,fun _ h=>.inl h,k,fun i hi=>.inl ⟨hs i hi,rfl⟩,⟨fun i ty cs hb=>?_,fun i ok x hb=>?_,fun i b h1 h2=>g.live i b (hs i h1) h2,fun i i' b h1 h2 h3 h4=>g.apart i i' b (hs i h1) (hs i' h2) h3 h4,fun b hb=>aeA (g.jP b hb) k.size⟩⟩
 ·by_cases e:i=id
  ·subst e;rw[bA]at hb;cases hb;obtain⟨gg,vs,h1,h2,h3,h4⟩:=P3 _ _ rfl;exact⟨gg,vs,h1,h2,h3.less (fun _ h=>h) (cz.refl _ _) (fun j hj=>⟨hs j hj,rfl⟩),h4⟩
  ·rw[dk _ _ e]at hb;obtain⟨gg,vs,h1,h2,h3,h4⟩:=g.box i ty cs hb;refine⟨gg,vs,h1,?_,h3.less (fun _ h=>h) sm (fun j hj=>⟨hs j hj,rfl⟩),h4⟩;rw[P5 gg (fun hh=>e (g.apart i id gg (by rw[hb];simp) bR (by rw[h1];rfl) hh)) (Array.getElem?_eq_some_iff.1 h2).1];exact h2
 ·by_cases e:i=id
  ·subst e;rw[bA]at hb;cases hb;exact oo _ _ rfl
  ·rw[dk _ _ e]at hb;exact(g.row i ok x hb).kept (fun _ h=>h) sm (fun gg Nu=>P5 gg (fun hh=>e (g.apart i id gg (by rw[hb];simp) bR Nu hh)) (g.bT ⟨i,by rw[hb];simp,Nu⟩))
theorem dh.setRow{gg:Nat}(ho:Own ψ h gg)(arr:Array Value):dh ψ h w (w.setRow gg arr) :=⟨rfl,rfl,rfl,by simp[World.setRow],fun b _ hb=>by have:gg≠b:=fun e=>hb (e▸ho);simp[World.setRow,Array.getElem?_modify,this]⟩
theorem setRow_other{gg b:Nat}(arr:Array Value)(bw:gg≠b):(w.setRow gg arr).heap[b]? = w.heap[b]? := by simp[World.setRow,Array.getElem?_modify,bw]
theorem AU(g:Good Z ψ h w B0 O){id:Nat}{ty:TypeId}{cs vs:List AV}(hb:h id=some (.box ty cs)){t:TypeId}{i:TypeInfo}(hi:P.info? t=some i){off:Nat}{V:Value} (hv:aq Z ψ h w vs V.cells.toList) (h1:∀u∈V.cells.toList,u.oneCell'=true) (hs:V.cells.size=P.cellsOf t) (hl:off+vs.length≤cs.length) {a:Addr} (ha:a=⟨UD (ψ id),off,none⟩) :
  ∃w',(Instr.storeAt t (.pointer (some a)) V).run P w=.ok () w'∧Next Z ψ h w B0 O N Z ψ (eC h id (some (.box ty (dZ cs off vs)))) w':=by
 obtain⟨gg,arr,e1,e2,e3,e4⟩:=g.box id ty cs hb;have hlen:=hv.length;have P6:=e3.length;simp only[Array.length_toList]at hlen P6;have bR:h id≠none:=by rw[hb];simp
 have ho:Own ψ h gg:=⟨id,bR,by rw[e1];rfl⟩;rw[e1]at ha;simp only[UD]at ha;subst ha;refine⟨_,kS hi gg off V arr ty e2 hs (by omega) h1,?_⟩;have kk:=dh.setRow (w:=w) ho ((arr.toList.take off++V.cells.toList++arr.toList.drop (off+V.cells.size)).toArray);refine g.write id bR kk (fun b hb _=>setRow_other _ (fun e=>hb (by rw[e1];simp[ob,e]))) _ (fun zr cs' he=>?_) (fun _ _ he=>by cases he)
 cases he
 refine⟨gg,_,e1,setRow_heap w gg arr _ ty _ e2,?_,?_⟩
 ·rw[rX _ _ _ hl];have h5:aq Z ψ h w (cs.take off++vs++cs.drop (off+vs.length)) (arr.toList.take off++V.cells.toList++arr.toList.drop (off+V.cells.size)):=by rw[←hlen];exact((e3.take off).append hv).append (e3.drop (off+vs.length))
  exact h5.less (fun _ h=>h) (kk.same g) (fun j hj=>⟨hj,rfl⟩)
 ·intro u hu;rw[List.toList_toArray]at hu;rcases acw.1 hu with hu|hu
  ·rcases acw.1 hu with hu|hu
   ·exact e4 u (List.mem_of_mem_take hu)
   ·exact h1 u hu
  ·exact e4 u (aeT hu)
theorem XY{α:Type}(cur V:List α)(m off sz L:Nat)(h:off+V.length≤sz)(h1:m+sz≤L)(h2:L≤cur.length) :
  ((cur.take (m+off)++V++cur.drop (m+off+V.length)).take L |>.drop m |>.take sz)=((cur.drop m).take sz).take off++V++((cur.drop m).take sz).drop (off+V.length):=by
 apply aeO;intro q;simp only[List.getElem?_take,List.getElem?_drop,List.getElem?_append,List.length_append,List.length_take,List.length_drop];rw[Nat.min_eq_left (show m+off≤cur.length by omega),Nat.min_eq_left (show off≤min sz (cur.length-m) by omega)]
 repeat' split
 all_goals first|rfl|(exfalso;omega)|(congr 1;omega)|(rw[List.getElem?_eq_none (by omega)])
theorem UE{α:Type}(cur V:List α)(m off sz L p:Nat)(h:off+V.length≤sz)(h1:m+sz≤L)(h2:L≤cur.length)(h3:p+sz≤L)(h4:p+sz≤m∨m+sz≤p) :
  ((cur.take (m+off)++V++cur.drop (m+off+V.length)).take L |>.drop p |>.take sz)=(cur.drop p).take sz:=by
 apply aeO;intro q;simp only[List.getElem?_take,List.getElem?_drop,List.getElem?_append,List.length_append,List.length_take];rw[Nat.min_eq_left (show m+off≤cur.length by omega)]
 repeat' split
 all_goals first|rfl|(exfalso;omega)|(congr 1;omega)|(rw[List.getElem?_eq_none (by omega)])
theorem aL.AW{k:K}{x:k.T}{vs us:List Value}(e:vs=us)(hr:aL Z w k x vs):aL Z w k x us:=e▸hr
theorem AX(g:Good Z ψ h w B0 O){id:Nat}{ty:TypeId}{kk:K}{xs:List kk.T}(hb:h id=some (.own (.row ty kk) xs)){t:TypeId}{i:TypeInfo}(hi:P.info? t=some i){n off:Nat}{x y:kk.T}{V:Value} (hx:xs[n]? = some x) (hs:V.cells.size=P.cellsOf t) (hl:off+V.cells.size≤kk.sz) {a:Addr} (ha:a=⟨UD (ψ id),n*kk.sz+off,none⟩) (hy:∀us,aL Z w kk x us→aL Z w kk y (us.take off++V.cells.toList++us.drop (off+V.cells.size))) (h1:∀u∈V.cells.toList,u.oneCell'=true) :
  ∃w',(Instr.storeAt t (.pointer (some a)) V).run P w=.ok () w'∧Next Z ψ h w B0 O N Z ψ (eC h id (some (.own (.row ty kk) (xs.set n y)))) w':=by
 obtain⟨vs,ho,hv⟩:=g.row id (.row ty kk) xs hb;have bR:h id≠none:=by rw[hb];simp
 have hn:n<xs.length:=(aaW.1 hx).1;have Kh:=kk.iB;have hmul:n*kk.sz+kk.sz≤xs.length*kk.sz:=by rw[←Nat.succ_mul];exact adA _ hn
 obtain⟨hl1,e⟩:=ho;rcases e with⟨h0,_⟩|⟨gg,cap,cur,e1,e2,e3,e4,e5,e6,e7⟩
 ·omega
 have XZ:xs.length*kk.sz≤cap*kk.sz:=adA _ e4;have mH:ob (ψ id)=some gg:=by rw[e1];simp only[ob];rw[if_neg (by omega)]
 have ho:Own ψ h gg:=⟨id,bR,mH⟩;have Hi:a=⟨gg,n*kk.sz+off,none⟩:=by rw[ha,e1];rfl
 subst Hi;refine⟨_,kS hi gg (n*kk.sz+off) V cur ty e3 hs (by omega) h1,?_⟩;have hk:=dh.setRow (w:=w) ho ((cur.toList.take (n*kk.sz+off)++V.cells.toList++cur.toList.drop (n*kk.sz+off+V.cells.size)).toArray);have sm:=hk.same g;refine g.write id bR hk (fun b hb _=>setRow_other _ (fun e=>hb (by rw[mH,e]))) _ (fun _ _ he=>by cases he) (fun ZJ x' he=>?_)
 cases he
 have rY:cur.toList.length=cap*kk.sz:=by rw[Array.length_toList];exact e6
 have hVl:V.cells.toList.length=V.cells.size:=Array.length_toList
 let jn:=cur.toList.take (n*kk.sz+off)++V.cells.toList++cur.toList.drop (n*kk.sz+off+V.cells.size)
 have Kk:jn.length=cap*kk.sz:=by simp only[jn,List.length_append,List.length_take,List.length_drop,rY,hVl];omega
 have UF:(xs.set n y).length=xs.length:=List.length_set;have tR:vs=cur.toList.take (xs.length*kk.sz):=e7.symm;refine⟨jn.take (xs.length*kk.sz),⟨by rw[List.length_take,Kk,UF];omega,.inr ⟨gg,cap,jn.toArray,by rw[UF];exact e1,e2,setRow_heap w gg cur _ ty _ e3,by rw[UF];exact e4,e5,by simpa using Kk,by rw[UF]⟩⟩,fun j z hz=>?_⟩;have hj:j<xs.length:=by have:=(aaW.1 hz).1;rwa [UF]at this
 have hmj:j*kk.sz+kk.sz≤xs.length*kk.sz:=by rw[←Nat.succ_mul];exact adA _ hj
 have aao:∀p,p+kk.sz≤xs.length*kk.sz→(vs.drop p).take kk.sz=(cur.toList.drop p).take kk.sz:=fun p hp=>by rw[tR,List.drop_take,List.take_take,Nat.min_eq_left (by omega)]
 by_cases PA:j=n
 ·subst PA;rw[List.getElem?_set_self hn]at hz;cases hz;have hu:=hy _ (hv j x hx);rw[aao _ hmj,←hVl]at hu;refine aL.mono (fun _ h=>h) sm (aL.AW ?_ hu);have:=XY cur.toList V.cells.toList (j*kk.sz) off kk.sz (xs.length*kk.sz) (by omega) hmj (by omega);rw[←this,hVl]
 ·rw[List.getElem?_set_ne (fun e=>PA e.symm)]at hz;have hu:=hv j z hz;rw[aao _ hmj]at hu;refine aL.mono (fun _ h=>h) sm (aL.AW ?_ hu);have h4:j*kk.sz+kk.sz≤n*kk.sz∨n*kk.sz+kk.sz≤j*kk.sz:=by
   rcases aeU j n with h|h
   ·left;rw[←Nat.succ_mul];exact adA _ h
   ·right;rw[←Nat.succ_mul];exact adA _ (by omega)
  have:=UE cur.toList V.cells.toList (n*kk.sz) off kk.sz (xs.length*kk.sz) (j*kk.sz) (by omega) hmul (by omega) hmj h4;rw[←this,hVl]
theorem tS{k:K}{ys:List k.T}{u:Value}(hr:aL Z w (.sl k) ys [u]) :
  (u=.slice none 0 0∧ys=[])∨∃a c news,u=.slice (some a) ys.length c∧ys.length≤c∧news.length=ys.length*k.sz∧(∀(j:Nat) q,news[j]? = some q→w.cell? (a.add j)=some q)∧(∀q∈news,q.oneCell'=true)∧nF Z w k ys news:=by
 simp only[aL]at hr;obtain⟨v,hv,A,c,rfl,hl,hn,he⟩:=hr
 cases hv
 cases A with
 |none =>
  left
  cases ys with
  |nil=>exact⟨by rw[hn rfl];rfl,rfl⟩
  |cons y r=>obtain⟨a,us,h1,_⟩:=he 0 y rfl;cases h1
 |some a =>
  right;have X0:∀i (hi:i<ys.length),∃us,aL Z w k ys[i] us∧∀(j:Nat) u,us[j]? = some u→w.cell? (a.add (i*k.sz+j))=some u:=fun i hi=>by
   obtain⟨a',us,h1,_,h3,h4⟩:=he i _ (aaV hi)
   cases h1
   exact⟨us,h3,h4⟩
  have Kh:=k.iB
  let news:=(List.range (ys.length*k.sz)).map fun j=>(w.cell? (a.add j)).getD default
  have D7:∀j,j<ys.length*k.sz→∃q,w.cell? (a.add j)=some q∧q.oneCell'=true:=fun j hj=>by
   have hi:j / k.sz<ys.length:=Nat.div_lt_of_lt_mul (by rw[Nat.mul_comm];exact hj);obtain⟨us,h3,h4⟩:=X0 (j / k.sz) hi;have hm:j%k.sz<us.length:=by rw[h3.len];exact aeW _ Kh
   refine⟨us[j%k.sz],?_,h3.one _ (adg hm)⟩;have:=h4 (j%k.sz) _ (aaV hm)
   rwa [Nat.mul_comm,Nat.div_add_mod]at this
  have nI:∀j,j<ys.length*k.sz→∃q,news[j]? = some q∧w.cell? (a.add j)=some q:=fun j hj=>by obtain⟨q,hq,_⟩:=D7 j hj;exact⟨q,by simp[news,List.getElem?_map,List.getElem?_range hj,hq],hq⟩
  have hlen:news.length=ys.length*k.sz:=by simp[news]
  refine⟨a,c,news,rfl,hl,hlen,fun j q hq=>?_,fun q hq=>?_,fun i x hx=>?_⟩
  ·have hj:j<ys.length*k.sz:=by rw[←hlen];exact(aaW.1 hq).1
   obtain⟨q',h1,h2⟩:=nI j hj;rw[h1]at hq;cases hq;exact h2
  ·obtain⟨j,hj,rfl⟩:=List.mem_iff_getElem.1 hq;obtain⟨q',h1,h2⟩:=nI j (by omega);obtain⟨q2,h3,h4⟩:=D7 j (by omega);rw[List.getElem?_eq_getElem hj]at h1;cases h1;rw[h2]at h3;cases h3;exact h4
  ·have hi:i<ys.length:=(aaW.1 hx).1;obtain⟨us,h3,h4⟩:=X0 i hi;rw[List.getElem?_eq_getElem hi]at hx;cases hx;refine aL.AW ?_ h3;have hul:=h3.len;have hmul:i*k.sz+k.sz≤ys.length*k.sz:=by rw[←Nat.succ_mul];exact adA _ hi
   apply aeO;intro q;rw[List.getElem?_take,List.getElem?_drop];by_cases hq:q<k.sz
   ·rw[if_pos hq];obtain⟨q',h5,h6⟩:=nI (i*k.sz+q) (by omega);rw[h5];have h7:=h4 q _ (aaV (by omega));rw[List.getElem?_eq_getElem (by omega)];rw[h6]at h7;cases h7;rfl
   ·rw[if_neg hq,List.getElem?_eq_none (by omega)]
theorem Nv{hh:Heap}(g:Good Z ψ hh.get w B0 O){x:AV}{u:Value}{k:K}{ys:List k.T}(hx:rowOf hh x k=some ys)(hr:aC Z ψ hh.get w x u) :
  (u=.slice none 0 0∧ys=[])∨∃a c news,u=.slice (some a) ys.length c∧ys.length≤c∧news.length=ys.length*k.sz∧(∀(j:Nat) q,news[j]? = some q→w.cell? (a.add j)=some q)∧(∀q∈news,q.oneCell'=true)∧nF Z w k ys news:=by
 unfold rowOf at hx
 split at hx
 ·rename_i ex k' xs heq
  split at hx
  ·rename_i e;subst e
   cases hx
   cases x with
   |sl ex' k'' xs' =>
    simp only[cQ]at heq
    cases heq
    simp only[aC]at hr;exact tS hr.1
   |bK id =>
    simp only[cQ]at heq
    split at heq
    ·rename_i ty kk zs hg
     cases heq
     simp only[aC]at hr;have hv:=hr.2 (by rw[hg];simp);subst hv;obtain⟨vs,ho,hv⟩:=g.row id (.row ty _) _ hg;have h1:=tS (uV (Z':=fun b=>Z b∨ob (ψ id)=some b) ho hv (fun b hb=>.inl hb) (fun b hb=>.inr hb));rcases h1 with h1|⟨a,c,news,h1,h2,h3,h4,h5,_⟩
     ·exact .inl h1
     ·right;refine⟨a,c,news,h1,h2,h3,h4,h5,?_⟩;have UG:news=vs:=by
       obtain⟨hl,e⟩:=ho;rcases e with⟨e,_⟩|⟨gg,cap,cur,e,_,e3,_,_,_,e7⟩
       ·rw[e,Nat.zero_mul]at h3 hl;rw[List.eq_nil_of_length_eq_zero h3,List.eq_nil_of_length_eq_zero hl]
       ·rw[e]at h1;cases h1;apply aeO;intro j;by_cases hj:j<xs.length*k'.sz
        ·have hn:=h4 j _ (aaV (by omega));rw[cT,Nat.zero_add]at hn;simp only[World.cell?,e3]at hn;have yw:vs[j]? = cur.toList[j]? := by rw[←e7,List.getElem?_take,if_pos hj]
         rw[yw,List.getElem?_eq_getElem (by omega)];simpa using hn.symm
        ·rw[List.getElem?_eq_none (by omega),List.getElem?_eq_none (by omega)]
      rw[UG];exact hv
    ·cases heq
    ·cases heq
   |_=>simp only[cQ]at heq<;>cases heq
  ·cases hx
 ·rename_i heq
  cases hx
  cases x with
  |gh=>simp only[aC]at hr;exact .inl ⟨hr,rfl⟩
  |bK id=>simp only[cQ]at heq;split at heq<;>cases heq
  |_=>simp only[cQ]at heq<;>cases heq
 ·cases hx
structure nJ(P:Program)(e:TypeId)(k:K)(i:TypeInfo)(z:Value):Prop where
 info:P.info? e=some i
 zero:i.zero=some z
 size:i.size=k.sz
 uX:z.cells.size=k.sz
 bytes:i.bytes≤65536
theorem cw{e:TypeId}{k:K}(he:Fl P e k=true):∃i z,nJ P e k i z:=by
 unfold Fl at he
 split at he
 ·rename_i i hi
  split at he
  ·rename_i z hz;simp only[Bool.and_eq_true,decide_eq_true_eq]at he;exact⟨i,z,hi,hz,he.1,he.2.1,he.2.2⟩
  ·cases he
 ·cases he
theorem nF.append{k:K}{xs ys:List k.T}{vs us:List Value}(h1:nF Z w k xs vs)(h2:nF Z w k ys us)(hl:vs.length=xs.length*k.sz):nF Z w k (xs++ys) (vs++us):=fun i x hx=>by
 by_cases hi:i<xs.length
 ·rw[List.getElem?_append_left hi]at hx;have hm:i*k.sz+k.sz≤xs.length*k.sz:=by rw[←Nat.succ_mul];exact adA _ hi
  have h3:=h1 i x hx;rw[List.drop_append_of_le_length (by omega),List.take_append_of_le_length (by rw[List.length_drop];omega)];exact h3
 ·rw[List.getElem?_append_right (by omega)]at hx;have h3:=h2 (i-xs.length) x hx;have e:i*k.sz=vs.length+(i-xs.length)*k.sz:=by rw[hl,←Nat.add_mul];congr 1;omega
  rw[e,List.drop_append,List.drop_eq_nil_of_le (by omega),List.nil_append,Nat.add_sub_cancel_left];exact h3
theorem nF.Hj{k:K}{xs:List k.T}{vs:List Value}(h:nF Z w k xs vs)(sm:cz Z w w'):nF Z w' k xs vs:=fun i x hx=>(h i x hx).mono (fun _ h=>h) sm
theorem Hk(g:Good Z ψ h w B0 O)(hB:B0≤w.heap.size)(id:Nat)(hN:N id){ok:OK}{x:ok.T}{v:Value}(kk:dh ψ h w w')(s8:∀b,Own ψ h b→w'.heap[b]? = w.heap[b]?) (ho:jI Z w' ok v x) (hb:∀b,ob v=some b→w.heap.size≤b) (bz:∀i ty cs,h i=some (.box ty cs)→aG (fun i=>i≠id) cs) :
  Next Z ψ h w B0 O N Z (eC ψ id v) (eC h id (some (.own ok x))) w':=by
 have n:Next Z ψ h w B0 O (·=id) Z (eC ψ id v) (eC h id (some (.own ok x))) w':=by
  refine g.more kk s8 (fun i hi=>⟨dk _ _ hi,dk _ _ hi⟩) (fun i zr cs' hb=>bz i zr cs' hb) (fun i zr cs' hi hb=>?_) (fun i ok x hi hb=>?_) (fun i b hi bw XX=>?_) (fun i i' b hi tQ _ _ _ _=>by subst hi;exact tQ.symm) hB
  ·subst hi;rw[bA]at hb;cases hb
  ·subst hi;rw[bA]at hb;cases hb;rw[bA];exact ho
  ·subst hi;rw[bA]at XX;exact hb b XX
 exact⟨n.fV,n.eR,n.keep,fun i hi=>(n.ids i hi).imp (fun h=>h) (fun e=>by subst e;exact hN),n.ed⟩
theorem qV(g:Good Z ψ h w B0 O)(hB:B0≤w.heap.size)(id:Nat)(ty:TypeId)(hN:N id){k:K}{xs:List k.T}{vs:List Value}{v:Value}(kk:dh ψ h w w')(s8:∀b,Own ψ h b→w'.heap[b]? = w.heap[b]?) (ho:eI w' ty k.sz v xs.length vs) (hv:nF Z w' k xs vs) (hb:∀b,ob v=some b→w.heap.size≤b) (bz:∀i ty cs,h i=some (.box ty cs)→aG (fun i=>i≠id) cs) :
  Next Z ψ h w B0 O N Z (eC ψ id v) (eC h id (some (.own (.row ty k) xs))) w':=Hk g hB id hN (ok:=.row ty k) kk s8 ⟨vs,ho,hv⟩ hb bz
theorem dh.grown{row:Option Nat}(hg:w.grownBy w' row)(hr:∀b,row=some b→Own ψ h b):dh ψ h w w' :=⟨hg.os,hg.tape,hg.output,hg.size,fun b hb hn=>hg.block b hb (fun e=>hn (hr b e.symm))⟩
theorem qW(g:Good Z ψ h w B0 O)(hB:B0≤w.heap.size)(id cW:Nat)(hN:N id){ok:OK}{x y:ok.T}(ho:h cW=some (.own ok x))(bw:cW≠id) (hg:w.grownBy w' (ob (ψ cW))) {v:Value} (hv:jI Z w' ok v y) (hb:ob v=ob (ψ cW)∨∀b,ob v=some b→w.heap.size≤b) (bz:∀i ty cs,h i=some (.box ty cs)→aG (fun i=>i≠id) cs) :
  Next Z ψ h w B0 O N Z (eC ψ id v) (eC (eC h cW none) id (some (.own ok y))) w':=by
 have hold:h cW≠none:=by rw[ho];simp
 have mH:∀b,ob (ψ cW)=some b→ob (ψ cW)=some b:=fun _ h=>h;have kk:dh ψ h w w':=dh.grown hg (fun b e=>⟨cW,hold,mH b e⟩);have sm:=kk.same g;have other:∀i b,h i≠none→i≠cW→ob (ψ i)=some b→w'.heap[b]? = w.heap[b]? := fun i b h1 h2 h3 =>hg.block b (g.bT ⟨i,h1,h3⟩) (fun e=>h2 (g.apart i cW b h1 hold h3 (mH b e.symm)));have at_:∀i,i≠id→eC (eC h cW none) id (some (.own ok y)) i≠none→h i≠none∧i≠cW:=fun i hi h1=>by
  rw[dk _ _ hi]at h1;by_cases e:i=cW
  ·subst e;rw[bA]at h1;exact absurd rfl h1
  ·rw[dk _ _ e]at h1;exact⟨h1,e⟩
 have ids:∀i,eC (eC h cW none) id (some (.own ok y)) i≠none→(h i≠none∧eC ψ id v i=ψ i)∨i=id:=fun i h1=>by
  by_cases e:i=id
  ·exact .inr e
  ·exact .inl ⟨(at_ i e h1).1,dk _ _ e⟩
 have vob:∀b,ob v=some b→ob (ψ cW)=some b∨w.heap.size≤b:=fun b XX=>by
  rcases hb with hb|hb
  ·left;rw[←hb];exact XX
  ·right;exact hb b XX
 refine⟨fun _ h=>h,fun _ h=>.inl h,kk,fun i h1=>(ids i h1).imp (fun h=>h) (fun e=>by subst e;exact hN),⟨fun i zr cs qz=>?_,fun i ZJ z qz=>?_,fun i b h1 h2=>?_,fun i i' b h1 h2 h3 h4=>?_,fun b hz=>aeA (g.jP b hz) kk.size⟩⟩
 ·by_cases e:i=id
  ·subst e;rw[bA]at qz;cases qz
  ·have Ft:=at_ i e (by rw[qz];simp);rw[dk _ _ e,dk _ _ Ft.2]at qz;obtain⟨gg,us,h1,h2,h3,h4⟩:=g.box i zr cs qz;refine⟨gg,us,by rw[dk _ _ e];exact h1,(other i gg Ft.1 Ft.2 (by rw[h1];rfl)).trans h2,?_,h4⟩;exact h3.move (fun _ h=>h) sm (fun j hj hn=>(ids j hn).resolve_right hj) (bz i zr cs qz)
 ·by_cases e:i=id
  ·subst e;rw[bA]at qz;cases qz;rw[bA];exact hv
  ·have Ft:=at_ i e (by rw[qz];simp);rw[dk _ _ e,dk _ _ Ft.2]at qz;rw[dk _ _ e];exact(g.row i ZJ z qz).kept (fun _ h=>h) sm (fun gg Nu=>other i gg Ft.1 Ft.2 Nu)
 ·by_cases e:i=id
  ·subst e;rw[bA]at h2;rcases vob b h2 with h3|h3
   ·exact g.live cW b hold h3
   ·exact⟨fun hz=>by have:=g.jP b hz;omega,.inl (by omega)⟩
  ·rw[dk _ _ e]at h2;exact g.live i b (at_ i e h1).1 h2
 ·have key:∀j,j≠id→eC (eC h cW none) id (some (.own ok y)) j≠none→ob (ψ j)=some b→ob v=some b→False:=fun j hj h5 h6 h7=>by
   obtain⟨h8,h9⟩:=at_ j hj h5;rcases vob b h7 with nG|nG
   ·exact h9 (g.apart j cW b h8 hold h6 nG)
   ·have:=g.bT ⟨j,h8,h6⟩;omega
  by_cases e:i=id<;>by_cases e':i'=id
  ·rw[e,e']
  ·subst e;rw[bA]at h3;rw[dk _ _ e']at h4;exact(key i' e' h2 h4 h3).elim
  ·subst e';rw[bA]at h4;rw[dk _ _ e]at h3;exact(key i e h1 h3 h4).elim
  ·rw[dk _ _ e]at h3;rw[dk _ _ e']at h4;exact g.apart i i' b (at_ i e h1).1 (at_ i' e' h2).1 h3 h4
def UH(w:World)(sz:Nat)(u:Value)(m:Nat)(news:List Value):Prop :=news.length=m*sz∧(∀q∈news,q.oneCell'=true)∧((u=.slice none 0 0∧m=0)∨∃a c,u=.slice (some a) m c∧∀(j:Nat) q,news[j]? = some q→w.cell? (a.add j)=some q)
theorem Fu{hh:Heap}(g:Good Z ψ hh.get w B0 O){x:AV}{u:Value}{k:K}{ys:List k.T}(hx:rowOf hh x k=some ys)(hr:aC Z ψ hh.get w x u):∃news,UH w k.sz u ys.length news∧nF Z w k ys news:=by
 rcases Nv g hx hr with⟨rfl,rfl⟩|⟨a,c,news,h1,_,h2,h3,h4,h5⟩
 ·exact⟨[],⟨by simp,by simp,.inl ⟨rfl,rfl⟩⟩,fun i x hx=>by simp at hx⟩
 ·exact⟨news,⟨h2,h4,.inr ⟨a,c,h1,h3⟩⟩,h5⟩
theorem fz{t ty e:TypeId}{i:TypeInfo}(ht:P.underlying t=some (.slice e))(hi:P.info? e=some i)(A:Option Addr)(n c:Nat)(hc:n≤c)(A':Option Addr)(c':Nat) :
  (Builtin.append_ #[t,t] ty #[.slice A n c,.slice A' 0 c']).run P w=.ok (.slice A n c) w:=by
 cases A<;>cases A'<;>simp[Builtin.append_,run_underlying ht,sizeOf,typeInfo,hi,Builtin.lenOf,Builtin.firstCells,hc,storeCells,loadCells,loadCellsFrom]
theorem dO{t ty e:TypeId}{k:K}{i:TypeInfo}{z:Value}(ht:P.underlying t=some (.slice e))(he:nJ P e k i z){v:Value}{n:Nat}{xs:List Value}(ho:eI w e k.sz v n xs) {u:Value} {m:Nat} {news:List Value} (hu:UH w k.sz u m news) (hm:n+m≤fk) :
  ∃v' w',(Builtin.append_ #[t,t] ty #[v,u]).run P w=.ok v' w'∧eI w' e k.sz v' (n+m) (xs++news)∧w.grownBy w' (ob v)∧(ob v'=ob v∨∀b,ob v'=some b→w.heap.size≤b):=by
 obtain⟨h1,h3,hu⟩:=hu;obtain⟨A0,c0,X1⟩:=ho.slice;by_cases hm0:m=0
 ·subst hm0;have aaq:news=[]:=adn (by rw[h1,Nat.zero_mul]);subst aaq;have yx:n≤c0:=by
   rcases ho.2 with⟨h0,A,e⟩|⟨g,cap,cur,e,hc,h2,h3,_⟩
   ·omega
   ·rw[X1]at e;cases e;exact h3
  refine⟨v,w,?_,by simpa using ho,World.grownBy.refl w _,.inl rfl⟩;subst X1;rcases hu with⟨rfl,_⟩|⟨a,c,rfl,_⟩<;>exact fz ht he.info A0 n c0 yx _ _
 ·rcases hu with⟨_,h0⟩|⟨a,c,rfl,h2⟩
  ·exact absurd h0 hm0
  have hb:=he.bytes;unfold fk at hm;have lR:(n+m)*i.bytes≤140737488355328:=adC (ae4 hm hb) (by decide);have new:∀v',w.heap.size≤w.heap.size→∀(w':World),w'.ownsRow w.heap.size e k.sz v' (n+m) (xs++news)→∀b,ob v'=some b→w.heap.size≤b:=fun v' _ w' nK b hb=>by
   rcases nK.2 with⟨rfl,_⟩|⟨g,cap,cur,rfl,h5,_⟩
   ·simp[ob]at hb
   ·simp only[ob]at hb
    split at hb
    ·cases hb
    ·cases hb;exact h5
  rcases ho.2 with⟨rfl,A,rfl⟩|⟨g,cap,cur,rfl,XZ,h4,h5,h6,h7,h8⟩
  ·have yy:xs=[]:=adn (by rw[ho.1,Nat.zero_mul]);subst yy;have mH:ob (.slice A 0 0)=none:=by cases A<;>simp[ob]
   cases A with
   |none =>obtain⟨v',w',hr,h4,h5,_,h6⟩:=run_append_own_at (P:=P) w w.heap.size t ty e i z k.sz i.bytes ht he.info he.zero he.size rfl he.uX k.iB (.slice none 0 0) 0 [] ⟨by simp,.inl ⟨rfl,rfl⟩⟩ a m c news h1 h2 h3 (by simp only[maxLen];omega) lR (ada _);exact⟨v',w',hr,eI.of h4,by rw[mH];exact h5,.inr (new v' (ada _) w' h4)⟩
   |some b0 =>obtain⟨v',w',hr,h4,h5⟩:=run_append_arg_grows (P:=P) w t ty e i z k.sz i.bytes ht he.info he.zero he.size rfl he.uX k.iB b0 0 0 [] (by simp) (by simp) a m c news h1 h2 (by omega) (by simp only[maxLen];omega) lR;exact⟨v',w',hr,eI.of h4,by rw[mH];exact h5,.inr (new v' (ada _) w' h4)⟩
  ·have tT:w.ownsRow 0 e k.sz (.slice (some ⟨g,0,none⟩) n cap) n xs:=⟨ho.1,.inr ⟨g,cap,cur,rfl,aeH _,h4,h5,h6,h7,h8⟩⟩;have mH:ob (.slice (some ⟨g,0,none⟩) n cap)=some g:=by simp only[ob];rw[if_neg (by omega)]
   obtain⟨v',w',hr,h4,h5,_,h6⟩:=run_append_own_at (P:=P) w 0 t ty e i z k.sz i.bytes ht he.info he.zero he.size rfl he.uX k.iB _ n xs tT a m c news h1 h2 h3 (by simp only[maxLen];omega) lR (aeH _);refine⟨v',w',hr,eI.of h4,by rw[mH];exact h5,?_⟩;rw[mH];rcases h4.2 with⟨rfl,h0⟩|⟨g',afx,jn,rfl,_,_,h9,_⟩
   ·omega
   ·have UI:ob (.slice (some ⟨g',0,none⟩) (n+m) afx)=some g':=by simp only[ob];rw[if_neg (by omega)]
    rw[UI];simp only[Value.ownBlock,Option.some.injEq]at h6;rcases h6 with h6|h6
    ·left;rw[h6]
    ·right;intro b hb;cases hb;omega
theorem aC.qA{h h':Hp}(hs:∀id o,h' id=some o→h id=some o){a:AV}{v:Value}(hr:aC Z ψ h w a v):aC Z ψ h' w a v :=hr.less (fun _ h=>h) (cz.refl _ _) (fun id bR=>by obtain⟨o,ho⟩:=acx.1 bR;exact⟨by rw[hs id o ho];simp,rfl⟩)
theorem aq.qA{h h':Hp}(hs:∀id o,h' id=some o→h id=some o){a:List AV}{v:List Value}(hr:aq Z ψ h w a v):aq Z ψ h' w a v :=hr.less (fun _ h=>h) (cz.refl _ _) (fun id bR=>by obtain⟨o,ho⟩:=acx.1 bR;exact⟨by rw[hs id o ho];simp,rfl⟩)
theorem qq{hh:Heap}(g:Good Z ψ h w B0 O)(bE:∀id o,hh.get id=some o→h id=some o)(hB:B0≤w.heap.size){id:Nat}(hN:N id){t ty e:TypeId}{k:K}{i:TypeInfo}{z:Value}(ht:P.underlying t=some (.slice e))(he:nJ P e k i z) {x:AV} {u:Value} {ys:List k.T} (hx:rowOf hh x k=some ys) (hr:aC Z ψ h w x u) (hm:ys.length≤fk) (bz:∀i ty cs,h i=some (.box ty cs)→aG (fun i=>i≠id) cs) :
  ∃v' w',(Builtin.append_ #[t,t] ty #[.slice none 0 0,u]).run P w=.ok v' w'∧Next Z ψ h w B0 O N Z (eC ψ id v') (eC h id (some (.own (.row e k) ys))) w'∧v'.cells=#[v']∧v'.oneCell'=true:=by
 obtain⟨news,wS,hv⟩:=Fu (g.sub bE) hx (hr.qA bE);have Hl:eI w e k.sz (.slice none 0 0) 0 []:=⟨by simp,.inl ⟨rfl,none,rfl⟩⟩;obtain⟨v',w',dB,h4,h5,h6⟩:=dO (ty:=ty) ht he Hl wS (by omega);have hg:w.grownBy w' none:=h5;have kk:dh ψ h w w':=dh.grown hg (fun b e=>by cases e);have sm:=kk.same g;refine⟨v',w',dB,qV g hB id e hN (vs:=news) kk (fun b hb=>hg.block b (g.bT hb) (by simp)) (by simpa using h4) (fun i x hx=>(hv i x hx).mono (fun _ h=>h) sm) (fun b hb=>?_) bz,h4.one⟩;rcases h6 with h6|h6
 ·rw[h6]at hb;simp[ob]at hb
 ·exact h6 b hb
theorem zx{hh:Heap}(g:Good Z ψ h w B0 O)(bE:∀id o,hh.get id=some o→h id=some o)(hB:B0≤w.heap.size){id cW:Nat}(hN:N id)(bw:cW≠id){t ty e:TypeId}{k:K}{i:TypeInfo}{z:Value}(ht:P.underlying t=some (.slice e))(he:nJ P e k i z) {xs:List k.T} (ho:h cW=some (.own (.row e k) xs)) {x:AV} {u:Value} {ys:List k.T} (hx:rowOf hh x k=some ys) (hr:aC Z ψ h w x u) (hm:xs.length+ys.length≤fk) (bz:∀i ty cs,h i=some (.box ty cs)→aG (fun i=>i≠id) cs) :
  ∃v' w',(Builtin.append_ #[t,t] ty #[ψ cW,u]).run P w=.ok v' w'∧Next Z ψ h w B0 O N Z (eC ψ id v') (eC (eC h cW none) id (some (.own (.row e k) (xs++ys)))) w'∧v'.cells=#[v']∧v'.oneCell'=true:=by
 obtain⟨news,wS,hv⟩:=Fu (g.sub bE) hx (hr.qA bE);obtain⟨vs,ho0,X1⟩:=g.row cW (.row e k) xs ho;obtain⟨v',w',dB,h4,h5,h6⟩:=dO (ty:=ty) ht he ho0 wS hm;have hold:h cW≠none:=by rw[ho];simp
 have kk:dh ψ h w w':=dh.grown h5 (fun b e=>⟨cW,hold,e⟩);have sm:=kk.same g;refine⟨v',w',dB,qW g hB id cW hN ho bw h5 (ok:=.row e k) (y:=xs++ys) ⟨_,by rw[List.length_append];exact h4,(X1.append hv ho0.1).Hj sm⟩ h6 bz,h4.one⟩
theorem AY{hh:Heap}(g:Good Z ψ h w B0 O)(bE:∀id o,hh.get id=some o→h id=some o)(hB:B0≤w.heap.size){id:Nat}(hN:N id){t ty e:TypeId}{k:K}{i:TypeInfo}{z:Value}(ht:P.underlying t=some (.slice e))(he:nJ P e k i z) {xs:List k.T} {v:Value} (hd:aC Z ψ h w (.sl true k xs) v) {x:AV} {u:Value} {ys:List k.T} (hx:rowOf hh x k=some ys) (hr:aC Z ψ h w x u) (Kh:0<ys.length∨xs=[]) (hm:xs.length+ys.length≤fk) (bz:∀i ty cs,h i=some (.box ty cs)→aG (fun i=>i≠id) cs) :
  ∃v' w',(Builtin.append_ #[t,t] ty #[v,u]).run P w=.ok v' w'∧Next Z ψ h w B0 O N Z (eC ψ id v') (eC h id (some (.own (.row e k) (xs++ys)))) w'∧v'.cells=#[v']∧v'.oneCell'=true:=by
 simp only[aC]at hd;obtain⟨hd,hex⟩:=hd;obtain⟨A,c,PB⟩:=hex trivial;rcases tS hd with⟨rfl,rfl⟩|⟨a,c',aar,h1,_,h2,h3,h4,h5⟩
 ·have:=qq (ty:=ty) (N:=N) g bE hB hN ht he hx hr (by omega) bz;simpa using this
 ·rw[h1]at PB;cases PB;obtain⟨news,⟨h6,h7,hu⟩,hv⟩:=Fu (g.sub bE) hx (hr.qA bE);by_cases hy0:ys.length=0
  ·have hy:ys=[]:=adn hy0;have yy:xs=[]:=Kh.resolve_left (by omega);subst yy;have Hl:eI w e k.sz (.slice (some a) 0 0) 0 []:=⟨by simp,.inl ⟨rfl,_,rfl⟩⟩;refine⟨v,w,?_,qV g hB id e hN (vs:=[]) (dh.refl _ _ _) (fun _ _=>rfl) (by rw[hy,h1];exact Hl) (fun i x hx=>by rw[hy]at hx;simp at hx) (fun b hb=>by rw[h1]at hb;simp[ob]at hb) bz,by rw[h1];exact Hl.one⟩;rw[h1];rw[hy0]at hu;rcases hu with⟨rfl,_⟩|⟨b,cu,rfl,_⟩<;>exact fz ht he.info _ _ _ (ada _) _ _
  rcases hu with⟨_,h0⟩|⟨b,cu,rfl,h8⟩
  ·omega
  ·have hb:=he.bytes;unfold fk at hm;have lR:(xs.length+ys.length)*i.bytes≤140737488355328:=adC (ae4 hm hb) (by decide);obtain⟨v',w',dB,h9,nG⟩:=run_append_arg_grows (P:=P) w t ty e i z k.sz i.bytes ht he.info he.zero he.size rfl he.uX k.iB a xs.length xs.length aar h2 h3 b ys.length cu news h6 h8 (by omega) (by simp only[maxLen];omega) lR;have kk:dh ψ h w w':=dh.grown nG (fun b e=>by cases e);have sm:=kk.same g;have h9':eI w' e k.sz v' (xs++ys).length (aar++news):=by rw[List.length_append];exact eI.of h9
   subst h1;refine⟨v',w',dB,qV g hB id e hN kk (fun b hb=>nG.block b (g.bT hb) (by simp)) h9' ((h5.append hv h2).Hj sm) (fun b hb=>?_) bz,h9'.one⟩;rcases h9.2 with⟨e1,_⟩|⟨gg,cap,cur,e1,e2,_⟩
   ·rw[e1]at hb;simp[ob]at hb
   ·rw[e1]at hb;simp only[ob]at hb
    split at hb
    ·cases hb
    ·cases hb;omega
theorem uY:∀(vs:List Value) (k off:Nat) (cells:Array Value),(vs.zipIdx k).foldl (fun cs (p:Value×Nat)=>cs.setIfInBounds (off+p.2) p.1) cells=(dZ cells.toList (off+k) vs).toArray
 |[],k,off,cells=>by simp[dZ]
 |v::r,k,off,cells=>by simp only[List.zipIdx_cons,List.foldl_cons,dZ];rw[uY r (k+1) off];simp[Nat.add_assoc]
theorem yz(V:Array Value)(off:Nat)(cells:Array Value) :
  V.zipIdx.foldl (fun cs (p:Value×Nat)=>cs.setIfInBounds (off+p.2) p.1) cells=(dZ cells.toList off V.toList).toArray:=by
 rw[←Array.foldl_toList,Array.toList_zipIdx];exact uY V.toList 0 off cells
theorem tc{α:Type}:∀(vs cs:List α) (off:Nat),(dZ cs off vs).length=cs.length
 |[],_,_=>rfl
 |v::r,cs,off=>by simp only[dZ];rw[tc r];simp
theorem aq.dZ:∀{vs cs:List AV} {us ds:List Value} (off:Nat),aq Z ψ h w vs us→aq Z ψ h w cs ds→aq Z ψ h w (dZ cs off vs) (dZ ds off us)
 |[],cs,us,ds,off,h1,h2=>by simp only[aq]at h1;subst h1;exact h2
 |v::r,cs,us,ds,off,h1,h2=>by simp only[aq]at h1;obtain⟨u,je,rfl,h3,h4⟩:=h1;simp only[Vs.dZ];exact aq.dZ (off+1) h4 (h2.set off h3)
theorem aC.cells{a:AV}{v:Value}(hk:a≠.no)(hr:aC Z ψ h w a v):aq Z ψ h w a.cells v.cells.toList:=by
 cases a with
 |no=>exact absurd rfl hk
 |agg cs=>simp only[aC]at hr;obtain⟨vs,rfl,hr⟩:=hr;simpa[AV.cells,Value.cells] using hr
 |bool b=>simp only[aC]at hr;subst hr;simp[AV.cells,Value.cells,aq,aC]
 |int k n=>simp only[aC]at hr;subst hr;simp[AV.cells,Value.cells,aq,aC]
 |str s=>simp only[aC]at hr;subst hr;simp[AV.cells,Value.cells,aq,aC]
 |lf=>simp only[aC]at hr;subst hr;simp[AV.cells,Value.cells,aq,aC]
 |gh=>simp only[aC]at hr;subst hr;simp[AV.cells,Value.cells,aq,aC]
 |ref id s i off=>obtain⟨a,rfl,h2⟩:=(by simpa only[aC] using hr:∃a,v=.pointer (some a)∧_);simp only[AV.cells,Value.cells,aq];exact⟨_,[],by simp,hr,rfl⟩
 |fp k x off=>obtain⟨a,us,rfl,h2⟩:=(by simpa only[aC] using hr:∃a us,v=.pointer (some a)∧_);simp only[AV.cells,Value.cells,aq];exact⟨_,[],by simp,hr,rfl⟩
 |sl ex k xs =>
  have rW:=hr;simp only[aC,aL]at rW;obtain⟨⟨v',hv,A,c,rfl,_⟩,_⟩:=rW
  cases hv
  simp only[AV.cells,Value.cells,aq];exact⟨_,[],by simp,hr,rfl⟩
 |bK id =>have rW:=hr;simp only[aC]at rW;obtain⟨⟨hc,_⟩,_⟩:=rW;simp only[AV.cells,aq,hc];exact⟨_,[],by simp,hr,rfl⟩
 |mp kk vk es =>
  have rW:=hr;simp only[aC,aL]at rW;obtain⟨A,hv,_⟩:=rW
  cases hv
  simp only[AV.cells,Value.cells,aq];exact⟨_,[],by simp,hr,rfl⟩
 |fn f cap =>have rW:=hr;simp only[aC]at rW;obtain⟨vs,rfl,_⟩:=rW;simp only[AV.cells,Value.cells,aq];exact⟨_,[],by simp,hr,rfl⟩
 |nu vs =>have rW:=hr;simp only[aC]at rW;obtain⟨us,rfl,_⟩:=rW;simp only[AV.cells,Value.cells,aq];exact⟨_,[],by simp,hr,rfl⟩
def td(Z:Nat→Prop)(ψ:Nat→Value)(h:Hp)(w:World):List (Nat×AV)→List (Nat×Value)→Prop
 |[],[]=>True
 |p::r,q::s=>p.1=q.1∧p.2≠.no∧aC Z ψ h w p.2 q.2∧td Z ψ h w r s
 |_,_=>False
theorem Hm{place:Nat→Option (Nat×Nat)}:∀{ps:List (Nat×AV)} {qs:List (Nat×Value)} {cs cs':List AV} {cells:Array Value},td Z ψ h w ps qs→aq Z ψ h w cs cells.toList→D2 place cs ps=some cs' → ∃fW,Instr.fill place cells qs=some fW∧aq Z ψ h w cs' fW.toList
 |[],[],cs,cs',cells,_,hr,hf=>by simp only[D2]at hf;cases hf;exact⟨cells,rfl,hr⟩
 |[],_::_,_,_,_,hp,_,_=>hp.elim
 |_::_,[],_,_,_,hp,_,_=>hp.elim
 |(i,a)::ps,(j,v)::qs,cs,cs',cells,hp,hr,hf=>by
  obtain⟨rfl,qX,hv,hp⟩:=hp;simp only[D2]at hf;simp only at qX hv;have PB:=hv.cells qX;have hl:=PB.length;have wF:=hr.length;simp only[Array.length_toList]at hl wF;simp only[Instr.fill]
  split at hf
  ·cases hf
  ·rename_i off size hpl;simp only[hpl]
   split at hf
   ·cases hf
   ·rename_i hc;have X2:a.cells.length=size:=Decidable.not_not.1 (fun e=>hc (.inl e));have o4:¬off+a.cells.length>cs.length:=fun e=>hc (.inr e);rw[if_neg (by simp only[Bool.or_eq_true,decide_eq_true_eq];omega)];refine Hm hp ?_ hf;rw[yz,List.toList_toArray];exact PB.dZ off hr
theorem P7(fs:Array Field)(hi:∀f∈fs.toList,∃i,P.info? f.type=some i):(fs.mapM fun f=>do pure (f.offset,←sizeOf f.type):Sem (Array (Nat×Nat))).run P w=.ok (fs.map fun f=>(f.offset,P.cellsOf f.type)) w:=by
 rw[←Array.toArray_toList (xs:=fs)];generalize fs.toList=l at hi;have key:∀(l:List Field) (acc:Array (Nat×Nat)),(∀f∈l,∃i,P.info? f.type=some i) →(l.foldlM (fun(bs:Array (Nat×Nat)) f=>do let y ←(do pure (f.offset,←sizeOf f.type):Sem (Nat×Nat));pure (bs.push y)) acc:Sem (Array (Nat×Nat))).run P w=.ok (acc++(l.map fun f=>(f.offset,P.cellsOf f.type)).toArray) w:=by
  intro l
  induction l with
  |nil=>intro acc _;simp
  |cons f r ih =>intro acc hl;obtain⟨i,hi⟩:=hl f (by simp);simp only[List.foldlM_cons,Sem.run_bind,dF hi,Result.andThen_ok,Sem.run_pure];rw[ih _ (fun f hf=>hl f (List.mem_cons_of_mem _ hf))];simp
 have:=key l #[] hi;simp only[Array.mapM_eq_foldlM,List.size_toArray,List.foldlM_toArray'];simpa using this
theorem Fv(v:Value):aC Z ψ h w (wJ v) v:=by
 cases v with
 |bool b=>simp only[wJ,aC]
 |int k n=>simp only[wJ,aC]
 |string s=>simp only[wJ,aC]
 |pointer a =>
  simp only[wJ];split
  ·rename_i e;subst e;simp only[aC]
  ·simp only[aC]
 |slice a n c =>
  simp only[wJ];split
  ·rename_i e;obtain⟨rfl,rfl,rfl⟩:=e;simp only[aC]
  ·simp only[aC]
 |func fn first cap =>
  cases fn with
  |func f =>
   simp only[wJ];split
   ·rename_i e;have h1:first=#[]:=aeK e.1
    have h2:cap=#[]:=aeK e.2;subst h1;subst h2;simp only[aC];exact⟨#[],rfl,by simp[aq]⟩
   ·simp only[aC]
  |_=>simp only[wJ,aC]
 |_=>simp only[wJ,aC]
theorem AZ:∀vs:List Value,aq Z ψ h w (vs.map wJ) vs
 |[]=>by simp[aq]
 |v::r=>by simp only[List.map_cons,aq];exact⟨v,r,rfl,Fv v,AZ r⟩
theorem Ho(v:Value):aC Z ψ h w (tL v) v:=by
 cases v with
 |agg cs=>simp only[tL,aC];exact⟨cs,rfl,AZ _⟩
 |_=>simp only[tL];exact Fv _
theorem D8(v:Value):(wJ v).cells=[wJ v]:=by
 cases v with
 |pointer a=>simp only[wJ];split<;>rfl
 |slice a n c=>simp only[wJ];split<;>rfl
 |func fn first cap =>
  cases fn with
  |func f=>simp only[wJ];split<;>rfl
  |_=>rfl
 |_=>rfl
theorem A1(v:Value):aq Z ψ h w (tL v).cells v.cells.toList:=by
 cases v with
 |agg cs=>simp only[tL,AV.cells,Value.cells];exact AZ _
 |_ =>simp only[tL];rw[D8];simp only[aq];exact⟨_,[],rfl,Fv _,rfl⟩
theorem po{t:TypeId}{zs:List AV}(hz:AG P t=some zs):∃i z,P.info? t=some i∧i.zero=some z∧zs=(tL z).cells∧∀u∈z.cells.toList,u.oneCell'=true:=by
 unfold AG at hz;obtain⟨i,hi,yC⟩:=adH.1 hz;obtain⟨z,Dt,JX⟩:=adH.1 yC
 split at JX
 ·rename_i eZ
  cases JX
  exact⟨i,z,hi,Dt,rfl,fun u hu=>adG.1 eZ u hu⟩
 ·cases JX
theorem uZ{t:TypeId}{i:TypeInfo}{z:Value}(hi:P.info? t=some i)(hz:i.zero=some z):(zeroValue t).run P w=.ok z w:=by simp[zeroValue,typeInfo,hi,hz]
theorem Nw{t:TypeId}{fs:Array Field}{zs cs:List AV}{ps:List (Nat×AV)}{qs:Array (Nat×Value)}(hz:AG P t=some zs)(ht:P.underlying t=some (.struct fs))(eZ:fs.toList.all (fun f=>(P.info? f.type).isSome)=true) (hp:td Z ψ h w ps qs.toList) (hf:D2 (fun i=>(fs[i]?).map fun f=>(f.offset,P.cellsOf f.type)) zs ps=some cs) :
  ∃V,(Instr.build t qs).run P w=.ok V w∧aC Z ψ h w (.agg cs) V:=by
 obtain⟨i,z,hi,hzz,rfl,_⟩:=po hz;obtain⟨fW,h1,h2⟩:=Hm hp (A1 z) hf;have hpl:=P7 (P:=P) (w:=w) fs (fun f hf=>adf.1 (adG.1 eZ f hf));refine⟨.agg fW,?_,by simp only[aC];exact⟨_,rfl,h2⟩⟩;have Uh:Instr.fill (fun x=>(fs.map fun f=>(f.offset,P.cellsOf f.type))[x]?) z.cells qs.toList=some fW:=by rw[←h1];congr 1;funext x;simp
 simp only[Instr.build,Sem.run_bind,uZ hi hzz,run_underlying ht,Result.andThen_ok,hpl,Uh];rfl
theorem Kl:∀(k:K) (cs:List AV) (x:k.T) (r:List AV),dec k cs=some (x,r)→cs.head?≠some .no
 |.int ik,cs,x,r,h,hc=>by
  cases cs with
  |nil=>simp at hc
  |cons a s=>simp at hc;subst hc;simp[dec,Fj]at h
 |.bool,cs,x,r,h,hc=>by
  cases cs with
  |nil=>simp at hc
  |cons a s=>simp at hc;subst hc;simp[dec,zP]at h
 |.str,cs,x,r,h,hc=>by
  cases cs with
  |nil=>simp at hc
  |cons a s=>simp at hc;subst hc;simp[dec,Fk]at h
 |.sl k,cs,x,r,h,hc=>by
  cases cs with
  |nil=>simp at hc
  |cons a s=>simp at hc;subst hc;simp[dec,LZ]at h
 |.pair a b,cs,x,r,h,hc=>by
  simp only[dec]at h
  split at h
  ·rename_i x1 r1 h1;exact Kl a cs x1 r1 h1 hc
  ·cases h
 |.one k,cs,x,r,h,hc=>by simp only[dec]at h;exact Kl k cs x r h hc
 |.mp kk vk,cs,x,r,h,hc=>by
  cases cs with
  |nil=>simp at hc
  |cons a s=>simp at hc;subst hc;simp[dec,L0]at h
theorem D9{k:K}{hh:Heap}{a:AV}{x:k.T}(h:dz k (a.cells.map (cQ hh))=some x):a≠.no:=by
 rintro rfl;unfold dz at h
 split at h
 ·rename_i x' h1;exact Kl k _ _ _ h1 (by simp[AV.cells,cQ])
 ·cases h
theorem Hq{k:K}{hh:Heap}(g:Good Z ψ hh.get w B0 O)(hz:∀b,Z b→Z' b):∀{ps:List (Nat×AV)} {qs:List (Nat×Value)} {xs:List k.T} {i:Nat} {cells:Array Value},(∀p∈ps,∀id b,AV.bK id∈p.2.cells→hh.get id≠none→ob (ψ id)=some b→Z' b)→td Z ψ hh.get w ps qs→qN k hh i ps=some xs→(i+ps.length)*k.sz≤cells.size → ∃fW flat,Instr.fill (fun i=>some (i*k.sz,k.sz)) cells qs=some fW∧fW.toList=cells.toList.take (i*k.sz)++flat++cells.toList.drop ((i+ps.length)*k.sz)∧flat.length=ps.length*k.sz∧nF Z' w k xs flat∧(∀q∈flat,q.oneCell'=true)∧xs.length=ps.length
 |[],[],xs,i,cells,_,_,hl,_=>by simp only[qN]at hl;cases hl;exact⟨cells,[],rfl,by simp,by simp,fun i x hx=>by simp at hx,by simp,rfl⟩
 |[],_::_,_,_,_,_,hp,_,_=>hp.elim
 |_::_,[],_,_,_,_,hp,_,_=>hp.elim
 |(j,a)::ps,(j',v)::qs,xs,i,cells,hb,hp,hl,hs=>by
  obtain⟨hjj,qX,hv,hp⟩:=hp;simp only at hjj qX hv;subst hjj;simp only[qN]at hl
  split at hl
  ·rename_i e;subst e
   split at hl
   ·rename_i y ys h1 h2
    cases hl
    simp only[List.length_cons]at hs;have PB:=hv.cells qX;have hvw:=om g hz (hb (j,a) (by simp)) PB;have hk:=dN h1 hvw;have P8:=hk.len;rw[Array.length_toList]at P8;have jf:j*k.sz+k.sz≤cells.size:=by have:(j+1)*k.sz≤(j+(ps.length+1))*k.sz:=adA _ (by omega);rw[Nat.succ_mul]at this;omega
    simp only[Instr.fill];rw[if_neg (by simp only[Bool.or_eq_true,decide_eq_true_eq];omega),yz];obtain⟨fW,flat,h3,h4,h5,h6,h7,h8⟩:=Hq g hz (ps:=ps) (qs:=qs) (xs:=ys) (i:=j+1) (cells:=(dZ cells.toList (j*k.sz) v.cells.toList).toArray) (fun p hp=>hb p (aaY _ hp)) hp h2 (by rw[List.size_toArray,tc];have e9:cells.toList.length=cells.size:=Array.length_toList;rw[e9,show j+1+ps.length=j+(ps.length+1) by omega];exact hs);refine⟨fW,v.cells.toList++flat,h3,?_,?_,?_,?_,by simp[h8]⟩
    ·rw[h4,List.toList_toArray,rX _ _ _ (by rw[Array.length_toList,Array.length_toList];omega)];have e1:(j+1)*k.sz=j*k.sz+k.sz:=ae2 _ _;have e2:(j+1+ps.length)*k.sz=(j+(ps.length+1))*k.sz:=by congr 1;omega
     rw[List.length_cons,e1,e2];have l1:(cells.toList.take (j*k.sz)++v.cells.toList).length=j*k.sz+k.sz:=by rw[List.length_append,List.length_take,Array.length_toList,Array.length_toList];omega
     rw[←l1,List.take_left];have l2:(j+(ps.length+1))*k.sz=(cells.toList.take (j*k.sz)++v.cells.toList).length+(ps.length*k.sz):=by rw[l1,Nat.add_mul,Nat.add_mul];omega
     have hd:(cells.toList.take (j*k.sz)++v.cells.toList++cells.toList.drop (j*k.sz+v.cells.toList.length)).drop ((j+(ps.length+1))*k.sz)=cells.toList.drop ((j+(ps.length+1))*k.sz):=by rw[l2,List.drop_append,List.drop_eq_nil_of_le (by omega),List.nil_append,Nat.add_sub_cancel_left,List.drop_drop];congr 1;rw[l1,Array.length_toList];omega
     rw[hd];simp[List.append_assoc]
    ·rw[List.length_append,h5,Array.length_toList,P8,List.length_cons,Nat.succ_mul];omega
    ·intro n x hx
     cases n with
     |zero =>
      simp only[List.getElem?_cons_zero,Option.some.injEq]at hx;subst hx;have X3:v.cells.toList.length=k.sz:=by rw[Array.length_toList];exact P8
      rw[Nat.zero_mul,List.drop_zero,←X3,List.take_left];exact hk
     |succ n =>
      have:=h6 n x (by simpa using hx);have X3:v.cells.toList.length=k.sz:=by rw[Array.length_toList];exact P8
      have e:(n+1)*k.sz=v.cells.toList.length+n*k.sz:=by rw[X3,Nat.succ_mul];omega
      rw[e,List.drop_append,List.drop_eq_nil_of_le (by omega),List.nil_append,Nat.add_sub_cancel_left];exact this
    ·intro q hq;rcases acw.1 hq with hq|hq
     ·exact hk.one q hq
     ·exact h7 q hq
   ·cases hl
  ·cases hl
theorem Next.drop{Z1:Nat→Prop}{h1:Hp}(n:Next Z1 ψ h1 w B0 O N Z' ψ' h' w')(hz:∀b,Z b→Z1 b)(yC:∀b,Z1 b→Z b∨Own ψ h b)(bE:∀id o,h1 id=some o→h id=some o):Next Z ψ h w B0 O N Z' ψ' h' w':=by
 have hn:∀id,h1 id≠none→h id≠none:=fun id hn=>by obtain⟨o,ho⟩:=acx.1 hn;rw[bE id o ho];simp
 have ho:∀b,Own ψ h1 b→Own ψ h b:=fun b ⟨id,h2,h3⟩=>⟨id,hn id h2,h3⟩;refine⟨fun b hb=>n.fV b (hz b hb),fun b hb=>?_,⟨n.keep.os,n.keep.tape,n.keep.output,n.keep.size,fun b hb qX=>n.keep.block b hb (fun h=>qX (ho b h))⟩,fun id bR=>(n.ids id bR).imp (fun⟨h2,h3⟩=>⟨hn id h2,h3⟩) (fun h=>h),n.ed⟩;rcases n.eR b hb with h2|h2|h2
 ·exact(yC b h2).imp (fun h=>h) (fun h=>.inl h)
 ·exact .inr (.inl (ho b h2))
 ·exact .inr (.inr h2)
theorem td.qA{h h':Hp}(hs:∀id o,h' id=some o→h id=some o):∀{ps:List (Nat×AV)} {qs:List (Nat×Value)},td Z ψ h w ps qs→td Z ψ h' w ps qs:=by
 intro ps
 induction ps with
 |nil=>intro qs hp;cases qs with
  |nil=>trivial
  |cons q r=>exact hp.elim
 |cons p r ih=>intro qs hp;cases qs with
  |nil=>exact hp.elim
  |cons q s=>exact⟨hp.1,hp.2.1,hp.2.2.1.qA hs,ih hp.2.2.2⟩
theorem Hr{hh:Heap}{Z1:Nat→Prop}(g:Good Z1 ψ h w B0 O)(g0:Good Z ψ hh.get w B0 O)(hz:∀b,Z b→Z1 b)(hB:B0≤w.heap.size){id:Nat}(hN:N id){t e:TypeId}{k:K}{i:TypeInfo}{z:Value}(ht:P.underlying t=some (.slice e))(he:nJ P e k i z) {ps:List (Nat×AV)} {qs:Array (Nat×Value)} {xs:List k.T} (PC:∀p∈ps,∀id b,AV.bK id∈p.2.cells→hh.get id≠none→ob (ψ id)=some b→Z1 b) (hp:td Z ψ hh.get w ps qs.toList) (hl:qN k hh 0 ps=some xs) (hn:ps.length*k.sz≤1048576) (bz:∀i ty cs,h i=some (.box ty cs)→aG (fun i=>i≠id) cs) :
  ∃v' w',(Instr.buildSlice t ps.length qs).run P w=.ok v' w'∧Next Z1 ψ h w B0 O N Z1 (eC ψ id v') (eC h id (some (.own (.row e k) xs))) w'∧(v'.cells=#[v']∧v'.oneCell'=true)∧(∀b,Own ψ h b→w'.heap[b]? = w.heap[b]?)∧(∀b,ob v'=some b→w.heap.size≤b)∧∃A c,v'=.slice A c c:=by
 let Hs:Array Value:=(Array.range (ps.length*k.sz)).map (z.cells[· % z.cells.size]!)
 have zy:Hs.size=ps.length*k.sz:=by simp[Hs]
 obtain⟨fW,flat,h1,h2,h3,h4,h5,h6⟩:=Hq (Z':=Z1) g0 hz (ps:=ps) (qs:=qs.toList) (xs:=xs) (i:=0) (cells:=Hs) PC hp hl (by rw[Nat.zero_add,zy];exact ada _);have WD:fW.toList=flat:=by rw[h2,Nat.zero_mul,List.take_zero,List.nil_append,Nat.zero_add,List.drop_eq_nil_of_le (by rw[Array.length_toList,zy];exact Nat.le_refl _),List.append_nil]
 have Nx:fW.size=ps.length*k.sz:=by rw[←Array.length_toList,WD];exact h3
 have Kh:=k.iB;have hlen:ps.length≤1048576:=adC (Nat.le_mul_of_pos_right _ Kh) hn;have tT:(w.alloc (.cells fW e)).ownsRow 0 e k.sz (.slice (some ⟨w.heap.size,0,none⟩) ps.length ps.length) xs.length flat:=by have:=World.ownsRow_lit (base:=0) (e:=e) (size:=k.sz) w fW ps.length (aeH _) (by simp only[maxLen];omega) Nx;rw[h6,←WD];exact this
 refine⟨.slice (some ⟨w.heap.size,0,none⟩) ps.length ps.length,w.alloc (.cells fW e),?_,qV g hB id e hN (vs:=flat) (dh.alloc _ _ _ _) (fun b hb=>heap_alloc_old w _ (g.bT hb)) (eI.of tT) (h4.Hj ((dh.alloc ψ h w _).same g)) (fun b hb=>by simp only[ob]at hb;split at hb<;>cases hb;exact ada _) bz,(eI.of tT).one,fun b hb=>heap_alloc_old w _ (g.bT hb),fun b hb=>by simp only[ob]at hb;split at hb<;>cases hb;exact ada _,_,_,rfl⟩
 ·show _=Result.ok (Value.slice (some ⟨w.heap.size,0,none⟩) ps.length ps.length) _;have A2:¬ps.length*k.sz>2 ^ 24:=by omega
  have hc:P.cellsOf e=k.sz:=by simp[Program.cellsOf,he.info,he.size]
  simp only[Instr.buildSlice,Sem.run_bind,run_underlying ht,Result.andThen_ok,dF he.info,hc];rw[if_neg A2];have DD:(newRow e fW).run P w=.ok ⟨w.heap.size,0,none⟩ (w.alloc (.cells fW e)):=rfl;by_cases h0:ps.length*k.sz=0
  ·have UJ:Hs=#[]:=aeK (by rw[zy,h0]);have yC:(Array.range (ps.length*k.sz)).map (fun x=>(#[]:Array Value)[x%(#[]:Array Value).size]!)=#[]:=aeK (by simp[h0]);rw[if_pos h0];rw[UJ]at h1;simp only[Sem.run_pure,Result.andThen_ok,yC,h1,Sem.run_bind,DD]
  ·rw[if_neg h0];simp only[Sem.run_bind,uZ he.info he.zero,Result.andThen_ok,Sem.run_pure];rw[show(Array.range (ps.length*k.sz)).map (fun x=>z.cells[x%z.cells.size]!)=Hs from rfl,h1];simp only[Sem.run_bind,DD,Result.andThen_ok,Sem.run_pure]
theorem P9(g:Good Z ψ h w B0 O)(hB:B0≤w.heap.size){id:Nat}{e:TypeId}{k:K}{xs:List k.T}{v':Value}(n:Next Z ψ h w B0 O N Z (eC ψ id v') (eC h id (some (.own (.row e k) xs))) w') (s8:∀b,Own ψ h b→w'.heap[b]? = w.heap[b]?) (DD:∀b,ob v'=some b→w.heap.size≤b) (hex:∃A c,v'=.slice A c c) :
  Next Z ψ h w B0 O N (fun b=>Z b∨ob v'=some b) ψ h w'∧aC (fun b=>Z b∨ob v'=some b) ψ h w' (.sl true k xs) v':=by
 have oo:jI Z w' (.row e k) v' xs:=by
  have:=n.ed.row id (.row e k) xs (bA _ _ _)
  rwa [bA]at this
 obtain⟨vs,ho,hv⟩:=oo;have m:Next Z ψ h w B0 O (fun _=>False) Z ψ h w':=g.more n.keep s8 (fun _ _=>⟨rfl,rfl⟩) (fun i ty cs hb=>by
  have e:(fun _:Nat=>¬False)=fun _=>True:=by funext i;simp
  rw[e];exact aG.top cs) (fun _ _ _ h=>h.elim) (fun _ _ _ h=>h.elim) (fun _ _ h=>h.elim) (fun _ _ _ h=>h.elim) hB
 have hz:∀b,Z b→Z b∨ob v'=some b:=fun b h=>.inl h;refine⟨⟨hz,fun b hb=>hb.imp (fun h=>h) fun h=>.inr (DD b h),m.keep,fun i hi=>.inl ((m.ids i hi).resolve_right (fun h=>h)),⟨fun i ty cs hb=>?_,fun i ok x hb=>?_,fun i b h1 h2=>?_,m.ed.apart,fun b hb=>?_⟩⟩,?_⟩
 ·obtain⟨gg,vs,f1,f2,f3,f4⟩:=m.ed.box i ty cs hb;exact⟨gg,vs,f1,f2,aq.less hz (cz.refl _ _) (fun _ h=>⟨h,rfl⟩) f3,f4⟩
 ·exact(m.ed.row i ok x hb).kept hz (cz.refl _ _) (fun _ _=>rfl)
 ·obtain⟨k1,k2⟩:=m.ed.live i b h1 h2;refine⟨fun hb=>hb.elim k1 fun hb=>?_,k2⟩;have:=g.bT ⟨i,h1,h2⟩;have:=DD b hb;omega
 ·rcases hb with hb|hb
  ·exact m.ed.jP b hb
  ·exact jI.lt (ok:=.row e k) ⟨vs,ho,hv⟩ hb
 ·simp only[aC];exact⟨uV ho hv (fun b h=>.inl h) (fun b h=>.inr h),fun _=>hex⟩
end Go.Vs
