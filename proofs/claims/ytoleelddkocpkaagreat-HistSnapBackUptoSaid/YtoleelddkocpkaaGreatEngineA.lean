/- The value semantics of the -/
import Derived.Control
import Derived.Calls
import Derived.Orders
import GoSem.Machine.Frame
import Derived.Laws.AppendOwn
import GoSem.Core.Utf8
import Derived.Below
import Derived.Laws.OwnMore
import Derived.Laws.Rows
import Derived.Deep.Draws
import Derived.Laws.CopyRow
import Derived.Laws.Cells
import Derived.Laws.Sem
import Derived.Maps.AppendAt
import Derived.ArgAppend
import Derived.WalkKit
set_option linter.unusedVariables false
set_option linter.unusedSimpArgs false
namespace Go
abbrev aa8:=@List.getElem?_eq_getElem
abbrev abA:=@List.mem_cons_of_mem
abbrev abC:=@List.getElem?_eq_some_iff
abbrev abD:=@List.mem_cons
abbrev abL:=@List.mem_append_right
abbrev abM:=@List.mem_append_left
abbrev abR:=@Array.getElem?_eq_some_iff
abbrev abS:=@Option.ne_none_iff_exists'
abbrev abY:=@List.eq_nil_of_length_eq_zero
abbrev ab1:=@List.nodup_cons
abbrev ab4:=@List.mem_cons_self
abbrev ab6:=@List.mem_append
abbrev acd:=@Nat.mul_le_mul_right
abbrev acf:=@Nat.le_refl
abbrev acn:=@List.mem_map
abbrev acu:=@Option.isSome_iff_exists
abbrev acw:=@Array.getElem?_eq_getElem
abbrev acE:=@Nat.le_trans
abbrev acI:=@List.mem_of_getElem?
abbrev acM:=@List.rel_of_pairwise_cons
abbrev acP:=@Option.some.inj
abbrev acV:=@List.getElem_mem
abbrev adj:=@Option.map_eq_some_iff
abbrev ado:=@Option.bind_eq_some_iff
abbrev adp:=@List.all_eq_true
abbrev adq:=@List.mem_of_find?_eq_some
abbrev adr:=@List.mem_range
abbrev ads:=@Nat.lt_of_lt_of_le
abbrev adt:=@List.append_of_mem
abbrev adu:=@List.drop_eq_getElem_cons
abbrev adv:=@List.mem_flatten
abbrev adw:=@List.nodup_append
abbrev adx:=@Nat.zero_le
abbrev ady:=@List.Perm.append_right
abbrev adz:=@List.ext_getElem?
abbrev adA:=@List.length_filter_le
abbrev adB:=@Array.all_eq_true_iff_forall_mem
abbrev adC:=@List.getElem?_of_mem
abbrev adD:=@List.countP_le_length
abbrev adE:=@List.mem_filter
abbrev adF:=@List.drop_eq_nil_of_le
abbrev adG:=@List.find?_some
abbrev adH:=@Array.mem_of_getElem?
abbrev adI:=@List.cons.inj
abbrev adJ:=@Nat.mod_lt
abbrev adK:=@List.mem_of_mem_drop
abbrev adL:=@List.pairwise_iff_getElem
abbrev adM:=@List.findIdx?_eq_some_iff_getElem
abbrev adN:=@List.getElem_of_mem
abbrev adO:=@Array.eq_empty_of_size_eq_zero
abbrev adP:=@List.ne_nil_of_mem
abbrev adQ:=@List.take_of_length_le
abbrev adR:=@List.Perm.refl
abbrev adV:=@List.Pairwise.of_cons
abbrev adW:=@List.mem_of_mem_erase
abbrev adX:=@List.mem_erase_of_ne
abbrev ad5:=@Nat.succ_mul
abbrev aeg:=@List.mem_filterMap
abbrev aek:=@Nat.mul_le_mul
end Go
namespace Go.Vs
inductive K where
 |int (k:IntKind)|bool|str|sl (k:K)|pair (a b:K)|one (k:K)|mp (kk vk:K)|fn (f:Nat)
 deriving DecidableEq
def K.T:K→Type
 |.int _=>Int
 |.bool=>Bool
 |.str=>ByteArray
 |.sl k=>List k.T
 |.pair a b=>a.T×b.T
 |.one k=>k.T
 |.mp kk vk=>List (kk.T×vk.T)
 |.fn _=>Unit
def K.sz:K→Nat
 |.pair a b=>a.sz+b.sz
 |.one k=>k.sz
 |_=>1
def qy(P:Program):Nat→TypeId→Option K
 |0,_=>none
 |d+1,t =>
  match P.underlying t with
  |some (.int k)=>some (.int k)
  |some .bool=>some .bool
  |some .string=>some .str
  |some (.slice e)=>(qy P d e).map .sl
  |some (.map a b)=>match qy P d a,qy P d b with
   |some x,some y=>some (.mp x y)
   |_,_=>none
  |some (.struct fs) =>
   match (fs.toList.map fun f=>qy P d f.type).reverse with
   |[]=>none
   |[k]=>k.map .one
   |last::rest=>rest.foldl (fun acc k=>match k,acc with|some k,some a=>some (.pair k a)|_,_=>none) last
  |_=>none
def K.flat:K→Bool
 |.sl _=>false
 |.mp _ _=>false
 |.fn _=>false
 |.pair a b=>a.flat&&b.flat
 |.one k=>k.flat
 |_=>true
def K.isAgg:K→Bool
 |.pair _ _=>true
 |.one _=>true
 |_=>false
inductive AV where
 |no
 |bool (b:Bool)
 |int (k:IntKind) (n:Int)
 |str (s:ByteArray)
 |mg
 |gh
 |ref (id s i off:Nat)
 |fp (k:K) (x:k.T) (off:Nat)
 |sl (ex:Bool) (k:K) (xs:List k.T)
 |mp (kk vk:K) (es:List (kk.T×vk.T))
 |bN (id:Nat)
 |fn (f:FuncId) (cap:List AV)
 |agg (cs:List AV)
 |oG (vs:List AV)
def AV.isAgg:AV→Bool
 |.agg _=>true
 |_=>false
def AV.cells:AV→List AV
 |.agg cs=>cs
 |v=>[v]
def enc:(k:K)→k.T→List AV
 |.int ik,n=>[.int ik n]
 |.bool,b=>[.bool b]
 |.str,s=>[.str s]
 |.sl k,xs=>[.sl false k xs]
 |.mp kk vk,es=>[.mp kk vk es]
 |.fn f,_=>[.fn f []]
 |.pair a b,x=>enc a x.1++enc b x.2
 |.one k,x=>enc k x
def HS(ik:IntKind):List AV→Option (Int×List AV)
 |.int ik' n::r=>if ik'=ik then some (n,r) else none
 |_=>none
def BD:List AV→Option (Bool×List AV)
 |.bool b::r=>some (b,r)
 |_=>none
def HT:List AV→Option (ByteArray×List AV)
 |.str s::r=>some (s,r)
 |_=>none
def OE(k:K):List AV→Option (List k.T×List AV)
 |.sl _ k' xs::r=>if h:k'=k then some (h▸xs,r) else none
 |.gh::r=>some ([],r)
 |_=>none
def OF(kk vk:K):List AV→Option (List (kk.T×vk.T)×List AV)
 |.mp OG X8 es::r=>if h:OG=kk∧X8=vk then some (h.1▸h.2▸es,r) else none
 |_=>none
def OH(f:FuncId):List AV→Option (Unit×List AV)
 |.fn f' []::r=>if f'=f then some ((),r) else none
 |_=>none
def dec:(k:K)→List AV→Option (k.T×List AV)
 |.int ik,cs=>HS ik cs
 |.bool,cs=>BD cs
 |.str,cs=>HT cs
 |.sl k,cs=>OE k cs
 |.mp kk vk,cs=>OF kk vk cs
 |.fn f,cs=>OH f cs
 |.pair a b,cs =>
  match dec a cs with
  |some (x,r)=>match dec b r with
   |some (y,r')=>some ((x,y),r')
   |none=>none
  |none=>none
 |.one k,cs=>dec k cs
def dz(k:K)(cs:List AV):Option k.T :=match dec k cs with
 |some (x,[])=>some x
 |_=>none
def b6:(k:K)→k.T→AV
 |.pair a b,x=>.agg (enc (.pair a b) x)
 |.one k,x=>.agg (enc (.one k) x)
 |.int ik,n=>.int ik n
 |.bool,b=>.bool b
 |.str,s=>.str s
 |.sl k,xs=>.sl false k xs
 |.mp kk vk,es=>.mp kk vk es
 |.fn f,_=>.fn f []
inductive OK where
 |row (ty:TypeId) (k:K)|map (kk vk:K)|iter (kk vk:K)|oZ
 deriving DecidableEq
abbrev OK.T:OK→Type
 |.row _ k=>List k.T
 |.map kk vk=>List (kk.T×vk.T)
 |.iter kk vk=>Option (kk.T×vk.T)×List (kk.T×vk.T)
 |.oZ=>ByteArray×Nat
inductive Ob where
 |box (ty:TypeId) (cs:List AV)
 |own (ok:OK) (x:ok.T)
abbrev Heap:=List (Nat×Ob)
def Heap.get:Heap→Nat→Option Ob
 |[],_=>none
 |(i,o)::r,n=>if i=n then some o else Heap.get r n
def Heap.del:Heap→Nat→Heap
 |[],_=>[]
 |(i,o)::r,n=>if i=n then Heap.del r n else(i,o)::Heap.del r n
def Heap.set(h:Heap)(n:Nat)(o:Ob):Heap:=(n,o)::h.del n
def c9(h:Heap):AV→AV
 |.bN id=>match h.get id with
  |some (.own (.row _ k) xs)=>.sl false k xs
  |some (.own (.map kk vk) es)=>.mp kk vk es
  |_=>.no
 |v=>v
def drop1(h:Heap):AV→Heap
 |.bN id=>h.del id
 |_=>h
def cS(h:Heap):List AV→Heap
 |[]=>h
 |c::r=>cS (drop1 h c) r
structure St where
 tmps:List (Nat×AV)
 heap:Heap
def look:List (Nat×AV)→Nat→AV
 |[],_=>.no
 |(i,v)::r,n=>if i=n then v else look r n
def St.put(s:St)(d:Option Tmp)(v:AV):St :=match d with
 |some d=>{ s with tmps:=(d,v)::s.tmps }
 |none=>s
def yG:Value→AV
 |.bool b=>.bool b
 |.int k n=>.int k n
 |.string s=>.str s
 |.pointer a=>if a=none then .mg else .no
 |.slice a n c=>if a=none∧n=0∧c=0 then .gh else .no
 |.func fn first cap=>match fn with
  |.func f=>if first.size=0∧cap.size=0 then .fn f [] else .no
  |_=>.no
 |_=>.no
def vL(v:Value):AV :=match v with
 |.agg cs=>.agg (cs.toList.map yG)
 |v=>yG v
def ρ(s:List (Nat×AV)):Operand→AV
 |.tmp t=>look s t
 |.const v=>vL v
 |.global _=>.no
 |.func f=>.fn f []
inductive bF where
 |val (v:AV)
 |new (v:AV) (os:Heap)
 |wr (v:AV) (h:Heap)
def bF.v:bF→AV
 |.val v=>v
 |.new v _=>v
 |.wr v _=>v
def bF.h(h:Heap):bF→Heap
 |.val _=>h
 |.new _ os=>os++h
 |.wr _ h'=>h'
inductive CK where
 |val (k:K)
 |own (ok:OK)
inductive PK where
 |val (k:K)
 |ref
 |own
 |wN (f:FuncId) (n:Nat)
 |agg (n:Nat)
inductive RK where
 |val (k:K)
 |own (ok:OK)
 |fz (b:Nat) (alts:List (Nat×Nat×Nat))
 |agg (c:List CK)
inductive BK where
 |box (ty:TypeId) (dV:List CK)
 |own (ok:OK)
def BK.dV:BK→List CK
 |.box _ c=>c
 |.own _=>[]
def CK.T:CK→Type
 |.val k=>k.T
 |.own ok=>ok.T
def ss:List CK→Type
 |[]=>Unit
 |c::r=>c.T×ss r
abbrev BK.T:BK→Type
 |.box _ c=>ss c
 |.own ok=>ok.T
def Aq:List BK→Type
 |[]=>Unit
 |b::r=>b.T×Aq r
def JK:List K→Type
 |[]=>Unit
 |k::r=>k.T×JK r
def RK.T:RK→Type
 |.val k=>k.T
 |.own ok=>ok.T
 |.fz _ alts=>Option (Fin alts.length×Nat)
 |.agg c=>ss c
def mJ:List RK→Type
 |[]=>Unit
 |r::l=>r.T×mJ l
def lZ:List PK→List K
 |[]=>[]
 |.val k::r=>k::lZ r
 |_::r=>lZ r
structure aO where
 ps:List PK
 bs:List BK
 rs:List RK
 x:Option (Heap→Nat→List AV→Option (Bool×bF)):=none
abbrev aO.A(g:aO):Type:=JK (lZ g.ps)×Aq g.bs
abbrev aO.B(g:aO):Type:=mJ g.rs×Aq g.bs
def RK.plain:RK→Bool
 |.val _=>true
 |.own ..=>true
 |.fz ..=>false
 |.agg c=>decide (c.length≤16)
def RK.flat:RK→Bool
 |.val k=>k.flat
 |.own (.row _ k)=>k.flat
 |.own _=>false
 |.fz ..=>true
 |.agg _=>false
section
variable (P:Program)
def ML:TypeDesc→Bool
 |.struct _=>true
 |.array _ _=>true
 |_=>false
def Gh(t:TypeId):Option Bool:=(P.underlying t).map ML
def ir(t:TypeId)(f:Nat):Option (Nat×TypeId) :=match P.underlying t with
 |some (.struct fs)=>(fs[f]?).map fun x=>(x.offset,x.type)
 |_=>none
def su(t:TypeId):Option TypeId :=match P.underlying t with
 |some (.slice e)=>some e
 |_=>none
def Ch(t:TypeId):Option (List AV):=(P.info? t).bind fun i=>i.zero.bind fun z=>if z.cells.toList.all (·.oneCell') then some (vL z).cells else none
def eO(t:TypeId)(cs:List AV):Option AV :=match Gh P t with
 |some true=>if P.cellsOf t≤cs.length then some (.agg (cs.take (P.cellsOf t))) else none
 |some false=>match cs with
  |c::_=>some c
  |[]=>none
 |none=>none
def eL{α:Type}(cs:List α):Nat→List α→List α
 |_,[]=>cs
 |off,v::r=>eL (cs.set off v) (off+1) r
def Gi(place:Nat→Option (Nat×Nat))(cs:List AV):List (Nat×AV)→Option (List AV)
 |[]=>some cs
 |(i,v)::r =>
  match place i with
  |none=>none
  |some (off,size)=>if v.cells.length≠size∨off+v.cells.length>cs.length then none else Gi place (eL cs off v.cells) r
def cH(op:BinOp)(k:IntKind)(a b:Int):Int :=k.wrap ((match op with
  |.and=>BitVec.ofInt k.bits a &&& BitVec.ofInt k.bits b
  |.or=>BitVec.ofInt k.bits a ||| BitVec.ofInt k.bits b
  |.xor=>BitVec.ofInt k.bits a ^^^ BitVec.ofInt k.bits b
  |_=>BitVec.ofInt k.bits a &&& ~~~(BitVec.ofInt k.bits b)).toNat:Int)
def Bl(k:IntKind)(a b:Int):Int:=k.wrap (a*2 ^ (min b.toNat k.bits))
def iu(k:IntKind)(a b:Int):Int:=a.fdiv (2 ^ (min b.toNat k.bits))
def abr(op:BinOp)(k:IntKind)(a b:Int):Option AV :=match op with
 |.add=>some (.int k (k.wrap (a+b)))
 |.sub=>some (.int k (k.wrap (a-b)))
 |.mul=>some (.int k (k.wrap (a*b)))
 |.eql=>some (.bool (a==b))
 |.neq=>some (.bool (a != b))
 |.lss=>some (.bool (decide (a<b)))
 |.leq=>some (.bool (decide (a≤b)))
 |.gtr=>some (.bool (decide (a>b)))
 |.geq=>some (.bool (decide (a≥b)))
 |.and=>some (.int k (cH .and k a b))
 |.or=>some (.int k (cH .or k a b))
 |.xor=>some (.int k (cH .xor k a b))
 |.andNot=>some (.int k (cH .andNot k a b))
 |_=>none
def adS(op:BinOp)(a b:ByteArray):Option AV :=match op with
 |.eql=>some (.bool (a==b))
 |.neq=>some (.bool (!(a==b)))
 |_=>none
def tH:(k:K)→k.T→k.T→Bool
 |.int _,x,y=>(show Int from x)==y
 |.bool,x,y=>(show Bool from x)==y
 |.str,x,y=>(show ByteArray from x)==y
 |.sl _,_,_=>false
 |.mp _ _,_,_=>false
 |.fn _,_,_=>false
 |.pair a b,x,y=>tH a x.1 y.1&&tH b x.2 y.2
 |.one k,x,y=>tH k x y
def sw(kk:K){α:Type}(x:kk.T)(es:List (kk.T×α)):Option Nat:=es.findIdx? fun e=>tH kk x e.1
def fM(kk:K){α:Type}(x:kk.T)(es:List (kk.T×α)):Option α:=(sw kk x es).bind fun i=>(es[i]?).map (·.2)
def jN(kk:K){α:Type}(x:kk.T)(v:α)(es:List (kk.T×α)):List (kk.T×α):=match sw kk x es with
 |some i=>es.set i (x,v)
 |none=>es++[(x,v)]
def HU(kk:K){α:Type}(x:kk.T)(es:List (kk.T×α)):List (kk.T×α):=match sw kk x es with
 |some i=>es.eraseIdx i
 |none=>es
def ki:(k:K)→k.T
 |.int _=>(0:Int)
 |.bool=>false
 |.str=>ByteArray.empty
 |.sl k=>([]:List k.T)
 |.pair a b=>(ki a,ki b)
 |.one k=>ki k
 |.mp kk vk=>([]:List (kk.T×vk.T))
 |.fn _=>()
def Ti:K→Value→Bool
 |.int ik,.int ik' n=>decide (ik'=ik∧n=0)
 |.bool,.bool b => !b
 |.str,.string s=>decide (s=ByteArray.empty)
 |.sl _,.slice a n c=>decide (a=none∧n=0∧c=0)
 |_,_=>false
def JM(t:TypeId)(k:K):Bool:=match P.info? t with
 |some i=>match i.zero with
  |some z=>Ti k z
  |none=>false
 |none=>false
def OJ(Eqs:TypeId→Option K)(t:TypeId)(k:K):Bool:=k.flat&&(match k,P.underlying t with
 |.int ik,some (.int ik')=>decide (ik'=ik)
 |.bool,some .bool=>true
 |.str,some .string=>true
 |k,_=>k.isAgg&&decide (Eqs t=some k))
def mapOf(Eqs:TypeId→Option K)(t:TypeId):Option (K×K):=match P.underlying t with
 |some (.map a b)=>match qy P 8 a,qy P 8 b with
  |some kk,some vk=>if OJ P Eqs a kk&&JM P b vk then some (kk,vk) else none
  |_,_=>none
 |_=>none
def aU{α:Type}(xs:List α)(i:Int):Option α:=if 0≤i then xs[i.toNat]? else none
def fB:Nat:=1073741824
def aI(n m:Nat):Bool:=decide (n+m≤fB)
def o4(n:Nat)(lo hi:Option AV):Option (Int×Int) :=match lo,hi with
 |none,none=>some (0,(n:Int))
 |some (.int .i64 l),none=>some (l,(n:Int))
 |none,some (.int .i64 h)=>some (0,h)
 |some (.int .i64 l),some (.int .i64 h)=>some (l,h)
 |_,_=>none
def az(n:Nat)(l h:Int):Bool:=decide (0≤l)&&(decide (l≤h)&&decide (h≤(n:Int)))
def cut{α:Type}(xs:List α)(l h:Int):List α:=(xs.take h.toNat).drop l.toNat
def abt(s:ByteArray)(l h:Int):ByteArray:=s.extract l.toNat h.toNat
variable {R:Type}
def ia(k:K)(h:Heap)(v:AV):Option k.T:=if k.isAgg=v.isAgg then dz k (v.cells.map (c9 h)) else none
def rowOf(h:Heap)(v:AV)(k:K):Option (List k.T) :=match c9 h v with
 |.sl _ k' xs=>if e:k'=k then some (e▸xs) else none
 |.gh=>some []
 |_=>none
def yH(e:TypeId)(k:K):Bool :=match P.info? e with
 |some i=>(match i.zero with
  |some z=>decide (i.size=k.sz)&&(decide (z.cells.size=k.sz)&&decide (i.bytes≤65536))
  |none=>false)
 |none=>false
def Qz(t:TypeId):Bool:=match P.underlying t with
 |some (.int .u8)=>true
 |_=>false
def abu(e:TypeId):Bool:=match P.info? e with
 |some i=>decide (i.size=1)&&decide (i.bytes=1)&&(match i.zero with|some (.int .u8 n)=>decide (n=0)|_=>false)
 |none=>false
def strOf(xs:List Int):ByteArray:=xs.foldl (fun r n=>r.push (UInt8.ofNat n.toNat)) ByteArray.empty
def bytesOf(s:ByteArray):List Int:=s.data.toList.map fun b=>(b.toNat:Int)
def sx(xs:List Int)(b:ByteArray):List Int:=xs++bytesOf b
def my(h:Heap)(id:Nat)(t:TypeId)(s:AV)(b:ByteArray)(K:bF→Option R):Option R :=match su P t,s with
 |some e,.bN cI =>
  if abu P e then match h.get cI with
   |some (.own (.row e' k') xs)=>if c:e'=e∧k'=.int .u8 then cond (!xs.isEmpty&&aI xs.length b.size) (K (.wr (.bN id) ((h.del cI).set id (.own (.row e (.int .u8)) (sx (c.2▸xs:List (Vs.K.int .u8).T) b))))) none else none
   |_=>none
  else none
 |_,_=>none
def tI(id:Nat)(t:TypeId)(l c:AV)(K:bF→Option R):Option R :=match su P t,l,c with
 |some e,.int .i64 n,.int .i64 m =>
  match qy P 8 e with
  |some kk=>if yH P e kk&&JM P e kk then cond (decide (0≤n)&&(decide (n≤(fB:Int))&&decide (m=n))) (K (.new (.bN id) [(id,.own (.row e kk) (List.replicate n.toNat (ki kk)))])) none else none
  |none=>none
 |_,_,_=>none
def nR{α:Type}(ys xs:List α):List α:=ys.take xs.length++xs.drop ys.length
def yI(h:Heap)(t:TypeId)(d s:AV)(K:bF→Option R):Option R :=match su P t,d with
 |some e,.bN id =>
  match h.get id with
  |some (.own (.row e' k) xs) =>
   match rowOf h s k with
   |some ys=>if e'=e∧yH P e k=true then cond (!xs.isEmpty) (K (.wr (.int .i64 (min (ys.length:Int) (xs.length:Int))) (h.set id (.own (.row e' k) (nR ys xs))))) none else none
   |none=>none
  |_=>none
 |_,_=>none
def o5(h:Heap)(id:Nat)(t:TypeId)(s x:AV)(K:bF→Option R):Option R :=match su P t with
 |none=>none
 |some e =>
  match qy P 8 e with
  |none=>none
  |some kk =>
   match rowOf h x kk,yH P e kk with
   |some ys,true =>
    match s with
    |.gh=>cond (aI 0 ys.length) (K (.new (.bN id) [(id,.own (.row e kk) ys)])) none
    |.bN cI =>
     match h.get cI with
     |some (.own (.row e' k') xs) =>
      if c:e'=e∧k'=kk then cond (aI xs.length ys.length) (K (.wr (.bN id) ((h.del cI).set id (.own (.row e kk) (c.2▸xs++ys))))) none else none
     |_=>none
    |.sl ex k' xs =>
     if c:k'=kk then cond (ex&&((!ys.isEmpty || xs.isEmpty)&&aI xs.length ys.length)) (K (.new (.bN id) [(id,.own (.row e kk) (c▸xs++ys))])) none else none
    |_=>none
   |_,_=>none
def yJ:AV→Bool
 |.no=>false
 |.agg _=>false
 |.oG _=>false
 |_=>true
def MM(id:Nat):List AV→Bool
 |[]=>true
 |.bN i::r => !(i==id)&&MM id r
 |_::r=>MM id r
def stored(h:Heap)(vs:List AV):List AV×Heap:=(vs.map (c9 h),cS h vs)
def tJ(h:Heap)(t:TypeId)(a v:AV)(K:bF→Option R):Option R :=if v.cells.length=P.cellsOf t∧(P.info? t).isSome∧v.cells.all yJ then
  match a with
  |.ref id s i off =>
   match h.get id with
   |some (.box ty cs)=>if i=0∧off+v.cells.length≤cs.length then K (.wr .no (h.set id (.box ty (eL cs off v.cells)))) else none
   |some (.own (.row ty kk) xs) =>
    (xs[i]?).bind fun x =>if s=kk.sz∧off+v.cells.length≤kk.sz∧MM id v.cells then
      match dz kk (eL (enc kk x) off (stored h v.cells).1) with
      |some y=>K (.wr .no ((stored h v.cells).2.set id (.own (.row ty kk) (xs.set i y))))
      |none=>none
     else none
   |_=>none
  |_=>none
 else none
def mK(h:Heap)(t:TypeId)(a:AV)(K:bF→Option R):Option R :=match a with
 |.ref id s i off =>
  match h.get id with
  |some (.box _ cs)=>if i=0 then(match eO P t (cs.drop off) with|some v=>K (.val v)|none=>none) else none
  |some (.own (.row _ kk) xs)=>if s=kk.sz then(xs[i]?).bind fun x=>match eO P t ((enc kk x).drop off) with|some v=>K (.val v)|none=>none else none
  |_=>none
 |.fp kk x off=>match eO P t ((enc kk x).drop off) with|some v=>K (.val v)|none=>none
 |_=>none
def adT(t:TypeId):Option (Nat×TypeId):=match P.underlying t with
 |some (.array n e)=>some (n,e)
 |_=>none
def jh(t:TypeId)(x i:AV)(K:bF→Option R):Option R :=match adT P t,x,i with
 |some (m,e),.ref id s j off,.int _ n=>if P.cellsOf e=0 then none else cond (decide (0≤n)&&decide (n<(m:Int))) (K (.val (.ref id s j (off+n.toNat*P.cellsOf e)))) none
 |_,_,_=>none
def dN(h:Heap)(t:TypeId)(x i:AV)(K:bF→Option R):Option R :=match su P t with
 |none=>jh P t x i K
 |some e =>
  match x,i with
  |.sl _ kk xs,.int _ n=>if P.cellsOf e=kk.sz then(aU xs n).bind fun y=>K (.val (.fp kk y 0)) else none
  |.bN id,.int _ n =>
   match h.get id with
   |some (.own (.row _ kk) xs)=>if P.cellsOf e=kk.sz then cond (decide (0≤n)&&decide (n<(xs.length:Int))) (K (.val (.ref id kk.sz n.toNat 0))) none else none
   |_=>none
  |_,_=>none
def yK(x:AV)(lo hi mx:Option AV)(K:bF→Option R):Option R :=match x,mx with
 |.str s,none =>
  match o4 s.size lo hi with
  |some (l,u)=>cond (az s.size l u) (K (.val (.str (abt s l u)))) none
  |none=>none
 |_,_=>none
def qz(_:Heap)(sz:Nat)(x:AV)(lo hi mx:Option AV)(K:bF→Option R):Option R :=match x with
 |.gh =>
  match o4 0 lo hi,mx with
  |some (l,u),none=>cond (az 0 l u) (K (.val .gh)) none
  |_,_=>none
 |.sl _ kk xs =>
  if sz=kk.sz then
   match o4 xs.length lo hi with
   |some (l,u) =>
    match mx with
    |none=>cond (az xs.length l u) (K (.val (.sl false kk (cut xs l u)))) none
    |some (.int .i64 m)=>cond (az xs.length l u&&(hi.isSome&&decide (m=u))) (K (.val (.sl true kk (cut xs l u)))) none
    |_=>none
   |none=>none
  else none
 |_=>none
def abv(t:TypeId)(x:AV):Bool :=match P.underlying t,x with
 |some .string,.str _=>true
 |some (.slice _),.str _=>false
 |some (.slice _),_=>true
 |_,_=>false
def MN(t:TypeId):Bool :=match P.underlying t with
 |some (.map _ _)=>true
 |_=>false
def Gj(h:Heap)(x:AV)(K:bF→Option R):Option R :=match c9 h x with
 |.str s=>K (.val (.int .i64 (s.size:Int)))
 |.sl _ _ xs=>K (.val (.int .i64 (xs.length:Int)))
 |.gh=>K (.val (.int .i64 0))
 |_=>none
def yM(h:Heap)(x:AV)(K:bF→Option R):Option R :=match c9 h x with
 |.mp _ _ es=>K (.val (.int .i64 (es.length:Int)))
 |_=>none
def mz(Eqs:TypeId→Option K)(id:Nat)(t:TypeId)(K:bF→Option R):Option R :=match mapOf P Eqs t with
 |some (kk,vk)=>K (.new (.bN id) [(id,.own (.map kk vk) [])])
 |none=>none
def o6(Eqs:TypeId→Option K)(h:Heap)(t:TypeId)(m i:AV)(ok:Bool)(K:bF→Option R):Option R :=match mapOf P Eqs t,c9 h m with
 |some (kk,vk),.mp OG X8 es =>
  if c:OG=kk∧X8=vk then
   match ia kk h i with
   |some x=>K (.val (cond ok (.oG [b6 vk ((fM kk x (c.1▸c.2▸es:List (kk.T×vk.T))).getD (ki vk)),.bool (fM kk x (c.1▸c.2▸es:List (kk.T×vk.T))).isSome]) (b6 vk ((fM kk x (c.1▸c.2▸es:List (kk.T×vk.T))).getD (ki vk)))))
   |none=>none
  else none
 |_,_=>none
def jz(Eqs:TypeId→Option K)(h:Heap)(t:TypeId)(m i v:AV)(K:bF→Option R):Option R :=match mapOf P Eqs t,m with
 |some (kk,vk),.bN id =>
  match h.get id with
  |some (.own (.map OG X8) es) =>
   if c:OG=kk∧X8=vk then
    match ia kk h i,ia vk h v,(v.cells.all fun c=>match c with | .bN j => !(j==id)|_=>true) with
    |some x,some y,true=>K (.wr (.oG []) ((cS h v.cells).set id (.own (.map kk vk) (jN kk x y (c.1▸c.2▸es:List (kk.T×vk.T))))))
    |_,_,_=>none
   else none
  |_=>none
 |_,_=>none
def o8(Eqs:TypeId→Option K)(h:Heap)(t:TypeId)(m i:AV)(K:bF→Option R):Option R :=match mapOf P Eqs t,m with
 |some (kk,vk),.bN id =>
  match h.get id with
  |some (.own (.map OG X8) es) =>
   if c:OG=kk∧X8=vk then
    match ia kk h i with
    |some x=>K (.wr (.oG []) (h.set id (.own (.map kk vk) (HU kk x (c.1▸c.2▸es:List (kk.T×vk.T))))))
    |none=>none
   else none
  |_=>none
 |_,_=>none
def o9(id:Nat)(t:TypeId)(x:AV)(K:bF→Option R):Option R :=match P.underlying t,x with
 |some .string,.str s=>K (.new (.bN id) [(id,.own .oZ (s,0))])
 |_,_=>none
def qA(s:ByteArray)(p:Nat):Int:=(Utf8.decode s p).1
def Ci(s:ByteArray)(p:Nat):Nat:=(Utf8.decode s p).2
def tK(h:Heap)(x:AV)(K:bF→Option R):Option R :=match x with
 |.bN id=>match h.get id with
  |some (.own .oZ x)=>cond (decide (x.2<x.1.size)) (K (.wr (.oG [.bool true,.int .i64 (x.2:Int),.int .i32 (qA x.1 x.2)]) (h.set id (.own .oZ (x.1,x.2+Ci x.1 x.2))))) (K (.val (.oG [.bool false])))
  |_=>none
 |_=>none
def tL(h:Heap)(x:AV)(K:bF→Option R):Option R :=match x with
 |.bN id=>match h.get id with
  |some (.own (.iter kk vk) (some c,_))=>K (.val (.oG [b6 kk c.1,b6 vk c.2]))
  |_=>none
 |_=>none
def HV:TypeDesc→Bool
 |.bool=>true
 |_=>false
def yN:TypeDesc→Bool
 |.pointer _=>true
 |_=>false
def Ar(Eqs:TypeId→Option K)(op:BinOp)(t:TypeId)(x y:AV)(K:bF→Option R):Option R :=match x,y with
 |.int k a,.int k' b =>
  match op with
  |.shl=>cond (decide (b<0)) none (K (.val (.int k (Bl k a b))))
  |.shr=>cond (decide (b<0)) none (K (.val (.int k (iu k a b))))
  |op =>
  if k=k' then
   match op with
   |.quo=>cond (b==0) none (K (.val (.int k (k.wrap (a.tdiv b)))))
   |.rem=>cond (b==0) none (K (.val (.int k (a.tmod b))))
   |op=>match abr op k a b with
    |some v=>K (.val v)
    |none=>none
  else none
 |.str a,.str b=>match adS op a b with
  |some v=>K (.val v)
  |none=>none
 |.bool a,.bool b =>
  match op,(P.underlying t).map HV with
  |.eql,some true=>K (.val (.bool (a==b)))
  |.neq,some true=>K (.val (.bool (!(a==b))))
  |_,_=>none
 |.agg a,.agg b =>
  match Eqs t with
  |none=>none
  |some k =>
   match op,dz k a,dz k b with
   |.eql,some x,some y=>K (.val (.bool (tH k x y)))
   |.neq,some x,some y=>K (.val (.bool (!(tH k x y))))
   |_,_,_=>none
 |.mg,.mg =>
  match op,(P.underlying t).map yN with
  |.eql,some true=>K (.val (.bool true))
  |.neq,some true=>K (.val (.bool false))
  |_,_=>none
 |.ref ..,.mg =>
  match op,(P.underlying t).map yN with
  |.eql,some true=>K (.val (.bool false))
  |.neq,some true=>K (.val (.bool true))
  |_,_=>none
 |_,_=>none
def ZT(b:Bool)(x y:AV):AV :=match x,y with
 |.bool p,.bool q=>.bool (cond b p q)
 |x,y=>cond b x y
end
def eT(h:Heap)(ok:OK)(c:AV):Option ok.T :=match c with
 |.gh=>match ok with
  |.row _ _=>some []
  |_=>none
 |.bN id=>match h.get id with
  |some (.own X9 x)=>if e:X9=ok then some (e▸x) else none
  |_=>none
 |_=>none
def qB:AV→List Nat
 |.bN id=>[id]
 |_=>[]
def cW:(dV:List CK)→Heap→List AV→Option (ss dV)
 |[],_,[]=>some ()
 |.val k::r,h,cs =>
  match dz k ((cs.take k.sz).map (c9 h)),cW r h (cs.drop k.sz) with
  |some x,some y=>some (x,y)
  |_,_=>none
 |.own ok::r,h,c::cs =>
  match eT h ok c,cW r h cs with
  |some x,some y=>some (x,y)
  |_,_=>none
 |_,_,_=>none
def rH:List CK→List AV→List AV
 |.val k::r,cs=>cs.take k.sz++rH r (cs.drop k.sz)
 |.own _::r,_::cs=>rH r cs
 |_,_=>[]
def gF:List CK→List AV→List Nat
 |.val k::r,cs=>gF r (cs.drop k.sz)
 |.own _::r,c::cs=>qB c++gF r cs
 |_,_=>[]
def aG:(dV:List CK)→Nat→ss dV→List AV
 |[],_,_=>[]
 |.val k::r,n,x=>enc k x.1++aG r (n+1) x.2
 |.own _::r,n,x=>.bN n::aG r (n+1) x.2
def aZ:(dV:List CK)→Nat→ss dV→Heap
 |[],_,_=>[]
 |.val _::r,n,x=>aZ r (n+1) x.2
 |.own ok::r,n,x=>(n,.own ok x.1)::aZ r (n+1) x.2
def Cj(h:Heap)(id:Nat)(ty:TypeId):Option (List AV) :=match h.get id with
 |some (.box Jz cs)=>if Jz=ty then some cs else none
 |_=>none
def sy:(b:BK)→Heap→Nat→Option b.T
 |.box ty c,h,i=>match Cj h i ty with
  |some cs=>cW c h cs
  |none=>none
 |.own ok,h,i=>eT h ok (.bN i)
def dy:(bs:List BK)→Heap→List Nat→Option (Aq bs)
 |[],_,[]=>some ()
 |b::r,h,i::is =>
  match sy b h i,dy r h is with
  |some x,some y=>some (x,y)
  |_,_=>none
 |_,_,_=>none
def kr:(b:BK)→Nat→Nat→b.T→Heap
 |.box ty c,i,n,x=>(i,.box ty (aG c n x))::aZ c n x
 |.own ok,i,_,x=>[(i,.own ok x)]
def bG:(bs:List BK)→List Nat→Nat→Aq bs→Heap
 |b::r,i::is,n,x=>kr b i n x.1++bG r is (n+16) x.2
 |_,_,_,_=>[]
def Ck:BK→Heap→Nat→List AV
 |.box _ c,h,i=>match h.get i with
  |some (.box _ cs)=>rH c cs
  |_=>[]
 |.own _,_,_=>[]
def gO:List BK→Heap→List Nat→List AV
 |b::r,h,i::is=>Ck b h i++gO r h is
 |_,_,_=>[]
def nS:BK→Heap→Nat→List Nat
 |.box _ c,h,i=>i::(match h.get i with
  |some (.box _ cs)=>gF c cs
  |_=>[])
 |.own _,_,i=>[i]
def dk:List BK→Heap→List Nat→List Nat
 |b::r,h,i::is=>nS b h i++dk r h is
 |_,_,_=>[]
def iv(h:Heap):List Nat→Heap
 |[]=>h
 |i::r=>iv (h.del i) r
def Gk:AV→Option Nat
 |.ref id _ 0 0=>some id
 |_=>none
def ku:List AV→Option (List Nat)
 |[]=>some []
 |v::r=>match Gk v,ku r with
  |some i,some is=>some (i::is)
  |_,_=>none
def qC:List AV→Option (List Nat)
 |[]=>some []
 |.bN i::r=>match qC r with
  |some is=>some (i::is)
  |none=>none
 |_=>none
def cM:List PK→List AV→Option (List Nat)
 |[],[]=>some []
 |.val _::ps,_::vs=>cM ps vs
 |.ref::ps,v::vs=>match Gk v,cM ps vs with
  |some i,some is=>some (i::is)
  |_,_=>none
 |.own::ps,.bN i::vs=>match cM ps vs with
  |some is=>some (i::is)
  |none=>none
 |.wN f n::ps,.fn f' cap::vs =>
  if f'=f∧cap.length=n then match ku cap,cM ps vs with
   |some a,some b=>some (a++b)
   |_,_=>none
  else none
 |.agg n::ps,.agg cs::vs =>
  if cs.length=n then match qC cs,cM ps vs with
   |some a,some b=>some (a++b)
   |_,_=>none
  else none
 |_,_=>none
def fN:(ps:List PK)→Heap→List AV→Option (JK (lZ ps))
 |[],_,[]=>some ()
 |.val k::ps,h,v::vs =>
  match ia k h v,fN ps h vs with
  |some x,some y=>some (x,y)
  |_,_=>none
 |.ref::ps,h,_::vs=>fN ps h vs
 |.own::ps,h,_::vs=>fN ps h vs
 |.wN _ _::ps,h,_::vs=>fN ps h vs
 |.agg _::ps,h,_::vs=>fN ps h vs
 |_,_,_=>none
def dD:List PK→List AV→List AV
 |.val _::ps,v::vs=>v.cells++dD ps vs
 |_::ps,_::vs=>dD ps vs
 |_,_=>[]
def aV:(ps:List PK)→(ids:List Nat)→Nat→JK (lZ ps)→List (Nat×AV)
 |[],_,_,_=>[]
 |.val k::ps,ids,s,x=>(s,b6 k x.1)::aV ps ids (s+1) x.2
 |.ref::ps,i::ids,s,x=>(s,.ref i 0 0 0)::aV ps ids (s+1) x
 |.ref::ps,[],s,x=>(s,.no)::aV ps [] (s+1) x
 |.own::ps,i::ids,s,x=>(s,.bN i)::aV ps ids (s+1) x
 |.own::ps,[],s,x=>(s,.no)::aV ps [] (s+1) x
 |.wN f n::ps,ids,s,x=>(s,.fn f ((ids.take n).map fun i=>.ref i 0 0 0))::aV ps (ids.drop n) (s+1) x
 |.agg n::ps,ids,s,x=>(s,.agg ((ids.take n).map .bN))::aV ps (ids.drop n) (s+1) x
def nT:List CK→Nat→Nat
 |.val k::r,c+1=>k.sz+nT r c
 |.own _::r,c+1=>1+nT r c
 |_,_=>0
def gK:List CK→Nat→Bool
 |.own (.row _ _)::_,0=>true
 |_::r,c+1=>gK r c
 |_,_=>false
def Tj(id:Nat):Option AV→Bool
 |some (.bN pe)=>pe==id
 |_=>false
def Cl(c:List CK)(cs:List AV)(id s off:Nat)(a:Nat×Nat×Nat):Bool :=Tj id (cs[nT c a.1]?)&&(decide (s=a.2.1)&&(decide (off=a.2.2)&&gK c a.1))
def oH(bs:List BK)(h:Heap)(ids:List Nat)(b:Nat)(alts:List (Nat×Nat×Nat))(v:AV):Option (Option (Fin alts.length×Nat)) :=match v with
 |.mg=>some none
 |.ref id s i off =>
  (match ids[b]?,bs[b]? with
  |some bi,some bk=>(match h.get bi with
   |some (.box _ cs)=>(match (List.finRange alts.length).find? (fun a=>Cl bk.dV cs id s off (alts.get a)) with
    |some a=>some (some (a,i))
    |none=>none)
   |_=>none)
  |_,_=>none)
 |_=>none
def Cm(c:List CK)(h:Heap)(v:AV):Option (ss c) :=match v with
 |.agg cs=>cW c h cs
 |_=>none
def bO(bs:List BK):(rs:List RK)→Heap→List Nat→List AV→Option (mJ rs)
 |[],_,_,[]=>some ()
 |.val k::r,h,ids,v::vs =>
  match ia k h v,bO bs r h ids vs with
  |some x,some y=>some (x,y)
  |_,_=>none
 |.own ok::r,h,ids,v::vs =>
  match eT h ok v,bO bs r h ids vs with
  |some x,some y=>some (x,y)
  |_,_=>none
 |.fz b alts::r,h,ids,v::vs =>
  match oH bs h ids b alts v,bO bs r h ids vs with
  |some x,some y=>some (x,y)
  |_,_=>none
 |.agg c::r,h,ids,v::vs =>
  match Cm c h v,bO bs r h ids vs with
  |some x,some y=>some (x,y)
  |_,_=>none
 |_,_,_,_=>none
def gP:List RK→List AV→List AV
 |.val _::r,v::vs=>v.cells++gP r vs
 |.agg c::r,v::vs=>rH c v.cells++gP r vs
 |_::r,_::vs=>gP r vs
 |_,_=>[]
def eE:List RK→List AV→List Nat
 |.own _::r,v::vs=>qB v++eE r vs
 |.agg c::r,v::vs=>gF c v.cells++eE r vs
 |_::r,_::vs=>eE r vs
 |_,_=>[]
def wQ(b n:Nat)(alts:List (Nat×Nat×Nat)):Option (Fin alts.length×Nat)→AV
 |none=>.mg
 |some (a,i)=>.ref (n+16*b+(alts.get a).1) (alts.get a).2.1 i (alts.get a).2.2
def aW:(rs:List RK)→(ids:List Nat)→(n m:Nat)→mJ rs→List AV
 |[],_,_,_,_=>[]
 |.val k::r,ids,n,m,x=>b6 k x.1::aW r ids n (m+1) x.2
 |.agg c::r,ids,n,m,x=>.agg (aG c m x.1)::aW r ids n (m+1) x.2
 |.own _::r,ids,n,m,x=>.bN m::aW r ids n (m+1) x.2
 |.fz b alts::r,ids,n,m,x=>wQ b n alts x.1::aW r ids n (m+1) x.2
def aq:(rs:List RK)→(m:Nat)→mJ rs→Heap
 |[],_,_=>[]
 |.own ok::r,m,x=>(m,.own ok x.1)::aq r (m+1) x.2
 |.agg c::r,m,x=>aZ c m x.1++aq r (m+1) x.2
 |.val _::r,m,x=>aq r (m+1) x.2
 |.fz _ _::r,m,x=>aq r (m+1) x.2
def fH:List AV→AV
 |[v]=>v
 |vs=>.oG vs
def cx:List CK→Nat→List Nat
 |[],_=>[]
 |.val _::r,n=>cx r (n+1)
 |.own _::r,n=>n::cx r (n+1)
def b7:List BK→List Nat→Nat→List Nat
 |b::r,i::is,n=>i::(cx b.dV n++b7 r is (n+16))
 |_,_,_=>[]
def bE:List RK→Nat→List Nat
 |[],_=>[]
 |.own _::r,m=>m::bE r (m+1)
 |.agg c::r,m=>cx c m++bE r (m+1)
 |.val _::r,m=>bE r (m+1)
 |.fz _ _::r,m=>bE r (m+1)
def aQ(n:Nat):List Nat:=(List.range n).map fun i=>1000+20*i
def sB(g:aO):List Nat:=b7 g.bs (aQ g.bs.length) 2000++bE g.rs 3000
def JN:List AV→Bool
 |[]=>true
 |.bN _::_=>false
 |_::r=>JN r
def vM:List AV→Bool
 |[]=>true
 |v::r=>JN v.cells&&vM r
def cg:List Nat→Bool
 |[]=>true
 |i::r => !(r.contains i)&&cg r
def yO(kept:List Nat)(lV:List AV):Bool:=cg kept&&kept.all fun i=>MM i lV
section
variable (P:Program) (Eqs:TypeId→Option K) (Sg:FuncId→Option aO) (F:(f:FuncId)→(g:aO)→g.A→Option g.B)
variable {R:Type}
def ZU(h:Heap)(i:Nat):Option FuncId:=match h.get i with
 |some (.box _ (.fn f _::_))=>some f
 |_=>none
def MO(h:Heap):List AV→Option FuncId
 |[]=>none
 |.ref i _ _ _::r=>match ZU h i with
  |some f=>some f
  |none=>MO h r
 |_::r=>MO h r
def mL(h:Heap)(f:FuncId):List AV→FuncId
 |[]=>f
 |.fn g cap::_=>match MO h cap with
  |some f2=>f+1000*((g+1)+100000*(f2+1))
  |none=>f+1000*(g+1)
 |.ref i _ _ _::r=>match ZU h i with
  |some f2=>mL h (f+1000*(100000*(f2+1))) r
  |none=>mL h f r
 |_::r=>mL h f r
def Cn:List AV→Bool
 |[]=>false
 |.bN _::_=>true
 |.agg cs::r=>(cs.any fun c=>match c with | .bN _=>true|_=>false) || Cn r
 |_::r=>Cn r
def keyOf(h:Heap)(f:FuncId)(vs:List AV):FuncId:=if Cn vs&&(Sg (mL h f vs+500000)).isSome then mL h f vs+500000 else mL h f vs
def Ff(bs:List BK)(r:RK):Bool:=match r with
 |.fz b alts=>match bs[b]? with
  |some bk=>(alts.all fun a=>gK bk.dV a.1)&&decide ((alts.map fun a=>(a.1,a.2.2)).Nodup)
  |none=>false
 |.agg c=>decide (c.length≤16)
 |_=>true
def sD(bs:List BK)(rs:List RK):Bool:=rs.all (Ff bs)
def Tk(f:FuncId)(g:aO):Bool:=sD g.bs g.rs&&( (decide (g.bs.length≤8)&&(g.bs.all fun b=>decide (b.dV.length≤16)))&&((decide (g.rs.length≤100)&&decide (f<1000))&&cg (sB g)))
def sE{α R:Type}(o:Option α)(a:Option R)(f:α→Option R):Option R:=match o with
 |none=>a
 |some x=>f x
def adU{R:Type}(n:Nat)(a:Fin n)(f:Fin n→Option R):Option R:=(List.finRange n).foldr (fun j r=>cond (a.val==j.val) (f j) r) none
def kx{R:Type}:(rs:List RK)→mJ rs→(mJ rs→Option R)→Option R
 |[],_,K=>K ()
 |.fz _ alts::r,x,K=>sE x.1 (kx r x.2 fun z=>K (none,z)) (fun p=>adU alts.length p.1 fun a=>kx r x.2 fun z=>K (some (a,p.2),z))
 |.val _::r,x,K=>kx r x.2 fun z=>K (x.1,z)
 |.own _::r,x,K=>kx r x.2 fun z=>K (x.1,z)
 |.agg _::r,x,K=>kx r x.2 fun z=>K (x.1,z)
def jO(h:Heap)(id:Nat)(f:FuncId)(vs:List AV)(K:bF→Option R):Option R :=match Sg (keyOf Sg h f vs) with
 |none=>none
 |some g=>match g.x with
 |some u=>if f<1000 then(u h id vs).bind fun p=>cond p.1 (K p.2) none else none
 |none =>
  match cM g.ps vs,Tk f g with
  |some is,true =>
   if is.isEmpty&&g.rs.all RK.plain then
   match fN g.ps h vs,dy g.bs h [],g.rs.all RK.plain with
   |some x,some b,true =>
    (F (keyOf Sg h f vs) g (x,b)).bind fun y =>cond (g.rs.all RK.flat || vM vs) (K (.new (fH (aW g.rs [] id (id+128) y.1)) (aq g.rs (id+128) y.1))) (K (.wr (fH (aW g.rs [] id (id+128) y.1)) (aq g.rs (id+128) y.1++cS h (dD g.ps vs))))
   |_,_,_=>none
   else
   match fN g.ps h vs,dy g.bs h is,yO (dk g.bs h is) (dD g.ps vs++gO g.bs h is)&&cg (b7 g.bs is id++bE g.rs (id+128)) with
   |some x,some b,true =>
    (F (keyOf Sg h f vs) g (x,b)).bind fun y=>kx g.rs y.1 fun z =>K (.wr (fH (aW g.rs is id (id+128) z)) (bG g.bs is id y.2++(aq g.rs (id+128) z++iv (cS h (dD g.ps vs++gO g.bs h is)) (dk g.bs h is))))
   |_,_,_=>none
  |_,_=>none
def sF{α:Type}(xs:List α)(i:Int)(ys:List α):Bool:=decide (0≤i)&&(decide (i≤xs.length)&&(decide (ys.length=1)&&aI xs.length ys.length))
def ji{α:Type}(xs:List α)(i:Int)(ys:List α):List α:=xs.take i.toNat++(ys++xs.drop i.toNat)
def kj{α:Type}(xs:List α)(i j:Int):Bool:=decide (0≤i)&&(decide (i<j)&&(decide (j≤xs.length)&&aI xs.length 0))
def dJ{α:Type}(xs:List α)(i j:Int):List α:=xs.take i.toNat++xs.drop j.toNat
def Co(n:Int):Bool:=decide (0≤n)&&decide (n≤fB)
def Tl(ty:TypeId)(k:K)(h:Heap)(id:Nat):List AV→Option (Bool×bF)
 |[.bN o,.int .i64 i,.bN j]=>match eT h (.row ty k) (.bN o),eT h (.row ty k) (.bN j) with
  |some xs,some ys=>if o=j then none else some (sF xs i ys,.wr (.bN id) ((id,.own (.row ty k) (ji xs i ys))::h.del o))
  |_,_=>none
 |_=>none
def Ya(ty:TypeId)(k:K)(h:Heap)(id:Nat):List AV→Option (Bool×bF)
 |[.bN o,.int .i64 i,.int .i64 j]=>match eT h (.row ty k) (.bN o) with
  |some xs=>some (kj xs i j,.wr (.bN id) ((id,.own (.row ty k) (dJ xs i j))::h.del o))
  |none=>none
 |_=>none
def Tn(ty:TypeId)(k:K)(_:Heap)(id:Nat):List AV→Option (Bool×bF)
 |[.gh,.int .i64 n]=>some (Co n,.new (.bN id) [(id,.own (.row ty k) [])])
 |_=>none
def yP(id:Nat)(t:TypeId)(vs:List AV)(K:bF→Option R):Option R :=K (.new (.ref id vs.length 0 0) [(id,.box t vs)])
def ZV:AV→Bool
 |.no=>false
 |_=>true
def tM(t:TypeId)(parts:List (Nat×AV))(K:bF→Option R):Option R :=match Ch P t,P.underlying t with
 |some z,some (.struct fs) =>
  match Gi (fun i=>(fs[i]?).map fun f=>(f.offset,P.cellsOf f.type)) z parts,fs.toList.all (fun f=>(P.info? f.type).isSome)&&parts.all (fun p=>ZV p.2) with
  |some cs,true=>K (.val (.agg cs))
  |_,_=>none
 |_,_=>none
def sG(k:K)(h:Heap):Nat→List (Nat×AV)→Option (List k.T)
 |_,[]=>some []
 |i,(j,v)::r =>
  if j=i then match dz k (v.cells.map (c9 h)),sG k h (i+1) r with
   |some x,some xs=>some (x::xs)
   |_,_=>none
  else none
def wR(h:Heap)(id:Nat)(t:TypeId)(n:Nat)(parts:List (Nat×AV))(K:bF→Option R):Option R :=match su P t with
 |none=>none
 |some e =>
  match qy P 8 e with
  |none=>none
  |some k =>
   match sG k h 0 parts,yH P e k with
   |none,_=>none
   |some _,false=>none
   |some xs,true =>
    if parts.length=n∧n*k.sz≤1048576 then
     cond (vM (parts.map (·.2))) (K (.new (.bN id) [(id,.own (.row e k) xs)])) (K (.wr (.bN id) ((id,.own (.row e k) xs)::cS h (parts.flatMap (·.2.cells)))))
    else none
def Yb:bF→bF
 |.new (.bN _) [(_,.own (.row _ k) xs)]=>.new (.sl true k xs) []
 |e=>e
def yQ(lV:Bool)(h:Heap)(id:Nat)(t:TypeId)(n:Nat)(parts:List (Nat×AV))(K:bF→Option R):Option R :=wR P h id t n parts fun e=>K (if lV then Yb e else e)
def Cp(h:Heap)(src dst:TypeId)(x:AV)(K:bF→Option R):Option R :=match P.underlying src,P.underlying dst,x with
 |some (.int _),some (.int k),.int _ n=>K (.val (.int k (k.wrap n)))
 |some .string,some .string,.str s=>K (.val (.str s))
 |some .string,some (.slice e),.str s=>if Qz P e then K (.new (.sl false (.int .u8) (bytesOf s)) []) else none
 |some (.slice e),some .string,x=>if Qz P e then match rowOf h x (.int .u8) with
  |some xs=>K (.val (.str (strOf xs)))
  |none=>none
  else none
 |_,_,_=>none
def QA(mx:Bool)(vs:List AV)(K:bF→Option R):Option R :=match vs with
 |[.int k a,.int k' b]=>if k=k' then K (.val (.int k (cond mx (max a b) (min a b)))) else none
 |_=>none
def ZW(t id:Nat):Bool:=(Sg (900000+t)).isSome&&(Sg (2000003+1000*(id / 256-128))).isSome
def da(id:Nat)(h:Heap)(s:List (Nat×AV))(o:Oper)(K:bF→Option R):Option R :=match o.op with
 |.move x | .assign x=>K (.val (ρ s x))
 |.pick c a b=>match ρ s c with
  |.bool t=>K (.val (ZT t (ρ s a) (ρ s b)))
  |_=>none
 |.box t x=>if(ρ s x).cells.all yJ then yP id t (ρ s x).cells K else none
 |.alloc t=>match Ch P t with
  |some z=>yP id t z K
  |none=>none
 |.build t ps=>tM P t (ps.toList.map fun p=>(p.1,ρ s p.2)) K
 |.buildSlice t n ps=>yQ P (ZW Sg t id) h id t n (ps.toList.map fun p=>(p.1,ρ s p.2)) K
 |.load t a=>mK P h t (ρ s a) K
 |.store t a v=>tJ P h t (ρ s a) (ρ s v) K
 |.nilCheck x=>match ρ s x with
  |.ref id s i off=>K (.val (.ref id s i off))
  |.fp k x off=>K (.val (.fp k x off))
  |.fn f cap=>K (.val (.fn f cap))
  |_=>none
 |.binOp op t x y _=>Ar P Eqs op t (ρ s x) (ρ s y) K
 |.unOp .not _ x=>match ρ s x with
  |.bool b=>K (.val (.bool (!b)))
  |_=>none
 |.convert src dst x=>Cp P h src dst (ρ s x) K
 |.makeSlice t l c=>tI P id t (ρ s l) (ρ s c) K
 |.makeFunc (.func f) first cap=>if first.size=0 then K (.val (.fn f (cap.toList.map (ρ s)))) else none
 |.slice t x lo hi mx=>match P.underlying t with
  |some .string=>yK (ρ s x) (lo.map (ρ s)) (hi.map (ρ s)) (mx.map (ρ s)) K
  |some (.slice e)=>if(P.info? e).isSome then qz h (P.cellsOf e) (ρ s x) (lo.map (ρ s)) (hi.map (ρ s)) (mx.map (ρ s)) K else none
  |_=>none
 |.fieldAddr t x f=>match ir P t f,ρ s x with
  |some (n,ft),.ref id s i off=>if P.cellsOf ft=0 then none else K (.val (.ref id s i (off+n)))
  |some (n,ft),.fp k x off=>if P.cellsOf ft=0 then none else K (.val (.fp k x (off+n)))
  |_,_=>none
 |.field t x f=>match ir P t f,ρ s x with
  |some (n,ft),.agg cs=>match eO P ft (cs.drop n) with
   |some v=>K (.val v)
   |none=>none
  |_,_=>none
 |.indexAddr t x i=>dN P h t (ρ s x) (ρ s i) K
 |.index t x i=>match P.underlying t,ρ s x,ρ s i with
  |some .string,.str b,.int _ n=>(if 0≤n then b[n.toNat]? else none).bind fun c=>K (.val (.int .u8 (c.toNat:Int)))
  |_,_,_=>none
 |.makeMap t none=>mz P Eqs id t K
 |.lookup t m i ok=>o6 P Eqs h t (ρ s m) (ρ s i) ok K
 |.mapUpdate t m i v=>jz P Eqs h t (ρ s m) (ρ s i) (ρ s v) K
 |.range t x=>o9 P id t (ρ s x) K
 |.next x true=>tK h (ρ s x) K
 |.entry x=>tL h (ρ s x) K
 |.extract t i=>match ρ s t with
  |.oG vs=>match vs[i]? with
   |some v=>K (.val v)
   |none=>none
  |_=>none
 |.call c =>
  match c.callee with
  |.value f=>match ρ s f with
   |.fn f cap=>jO Sg F h id f (c.args.toList.map (ρ s)++cap) K
   |_=>none
  |.builtin .len=>match c.args.toList,c.argTypes.toList with
   |[x],[t]=>if MN P t then yM h (ρ s x) K else if abv P t (ρ s x) then Gj h (ρ s x) K else none
   |_,_=>none
  |.builtin .append=>match c.args.toList,c.argTypes.toList with
   |[x,y],[t,t']=>if t'=t then o5 P h id t (ρ s x) (ρ s y) K else match P.underlying t',ρ s y with
    |some .string,.str b=>my P h id t (ρ s x) b K
    |_,_=>none
   |_,_=>none
  |.builtin .copy=>match c.args.toList,c.argTypes.toList with
   |[x,y],[t,_]=>yI P h t (ρ s x) (ρ s y) K
   |_,_=>none
  |.builtin .delete=>match c.args.toList,c.argTypes.toList with
   |[m,x],t::_=>o8 P Eqs h t (ρ s m) (ρ s x) K
   |_,_=>none
  |.builtin .max=>QA true (c.args.toList.map (ρ s)) K
  |.builtin .min=>QA false (c.args.toList.map (ρ s)) K
  |_=>none
 |_=>none
def oI:Op→Bool
 |.move _ | .assign _ | .extract .. | .unOp .. | .pick .. | .fieldAddr .. | .nilCheck _ | .makeFunc .. | .build .. | .slice ..=>true
 |.binOp op ..=>match op with
  |.eql | .neq=>false
  |_=>true
 |_=>false
def makes:Op→Bool
 |.box .. | .alloc _ | .buildSlice .. | .makeMap .. | .makeSlice .. | .range ..=>true
 |.call c=>match c.callee with
  |.builtin .append | .value _=>true
  |_=>false
 |_=>false
def opId(rid i:Nat):Nat:=((rid+1)*128+i)*256
def wS(ops:Array Oper)(b:Array Nat):Bool :=(List.range ops.size).all fun i=>match ops[i]? with
  |some o=>(o.after.toList.all fun e => !Region.binds .any e || decide (e.on<i)) && b.getD i 0==o.after.toList.foldl (fun s e=>if Region.binds .any e then s ||| 2 ^ e.on ||| b.getD e.on 0 else s) 0
  |none=>false
def Cq(ops:Array Oper)(b:Array Nat):Bool :=(List.range ops.size).all fun j=>(List.range j).all fun i =>(b.getD j 0).testBit i || (match ops[i]?,ops[j]? with
   |some x,some y=>x.apart ops y
   |_,_=>false)
def jk:Op→Option Operand
 |.load _ x=>some x
 |.indexAddr _ x _=>some x
 |_=>none
def BE:Op→Bool
 |.store ..=>true
 |.call c=>match c.callee with
  |.value (.func f)=>f != 33
  |.value _=>true
  |.builtin .append=>true
  |_=>false
 |_=>false
def stepOf(ops:Array Oper)(j:Nat):Operand→Operand
 |.tmp d=>match (ops.toList.take j).findIdx? (fun o=>o.dst==some d) with
  |some m=>match ops[m]? with
   |some o=>match o.op with
    |.fieldAddr _ (.tmp e) _=>if(List.range ops.size).any fun q=>decide (m≤q)&&((ops[q]?).bind (·.dst)==some e) then .tmp d else .tmp e
    |_=>.tmp d
   |none=>.tmp d
  |none=>.tmp d
 |x=>x
def MP(ops:Array Oper)(j:Nat)(x:Operand):Operand:=stepOf ops j (stepOf ops j x)
def JO(ops:Array Oper)(j:Nat):Option Operand:=(ops[j]?).bind fun o=>(jk o.op).map (MP ops j)
def pf(ops:Array Oper)(i j:Nat):Bool :=match JO ops j with
 |some (.tmp d)=>(List.range ops.size).all fun m => !(decide (min i j≤m)&&decide (m<max i j)) || (match (ops[m]?).bind (·.dst) with|some d'=>d' != d|none=>true)
 |some _=>true
 |none=>false
def lh:AV→List Nat
 |.ref id _ _ _=>[id]
 |.bN id=>[id]
 |_=>[]
def abw(ops:Array Oper)(b:Array Nat)(i:Nat)(tmps:List (Nat×AV)):List Nat :=(List.range ops.size).flatMap fun j=>if j==i || (b.getD j 0).testBit i || (b.getD i 0).testBit j then[] else match JO ops j with
  |some x=>lh (ρ tmps x)
  |none=>[]
def late(ops:Array Oper)(j:Nat):Bool:=ops.size==50&&(j==27 || j==29)
def tN(ops:Array Oper)(b:Array Nat)(i:Nat)(tmps:List (Nat×AV))(o:Oper):Bool:=match jk o.op with
 |some x=>late ops i && !(lh (ρ tmps x)).isEmpty && !((List.range ops.size).all fun k=>k==i || (b.getD i 0).testBit k || (b.getD k 0).testBit i || (match ops[k]? with|some p => !BE p.op|none=>true) || pf ops k i)
 |none=>false
def ij(ops:Array Oper)(b:Array Nat)(i:Nat)(tmps:List (Nat×AV))(o:Oper):List Nat:=if BE o.op then abw ops b i tmps else if tN ops b i tmps o then[1] else[]
def MQ(ops:Array Oper)(b:Array Nat)(i:Nat):Bool :=(List.range ops.size).all fun j =>j==i || (b.getD j 0).testBit i || (b.getD i 0).testBit j || (match ops[j]? with|some o=>oI o.op|none=>true) || ((match ops[i]? with|some o=>BE o.op|none=>false)&&(pf ops i j || (late ops j&&(match ops[j]? with|some o=>(jk o.op).isSome|none=>false))))
def ahead(rid:Nat)(MR:Nat)(h:Heap):Heap:=h.filter fun p=>(p.1 / 32768 != rid+1) || MR.testBit (p.1 / 256%128)
def jl(n:Nat)(o:Oper):Bool :=match o.dst with
 |some d=>decide (d<n)
 |none=>true
end
def u6(rid bits id:Nat):Bool:=(id / 32768 != rid+1) || bits.testBit (id / 256%128)
mutual
def ve(rid bits:Nat):AV→Bool
 |.ref id _ _ _=>u6 rid bits id
 |.bN id=>u6 rid bits id
 |.fn _ cap=>Cr rid bits cap
 |.agg cs=>Cr rid bits cs
 |.oG vs=>Cr rid bits vs
 |.no=>true
 |.bool _=>true
 |.int _ _=>true
 |.str _=>true
 |.mg=>true
 |.gh=>true
 |.fp _ _ _=>true
 |.sl _ _ _=>true
 |.mp _ _ _=>true
def Cr(rid bits:Nat):List AV→Bool
 |[]=>true
 |v::r=>ve rid bits v&&Cr rid bits r
end
def As(rid bits:Nat):Heap→Bool
 |[]=>true
 |(id,.box _ cs)::r=>u6 rid bits id&&Cr rid bits cs&&As rid bits r
 |(id,.own _ _)::r=>u6 rid bits id&&As rid bits r
def ib(draw:Bool)(rid:Nat)(ops:Array Oper)(b:Array Nat)(i MR:Nat):bF→Bool
 |.wr v h=>(!draw || MQ ops b i)&&ve rid (MR ||| 2 ^ i) v&&As rid (MR ||| 2 ^ i) h
 |.new v os=>ve rid (MR ||| 2 ^ i) v&&(os.all fun p=>p.1 / 256==(rid+1)*128+i)&&As rid (MR ||| 2 ^ i) os
 |.val v=>ve rid MR v
def fO(ft:List Nat)(hp h:Heap):Heap:=(ft.filterMap fun i=>(hp.get i).map fun o=>(i,o))++h
def il(ft:List Nat)(hp:Heap):bF→bF
 |.wr v h=>.wr v (fO ft hp h)
 |.val v=>.val v
 |.new v os=>.new v os
mutual
def sH(ft:List Nat):AV→Bool
 |.ref id _ _ _ => !(ft.contains id)
 |.bN id => !(ft.contains id)
 |.fn _ cap=>vN ft cap
 |.agg cs=>vN ft cs
 |.oG vs=>vN ft vs
 |.no=>true
 |.bool _=>true
 |.int _ _=>true
 |.str _=>true
 |.mg=>true
 |.gh=>true
 |.fp _ _ _=>true
 |.sl _ _ _=>true
 |.mp _ _ _=>true
def vN(ft:List Nat):List AV→Bool
 |[]=>true
 |v::r=>sH ft v&&vN ft r
end
def vO(ft:List Nat):Heap→Bool
 |[]=>true
 |(id,.box _ cs)::r => !(ft.contains id)&&(vN ft cs&&vO ft r)
 |(id,.own _ _)::r => !(ft.contains id)&&vO ft r
def mM(ft:List Nat):bF→Bool
 |.wr v h=>sH ft v&&vO ft h
 |.val _ => !(ft.contains 1)
 |.new _ _=>true
section
variable (P:Program) (Eqs:TypeId→Option K) (Sg:FuncId→Option aO) (F:(f:FuncId)→(g:aO)→g.A→Option g.B)
variable {R:Type}
noncomputable def sI(n:Nat)(f:Nat→Option R):Option R:=open Classical in if h:∃r,∀j,j<n→f j=some r then some (Classical.choose h) else none
def Bm(m:Nat)(d:AV):AV→AV
 |.bN i=>if i=m then d else .bN i
 |v=>v
def qD(id:Nat)(st:St)(o:Oper):Option St :=match o.op with
 |.range t x=>match P.underlying t,ρ st.tmps x with
  |some (.map _ _),.bN m=>match st.heap.get m with
   |some (.own (.map kk vk) es)=>some (({ tmps:=st.tmps.map fun p=>(p.1,Bm m (.mp kk vk es) p.2),heap:=(id,.own (.iter kk vk) (none,es))::st.heap.del m }:St).put o.dst (.bN id))
   |_=>none
  |_,_=>none
 |_=>none
def wT(o:Oper):Option Operand :=match o.op with
 |.next x false=>some x
 |_=>none
noncomputable def mh(h:Heap)(x:AV)(K:AV→Heap→Option R):Option R :=match x with
 |.bN id=>match h.get id with
  |some (.own (.iter kk vk) p)=>cond p.2.isEmpty (K (.oG [.bool false]) h) (sI p.2.length fun j=>(p.2[j]?).bind fun c=>K (.oG [.bool true,b6 kk c.1,b6 vk c.2]) (h.set id (.own (.iter kk vk) (some c,p.2.eraseIdx j))))
  |_=>none
 |_=>none
def isNil(o:Oper):Option (Operand×Bool) :=match o.op with
 |.binOp op t x (.const v) _=>match op,P.underlying t,yG v with
  |.eql,some (.slice _),.gh=>some (x,true)
  |.neq,some (.slice _),.gh=>some (x,false)
  |_,_,_=>none
 |_=>none
noncomputable def wU(h:Heap)(x:AV)(want:Bool)(K:AV→Option R):Option R :=match c9 h x with
 |.gh=>K (.bool want)
 |.sl _ _ xs=>cond xs.isEmpty (sI 2 fun j=>K (.bool ((j==0)==want))) (K (.bool (!want)))
 |_=>none
noncomputable def bJ(rid:Nat)(draw:Bool)(ops:Array Oper)(b:Array Nat):List (Nat×Oper)→St→(St→Option R)→Option R
 |[],st,K=>K st
 |(i,o)::r,st,K =>
  let run (st:St):Option R :=match (if draw then none else qD P (opId rid i) st o) with
   |some fk=>bJ rid draw ops b r fk K
   |none =>
   match (if draw then none else wT o) with
   |some x=>mh st.heap (ρ st.tmps x) fun v h=>bJ rid draw ops b r (({ st with heap:=h }:St).put o.dst v) K
   |none =>
   match (if draw then none else isNil P o) with
   |some (x,want)=>wU st.heap (ρ st.tmps x) want fun v=>bJ rid draw ops b r (st.put o.dst v) K
   |none =>
   if draw then
    da P Eqs Sg F (opId rid i) (iv (ahead rid (b.getD i 0) st.heap) (ij ops b i st.tmps o)) st.tmps o fun e =>if ib true rid ops b i (b.getD i 0) (il (ij ops b i st.tmps o) (ahead rid (b.getD i 0) st.heap) e)&&mM (ij ops b i st.tmps o) e then
      bJ rid draw ops b r ({ st with heap:=match il (ij ops b i st.tmps o) (ahead rid (b.getD i 0) st.heap) e with | .wr _ h=>h|e=>e.h st.heap }.put o.dst e.v) K else none
   else
    da P Eqs Sg F (opId rid i) st.heap st.tmps o fun e =>if ib false rid ops b i (2 ^ i-1) e then bJ rid draw ops b r ({ st with heap:=match e with | .wr _ h=>h|e=>e.h st.heap }.put o.dst e.v) K else none
  let skip (st:St):Option R:=bJ rid draw ops b r (st.put o.dst (.oG [])) K
  match o.guard with
  |none=>run st
  |some (j,want) =>
   match (ops[j]?).bind (·.dst) with
   |none=>none
   |some d =>
    match look st.tmps d with
    |.bool t=>cond t (if want then run (st.put (some d) (.bool true)) else skip (st.put (some d) (.bool true))) (if want then skip (st.put (some d) (.bool false)) else run (st.put (some d) (.bool false)))
    |.oG _=>skip st
    |_=>none
end
mutual
def bP(rid:Nat):AV→AV
 |.ref id s i off=>if id / 32768=rid+1 then .no else .ref id s i off
 |.bN id=>if id / 32768=rid+1 then .no else .bN id
 |.fn f cap=>.fn f (mN rid cap)
 |.agg cs=>.agg (mN rid cs)
 |.oG vs=>.oG (mN rid vs)
 |.no=>.no
 |.bool b=>.bool b
 |.int k n=>.int k n
 |.str s=>.str s
 |.mg=>.mg
 |.gh=>.gh
 |.fp k x off=>.fp k x off
 |.sl ex k xs=>.sl ex k xs
 |.mp kk vk es=>.mp kk vk es
def mN(rid:Nat):List AV→List AV
 |[]=>[]
 |v::r=>bP rid v::mN rid r
end
def Cs(rid:Nat):Ob→Ob
 |.box ty cs=>.box ty (mN rid cs)
 |.own ok x=>.own ok x
def mO(draw:Bool)(rid:Nat)(ops:Array Oper)(st:St):St :=if draw || ops.any (makes ·.op) then
  { tmps:=st.tmps.map fun p=>(p.1,bP rid p.2),heap:=(st.heap.filter fun p=>p.1 / 32768 != rid+1).map fun p=>(p.1,Cs rid p.2) }
 else st
section
variable (P:Program) (Eqs:TypeId→Option K) (Sg:FuncId→Option aO) (F:(f:FuncId)→(g:aO)→g.A→Option g.B)
variable {R:Type}
noncomputable def jm(n rid:Nat)(ops:Array Oper)(draw:Bool)(st:St)(K:St→Option R):Option R :=let b:=if draw then Region.before ops else #[]
 if(ops.all fun o=>jl n o)&&(!draw || (wS ops b&&(Cq ops b&&cg (ops.toList.filterMap (·.dst)))))&&decide (ops.size≤128) then
  bJ P Eqs Sg F rid draw ops b (ops.toList.zipIdx.map fun p=>(p.2,p.1)) (mO draw rid ops st) K
 else none
inductive Src where
 |slot (s:Nat)
 |cap (s j:Nat)
structure Shape where
 Bn:List (Nat×K)
 boxes:List (Src×Nat×BK)
 rows:List (Nat×Nat×OK)
 fns:List (Nat×FuncId×List Nat)
def Shape.ks(sh:Shape):List K:=sh.Bn.map (·.2)
def Shape.bs(sh:Shape):List BK:=sh.boxes.map (·.2.2)
def MS:List OK→Type
 |[]=>Unit
 |k::r=>k.T×MS r
abbrev Shape.T(sh:Shape):Type:=JK sh.ks×Aq sh.bs×MS (sh.rows.map (·.2.2))
def vP(st:St):(l:List (Nat×K))→Option (JK (l.map (·.2)))
 |[]=>some ()
 |(s,k)::r =>
  match ia k st.heap (look st.tmps s),vP st r with
  |some x,some y=>some (x,y)
  |_,_=>none
def ZX(st:St):Src→Option Nat
 |.slot s=>Gk (look st.tmps s)
 |.cap s j=>match look st.tmps s with
  |.fn _ cap=>match cap[j]? with
   |some v=>Gk v
   |none=>none
  |_=>none
def HW(st:St):List (Src×Nat×BK)→Option (List Nat)
 |[]=>some []
 |p::r=>match ZX st p.1,HW st r with
  |some i,some is=>some (i::is)
  |_,_=>none
def qE(st:St):(l:List (Nat×Nat×OK))→Option (MS (l.map (·.2.2)))
 |[]=>some ()
 |(s,_,ok)::r =>
  match eT st.heap ok (look st.tmps s),qE st r with
  |some x,some y=>some (x,y)
  |_,_=>none
def BF(st:St)(sh:Shape)(ids:List Nat):List AV:=(sh.Bn.flatMap fun p=>(look st.tmps p.1).cells)++gO sh.bs st.heap ids
def JP(st:St)(sh:Shape)(ids:List Nat):List Nat:=dk sh.bs st.heap ids++sh.rows.flatMap fun p=>qB (look st.tmps p.1)
def pj(st:St)(m:Nat):List (Nat×Nat×OK)→Bool
 |[]=>false
 |(s,id,_)::r=>(id==m&&(match look st.tmps s with | .bN i=>i==m|_=>false)) || pj st m r
def tO(sh:Shape):List Nat:=b7 sh.bs (sh.boxes.map (·.2.1)) 9000++sh.rows.map (·.2.1)
def OL(st:St)(ids:List (Nat×Nat)):List (Nat×FuncId×List Nat)→Bool
 |[]=>true
 |(s,f,HX)::r =>
  (match look st.tmps s with
  |.fn f' cap=>decide (f'=f)&&(match ku cap with|some is=>decide (is.map (fun i=>(ids.find? (·.1==i)).map (·.2))=HX.map some)|none=>false)
  |_=>false)&&OL st ids r
def cO(sh:Shape)(st:St):Option sh.T :=match HW st sh.boxes with
 |none=>none
 |some ids =>
  match vP st sh.Bn,dy sh.bs st.heap ids,qE st sh.rows,yO (JP st sh ids) (BF st sh ids)&&(cg (tO sh)&&((tO sh).all (fun m=>decide (2000≤m) || ((ids.zip (sh.boxes.map (·.2.1))).any fun p=>p.1==m&&p.2==m) || pj st m sh.rows)&&OL st (ids.zip (sh.boxes.map (·.2.1))) sh.fns)) with
  |some x,some y,some z,true=>some (x,y,z)
  |_,_,_,_=>none
def sJ:(l:List (Nat×K))→JK (l.map (·.2))→List (Nat×AV)
 |[],_=>[]
 |(s,k)::r,x=>(s,b6 k x.1)::sJ r x.2
def ky:List (Src×Nat×BK)→List (Nat×AV)
 |[]=>[]
 |(.slot s,id,_)::r=>(s,.ref id 0 0 0)::ky r
 |(.cap _ _,_,_)::r=>ky r
def BG(l:List (Nat×FuncId×List Nat)):List (Nat×AV):=l.map fun p=>(p.1,.fn p.2.1 (p.2.2.map fun i=>.ref i 0 0 0))
def sK:(l:List (Nat×Nat×OK))→MS (l.map (·.2.2))→Heap
 |[],_=>[]
 |(_,id,ok)::r,x=>(id,.own ok x.1)::sK r x.2
def aw(sh:Shape)(x:sh.T):St :={ tmps:=sJ sh.Bn x.1++(ky sh.boxes++(BG sh.fns++sh.rows.map fun p=>(p.1,.bN p.2.1))),heap:=bG sh.bs (sh.boxes.map (·.2.1)) 9000 x.2.1++sK sh.rows x.2.2 }
def tP:Code→Nat
 |.region id _ _=>id
 |.seq a _=>tP a
 |.block _ a=>tP a
 |.loop a=>tP a
 |.scope a=>tP a
 |_=>0
def Tp(s:Nat)(st:St):St:=match look st.tmps s with
 |.bN m=>match st.heap.get m with
  |some (.own (.row _ k) xs)=>{ tmps:=st.tmps.map fun p=>(p.1,Bm m (.sl false k xs) p.2),heap:=st.heap.del m }
  |_=>st
 |_=>st
def JQ(o:Option Shape)(st:St):St:=match o with
 |some sh=>sh.rows.foldl (fun st p=>Tp p.1 st) st
 |none=>st
noncomputable def aF(n:Nat)(ann:Nat→Option Shape)(J:(sh:Shape)→List Item→sh.T→Option R)(ret:St→Option R):Nat→List Item→St→Option R
 |0,_,_=>none
 |_+1,[],st=>ret st
 |m+1,.inBlock _::k,st=>aF n ann J ret m k st
 |m+1,.inScope _::k,st=>aF n ann J ret m k st
 |_+1,.inLoop c::k,st =>
  match ann (tP c) with
  |none=>none
  |some sh=>match cO sh st with
   |some x=>J sh (.inLoop c::k) x
   |none=>none
 |m+1,.code c::k,st =>
  match c with
  |.skip | .label _=>aF n ann J ret m k st
  |.seq a b=>aF n ann J ret m (.code a::.code b::k) st
  |.cond c a b=>match ρ st.tmps c with
   |.bool t=>cond t (aF n ann J ret m (.code a::k) st) (aF n ann J ret m (.code b::k) st)
   |_=>none
  |.block id c=>aF n ann J ret m (.code c::.inBlock id::k) st
  |.scope c=>aF n ann J ret m (.code c::.inScope c::k) st
  |.loop c=>aF n ann J ret m (.inLoop c::k) st
  |.exit id=>match exitTo id k with
   |some k'=>aF n ann J ret m k' st
   |none=>none
  |.ret=>ret st
  |.region id ops draw=>jm P Eqs Sg F n id ops draw (JQ (ann (500000+id)) st) fun fk=>aF n ann J ret m k fk
  |_=>none
 |_,_,_=>none
def Au(h:Heap)(tmps:List (Nat×AV))(rvs:List ResultVar):Option (List AV) :=match rvs with
 |[]=>some []
 |.tmp t::r=>match Au h tmps r with
  |some vs=>some (look tmps t::vs)
  |none=>none
 |.cell a t::r=>match look tmps a with
  |.ref id _ 0 off=>(match h.get id with
   |some (.box _ cs)=>(match eO P t (cs.drop off),Au h tmps r with
    |some v,some vs=>some (v::vs)
    |_,_=>none)
   |_=>none)
  |_=>none
def sL(g:aO)(fn:Func)(st:St):Option g.B :=match Au P st.heap st.tmps fn.results.toList with
 |none=>none
 |some vs =>
  match bO g.bs g.rs st.heap (aQ g.bs.length) vs,dy g.bs st.heap (aQ g.bs.length),
   yO (dk g.bs st.heap (aQ g.bs.length)++eE g.rs vs) (gP g.rs vs++gO g.bs st.heap (aQ g.bs.length))&&cg (sB g) with
  |some x,some y,true=>some (x,y)
  |_,_,_=>none
def entry(g:aO)(x:g.A):St :={ tmps:=aV g.ps (aQ g.bs.length) 0 x.1,heap:=bG g.bs (aQ g.bs.length) 2000 x.2 }
def fuel:Nat:=100000
end
section
variable (P:Program) (Eqs:TypeId→Option K) (Sg:FuncId→Option aO) (An:FuncId→Nat→Option Shape) (G:(f:FuncId)→(g:aO)→Option (g.A→Option g.B))
variable (F:(f:FuncId)→(g:aO)→g.A→Option g.B)
def body(f:FuncId):Option (Func×Code):=(P.funcs[f]?).bind fun fn=>fn.body.map fun c=>(fn,c)
noncomputable def nM(f:FuncId)(g:aO)(fn:Func):Nat→(sh:Shape)→List Item→sh.T→Option g.B
 |0,_,_,_=>none
 |n+1,sh,.inLoop c::k,x=>aF P Eqs Sg F fn.ntmps (An f) (nM f g fn n) (sL P g fn) fuel (.code c::.inLoop c::k) (aw sh x)
 |_+1,_,_,_=>none
noncomputable def MT(f:FuncId)(g:aO)(n:Nat)(x:g.A):Option g.B :=match body P (f%1000) with
 |none=>none
 |some (fn,c)=>if decide (g.ps.length≤fn.ntmps)&&decide (g.bs.length≤8) then aF P Eqs Sg F fn.ntmps (An f) (nM P Eqs Sg An F f g fn n) (sL P g fn) fuel [.code c] (entry g x) else none
end
section
variable (P:Program) (Eqs:TypeId→Option K) (Sg:FuncId→Option aO) (An:FuncId→Nat→Option Shape) (G:(f:FuncId)→(g:aO)→Option (g.A→Option g.B))
noncomputable def Fn:Nat→(f:FuncId)→(g:aO)→g.A→Option g.B
 |0,f,g,x=>match G f g with
  |some u=>u x
  |none=>none
 |m+1,f,g,x=>match G f g with
  |some u=>u x
  |none=>MT P Eqs Sg An (Fn m) f g m x
end
end Go.Vs
namespace Go.Vs
def sM:Code→List Item→List (List Item)
 |.seq a b,k=>sM a (.code b::k)++sM b k
 |.cond _ a b,k=>sM a k++sM b k
 |.block id c,k=>sM c (.inBlock id::k)
 |.scope c,k=>sM c (.inScope c::k)
 |.loop c,k=>(.inLoop c::k)::sM c (.inLoop c::k)
 |_,_=>[]
def aK(P:Program)(f:FuncId)(j:Nat):List Item :=match body P f with
 |some (_,c)=>(sM c []).getD j []
 |none=>[]
def round:List Item→List Item
 |.inLoop c::k=>.code c::.inLoop c::k
 |k=>k
theorem wV(a:Addr)(n m:Nat):(a.add n).add m=a.add (n+m):=by
 grind [Addr.add,Nat.add_assoc]
theorem Gl(a:Addr):a.add 0=a:=by rfl
theorem fP(a:Addr)(n:Nat):(a.add n).block=a.block:=by grind [Addr.add]
theorem ct(g i n:Nat):(⟨g,i,none⟩:Addr).add n=⟨g,i+n,none⟩:=by grind [Addr.add]
def cv(Z:Nat→Prop)(w w':World):Prop:=∀b,Z b→w'.heap[b]? = w.heap[b]?
theorem cv.refl(Z:Nat→Prop)(w:World):cv Z w w:=fun _ _=>rfl
theorem cv.trans{Z:Nat→Prop}{w w1 w2:World}(h:cv Z w w1)(k:cv Z w1 w2):cv Z w w2:=fun b hb=>(k b hb).trans (h b hb)
theorem cv.cell{Z:Nat→Prop}{w w':World}(h:cv Z w w'){a:Addr}(ha:Z a.block):w'.cell? a=w.cell? a:=World.cell?_of_block (h _ ha)
def aje{α:Type}(r:α→List Value→Prop)(Z:Nat→Prop)(sz:Nat)(w:World)(xs:List α)(v:Value):Prop :=∃A c,v=.slice A xs.length c∧xs.length≤c∧(A=none→c=0) ∧ ∀(i:Nat) (x:α),xs[i]? = some x→∃a us,A=some a∧Z a.block∧r x us∧∀(j:Nat) u,us[j]? = some u→w.cell? (a.add (i*sz+j))=some u
def HY{α β:Type}(ra:α→List Value→Prop)(rb:β→List Value→Prop)(pa pb:Bool)(es:List (α×β))(b8:List MapEntry):Prop :=es.length=b8.length∧∀(i:Nat) (x:α×β) (e:MapEntry),es[i]? = some x→b8[i]? = some e →(ra x.1 e.key.cells.toList∧(pa=true→∃vs,e.key=.agg vs)∧(pa=false→e.key.cells=#[e.key]))∧rb x.2 e.val.cells.toList∧(pb=true→∃vs,e.val=.agg vs)∧(pb=false→e.val.cells=#[e.val])
def aJ(Z:Nat→Prop)(w:World):(k:K)→k.T→List Value→Prop
 |.int ik,n,vs=>vs=[.int ik n]
 |.bool,b,vs=>vs=[.bool b]
 |.str,s,vs=>vs=[.string s]
 |.sl k,xs,vs=>∃v,vs=[v]∧aje (aJ Z w k) Z k.sz w xs v
 |.pair a b,x,vs=>∃us ws,vs=us++ws∧aJ Z w a x.1 us∧aJ Z w b x.2 ws
 |.one k,x,vs=>aJ Z w k x vs
 |.mp kk vk,es,vs=>∃A,vs=[.map A]∧((A=none∧es=[])∨∃m b8 clock,A=some m∧Z m∧w.heap[m]? = some (.map b8 clock)∧HY (aJ Z w kk) (aJ Z w vk) kk.isAgg vk.isAgg es b8.toList)
 |.fn f,_,vs=>vs=[.func (.func f) #[] #[]]
variable {Z Z':Nat→Prop} {w w':World}
theorem aJ.len:∀{k:K} {x:k.T} {vs:List Value},aJ Z w k x vs→vs.length=k.sz
 |.int _,_,_,h=>by simp only[aJ]at h;subst h;rfl
 |.bool,_,_,h=>by simp only[aJ]at h;subst h;rfl
 |.str,_,_,h=>by simp only[aJ]at h;subst h;rfl
 |.sl _,_,_,h=>by simp only[aJ]at h;obtain⟨v,rfl,_⟩:=h;rfl
 |.pair a b,x,_,h=>by simp only[aJ]at h;obtain⟨us,ws,rfl,h1,h2⟩:=h;rw[List.length_append,aJ.len h1,aJ.len h2];rfl
 |.one k,x,_,h=>by simp only[aJ]at h;exact aJ.len (k:=k) h
 |.mp _ _,_,_,h=>by simp only[aJ]at h;obtain⟨A,rfl,_⟩:=h;rfl
 |.fn _,_,_,h=>by simp only[aJ]at h;subst h;rfl
theorem K.gQ:∀k:K,0<k.sz
 |.int _=>Nat.one_pos
 |.bool=>Nat.one_pos
 |.str=>Nat.one_pos
 |.sl _=>Nat.one_pos
 |.pair a _=>ads (K.gQ a) (Nat.le_add_right _ _)
 |.one k=>K.gQ k
 |.mp _ _=>Nat.one_pos
 |.fn _=>Nat.one_pos
theorem aJ.one:∀{k:K} {x:k.T} {vs:List Value},aJ Z w k x vs→∀u∈vs,u.oneCell'=true
 |.int _,_,_,h=>by simp only[aJ]at h;subst h;simp[Value.oneCell']
 |.bool,_,_,h=>by simp only[aJ]at h;subst h;simp[Value.oneCell']
 |.str,_,_,h=>by simp only[aJ]at h;subst h;simp[Value.oneCell']
 |.sl _,_,_,h=>by simp only[aJ]at h;obtain⟨v,rfl,A,c,rfl,_⟩:=h;simp[Value.oneCell']
 |.pair a b,x,_,h=>by
  simp only[aJ]at h;obtain⟨us,ws,rfl,h1,h2⟩:=h;intro u hu;rcases ab6.1 hu with hu|hu
  ·exact aJ.one h1 u hu
  ·exact aJ.one h2 u hu
 |.one k,x,_,h=>by simp only[aJ]at h;exact aJ.one (k:=k) h
 |.mp _ _,_,_,h=>by simp only[aJ]at h;obtain⟨A,rfl,_⟩:=h;simp[Value.oneCell']
 |.fn _,_,_,h=>by simp only[aJ]at h;subst h;simp[Value.oneCell']
theorem HY.imp{α β:Type}{ra ra':α→List Value→Prop}{rb rb':β→List Value→Prop}{pa pb:Bool}(ha:∀x vs,ra x vs→ra' x vs)(hb:∀x vs,rb x vs→rb' x vs){es:List (α×β)}{b8:List MapEntry}(h:HY ra rb pa pb es b8):HY ra' rb' pa pb es b8 :=⟨h.1,fun i x e h1 h2=>by obtain⟨⟨a,b⟩,c,d⟩:=h.2 i x e h1 h2;simp_all⟩
theorem aJ.mono(hz:∀b,Z b→Z' b)(hs:cv Z w w'):∀{k:K} {x:k.T} {vs:List Value},aJ Z w k x vs→aJ Z' w' k x vs
 |.int _,_,_,h=>h
 |.bool,_,_,h=>h
 |.str,_,_,h=>h
 |.fn _,_,_,h=>h
 |.sl k,xs,_,h=>by simp only[aJ]at h ⊢;obtain⟨v,rfl,A,c,rfl,hl,hn,he⟩:=h;refine⟨_,rfl,A,c,rfl,hl,hn,fun i x hx=>?_⟩;obtain⟨a,us,ha,hza,hr,hc⟩:=he i x hx;refine⟨a,us,ha,hz _ hza,aJ.mono hz hs hr,fun j u hu=>?_⟩;rw[hs.cell (by rw[fP];exact hza)];exact hc j u hu
 |.pair a b,x,_,h=>by simp only[aJ]at h ⊢;obtain⟨us,ws,rfl,h1,h2⟩:=h;exact⟨us,ws,rfl,aJ.mono hz hs h1,aJ.mono hz hs h2⟩
 |.one k,x,_,h=>by simp only[aJ]at h ⊢;exact aJ.mono hz hs (k:=k) h
 |.mp kk vk,es,_,h=>by simp only[aJ]at h ⊢;obtain⟨A,rfl,h⟩:=h;refine⟨A,rfl,h.imp (fun h=>h) fun⟨m,b8,clock,h1,h2,h3,h4⟩=>⟨m,b8,clock,h1,hz _ h2,(hs m h2).trans h3,h4.imp (fun _ _ h=>aJ.mono hz hs h) (fun _ _ h=>aJ.mono hz hs h)⟩⟩
def Yc:Value→Nat
 |.pointer (some a)=>a.block
 |.slice (some a) _ _=>a.block
 |_=>0
def ob:Value→Option Nat
 |.pointer (some a)=>some a.block
 |.slice (some a) _ c=>if c=0 then none else some a.block
 |.map (some m)=>some m
 |_=>none
mutual
def aA(Z:Nat→Prop)(ψ:Nat→Value)(h:Nat→Option Ob)(w:World):AV→Value→Prop
 |.no,_=>True
 |.bool b,v=>v=.bool b
 |.int k n,v=>v=.int k n
 |.str s,v=>v=.string s
 |.mg,v=>v=.pointer none
 |.gh,v=>v=.slice none 0 0
 |.ref id s i off,v=>∃a,v=.pointer (some a)∧(h id≠none→a=⟨Yc (ψ id),i*s+off,none⟩)
 |.fp k x off,v=>∃a us,v=.pointer (some a)∧Z a.block∧aJ Z w k x us∧∀(j:Nat) u,us[off+j]? = some u→w.cell? (a.add j)=some u
 |.sl ex k xs,v=>aJ Z w (.sl k) xs [v]∧(ex=true→∃A c,v=.slice A c c)
 |.mp kk vk es,v=>aJ Z w (.mp kk vk) es [v]
 |.bN id,v=>(v.cells=#[v]∧v.oneCell'=true)∧(h id≠none→v=ψ id)
 |.fn f cap,v=>∃vs,v=.func (.func f) #[] vs∧au Z ψ h w cap vs.toList
 |.agg cs,v=>∃vs,v=.agg vs∧au Z ψ h w cs vs.toList
 |.oG cs,v=>∃vs,v=.tuple vs∧au Z ψ h w cs vs.toList
def au(Z:Nat→Prop)(ψ:Nat→Value)(h:Nat→Option Ob)(w:World):List AV→List Value→Prop
 |[],vs=>vs=[]
 |a::r,vs=>∃v us,vs=v::us∧aA Z ψ h w a v∧au Z ψ h w r us
end
mutual
def aL(p:Nat→Prop):AV→Prop
 |.ref id _ _ _=>p id
 |.bN id=>p id
 |.fn _ cap=>aC p cap
 |.agg cs=>aC p cs
 |.oG vs=>aC p vs
 |.no=>True
 |.bool _=>True
 |.int _ _=>True
 |.str _=>True
 |.mg=>True
 |.gh=>True
 |.fp _ _ _=>True
 |.sl _ _ _=>True
 |.mp _ _ _=>True
def aC(p:Nat→Prop):List AV→Prop
 |[]=>True
 |v::r=>aL p v∧aC p r
end
section
variable {Z Z':Nat→Prop} {w w':World} {ψ ψ':Nat→Value} {h h':Nat→Option Ob} {p:Nat→Prop}
mutual
theorem aA.move(hz:∀b,Z b→Z' b)(hs:cv Z w w')(hh:∀id,p id→h' id≠none→h id≠none∧ψ' id=ψ id):∀{a:AV} {v:Value},aL p a→aA Z ψ h w a v→aA Z' ψ' h' w' a v
 |.no,_,_,_=>by simp only[aA]
 |.bool b,_,_,hr=>by simpa only[aA] using hr
 |.int k n,_,_,hr=>by simpa only[aA] using hr
 |.str s,_,_,hr=>by simpa only[aA] using hr
 |.mg,_,_,hr=>by simpa only[aA] using hr
 |.gh,_,_,hr=>by simpa only[aA] using hr
 |.ref id s i off,_,hm,hr=>by simp only[aA,aL]at hr hm ⊢;obtain⟨a,rfl,ha⟩:=hr;refine⟨a,rfl,fun hn=>?_⟩;obtain⟨h1,h2⟩:=hh id hm hn;rw[h2];exact ha h1
 |.fp k x off,_,_,hr=>by simp only[aA]at hr ⊢;obtain⟨a,us,rfl,hza,hk,hc⟩:=hr;refine⟨a,us,rfl,hz _ hza,hk.mono hz hs,fun j u hu=>?_⟩;rw[hs.cell (by rw[fP];exact hza)];exact hc j u hu
 |.sl ex k xs,_,_,hr=>by simp only[aA]at hr ⊢;exact⟨aJ.mono hz hs hr.1,hr.2⟩
 |.mp kk vk es,_,_,hr=>by simp only[aA]at hr ⊢;exact aJ.mono hz hs hr
 |.bN id,_,hm,hr=>by simp only[aA,aL]at hr hm ⊢;refine⟨hr.1,fun hn=>?_⟩;obtain⟨h1,h2⟩:=hh id hm hn;rw[h2];exact hr.2 h1
 |.fn f cap,_,hm,hr=>by simp only[aA,aL]at hr hm ⊢;obtain⟨vs,rfl,hl⟩:=hr;exact⟨vs,rfl,au.move hz hs hh hm hl⟩
 |.agg cs,_,hm,hr=>by simp only[aA,aL]at hr hm ⊢;obtain⟨vs,rfl,hl⟩:=hr;exact⟨vs,rfl,au.move hz hs hh hm hl⟩
 |.oG cs,_,hm,hr=>by simp only[aA,aL]at hr hm ⊢;obtain⟨vs,rfl,hl⟩:=hr;exact⟨vs,rfl,au.move hz hs hh hm hl⟩
theorem au.move(hz:∀b,Z b→Z' b)(hs:cv Z w w')(hh:∀id,p id→h' id≠none→h id≠none∧ψ' id=ψ id):∀{a:List AV} {v:List Value},aC p a→au Z ψ h w a v→au Z' ψ' h' w' a v
 |[],_,_,hr=>by simpa only[au] using hr
 |a::r,_,hm,hr=>by simp only[au,aC]at hr hm ⊢;obtain⟨v,us,rfl,h1,h2⟩:=hr;exact⟨v,us,rfl,aA.move hz hs hh hm.1 h1,au.move hz hs hh hm.2 h2⟩
end
mutual
theorem aL.top:∀a:AV,aL (fun _=>True) a
 |.no=>by simp only[aL]
 |.bool b=>by simp only[aL]
 |.int k n=>by simp only[aL]
 |.str s=>by simp only[aL]
 |.mg=>by simp only[aL]
 |.gh=>by simp only[aL]
 |.ref id s i off=>by simp only[aL]
 |.fp k x off=>by simp only[aL]
 |.sl ex k xs=>by simp only[aL]
 |.mp kk vk es=>by simp only[aL]
 |.bN id=>by simp only[aL]
 |.fn f cap=>by simp only[aL];exact aC.top cap
 |.agg cs=>by simp only[aL];exact aC.top cs
 |.oG cs=>by simp only[aL];exact aC.top cs
theorem aC.top:∀a:List AV,aC (fun _=>True) a
 |[]=>by simp only[aC]
 |a::r=>by simp only[aC];exact⟨aL.top a,aC.top r⟩
end
theorem aA.less(hz:∀b,Z b→Z' b)(hs:cv Z w w')(hh:∀id,h' id≠none→h id≠none∧ψ' id=ψ id){a:AV}{v:Value}(hr:aA Z ψ h w a v):aA Z' ψ' h' w' a v :=aA.move (p:=fun _=>True) hz hs (fun id _ hn=>hh id hn) (aL.top a) hr
theorem au.less(hz:∀b,Z b→Z' b)(hs:cv Z w w')(hh:∀id,h' id≠none→h id≠none∧ψ' id=ψ id){a:List AV}{v:List Value}(hr:au Z ψ h w a v):au Z' ψ' h' w' a v :=au.move (p:=fun _=>True) hz hs (fun id _ hn=>hh id hn) (aC.top a) hr
theorem au.length:∀{a:List AV} {v:List Value},au Z ψ h w a v→a.length=v.length
 |[],_,hr=>by grind [au]
 |a::r,_,hr=>by simp only[au]at hr;obtain⟨v,us,rfl,_,h2⟩:=hr;simp[au.length h2]
theorem au.get:∀{a:List AV} {v:List Value} (i:Nat) {x:AV},au Z ψ h w a v→a[i]? = some x→∃u,v[i]? = some u∧aA Z ψ h w x u
 |[],_,i,x,_,hx=>by simp at hx
 |a::r,_,0,x,hr,hx=>by simp only[au]at hr;obtain⟨v,us,rfl,h1,h2⟩:=hr;simp only[List.getElem?_cons_zero,Option.some.injEq]at hx;subst hx;exact⟨v,rfl,h1⟩
 |a::r,_,i+1,x,hr,hx=>by simp only[au]at hr;obtain⟨v,us,rfl,h1,h2⟩:=hr;obtain⟨u,hu,hr⟩:=au.get i h2 (by simpa using hx);exact⟨u,by simpa using hu,hr⟩
theorem au.append:∀{a b:List AV} {v u:List Value},au Z ψ h w a v→au Z ψ h w b u→au Z ψ h w (a++b) (v++u)
 |[],b,_,u,hr,hb=>by grind [au]
 |a::r,b,_,u,hr,hb=>by simp only[au]at hr;obtain⟨v,us,rfl,h1,h2⟩:=hr;simp only[List.cons_append,au];exact⟨v,us++u,rfl,h1,au.append h2 hb⟩
theorem au.split:∀{a b:List AV} {v:List Value},au Z ψ h w (a++b) v→∃us ws,v=us++ws∧au Z ψ h w a us∧au Z ψ h w b ws
 |[],b,v,hr=>⟨[],v,rfl,by rfl,hr⟩
 |a::r,b,v,hr=>by simp only[List.cons_append,au]at hr;obtain⟨x,us,rfl,h1,h2⟩:=hr;obtain⟨jn,ws,rfl,h3,h4⟩:=au.split h2;exact⟨x::jn,ws,rfl,by simp only[au];grind,h4⟩
theorem au.drop(n:Nat){a:List AV}{v:List Value}(hr:au Z ψ h w a v):au Z ψ h w (a.drop n) (v.drop n):=by
 by_cases hn:n≤a.length
 ·have tQ:au Z ψ h w (a.take n++a.drop n) v:=by simp_all
  obtain⟨us,ws,rfl,h1,h2⟩:=au.split tQ;have hl:=h1.length;simp_all
 ·have:=hr.length
  grind [List.drop_eq_nil_of_le,au]
theorem au.take(n:Nat){a:List AV}{v:List Value}(hr:au Z ψ h w a v):au Z ψ h w (a.take n) (v.take n):=by
 by_cases hn:n≤a.length
 ·have tQ:au Z ψ h w (a.take n++a.drop n) v:=by simp_all
  obtain⟨us,ws,rfl,h1,h2⟩:=au.split tQ;have hl:=h1.length;simp_all
 ·have:=hr.length
  grind [List.take_of_length_le]
theorem au.set:∀{a:List AV} {v:List Value} (i:Nat) {x:AV} {u:Value},au Z ψ h w a v→aA Z ψ h w x u→au Z ψ h w (a.set i x) (v.set i u)
 |[],_,i,x,u,hr,_=>by simp only[au]at hr;subst hr;simp only[List.set_nil,au]
 |a::r,_,0,x,u,hr,hx=>by simp only[au]at hr;obtain⟨v,us,rfl,h1,h2⟩:=hr;simp only[List.set_cons_zero,au];exact⟨u,us,rfl,hx,h2⟩
 |a::r,_,i+1,x,u,hr,hx=>by simp only[au]at hr;obtain⟨v,us,rfl,h1,h2⟩:=hr;simp only[List.set_cons_succ,au];exact⟨v,_,rfl,h1,au.set i h2 hx⟩
theorem gZ:∀{k:K} {x:k.T} {vs:List Value},aJ Z w k x vs→au Z ψ h w (enc k x) vs
 |.int _,_,_,hr=>by simp only[aJ]at hr;subst hr;simp[enc,au,aA]
 |.bool,_,_,hr=>by simp only[aJ]at hr;subst hr;simp[enc,au,aA]
 |.str,_,_,hr=>by simp only[aJ]at hr;subst hr;simp[enc,au,aA]
 |.fn _,_,_,hr=>by simp only[aJ]at hr;subst hr;simp[enc,au,aA]
 |.sl k,xs,_,hr=>by have tQ:=hr;simp only[aJ]at tQ;obtain⟨v,rfl,_⟩:=tQ;simp only[enc,au,aA];exact⟨v,[],rfl,⟨hr,by simp⟩,rfl⟩
 |.pair a b,x,_,hr=>by simp only[aJ]at hr;obtain⟨us,ws,rfl,h1,h2⟩:=hr;simp only[enc];exact au.append (gZ h1) (gZ h2)
 |.one k,x,_,hr=>by simp only[aJ]at hr;simp only[enc];exact gZ (k:=k) hr
 |.mp kk vk,es,_,hr=>by have tQ:=hr;simp only[aJ]at tQ;obtain⟨A,rfl,_⟩:=tQ;simp only[enc,au,aA];exact⟨_,[],rfl,hr,rfl⟩
theorem Tq{k:K}{v:Value}(hr:aA Z ψ h w .gh v):aJ Z w (.sl k) [] [v]:=by simp only[aA]at hr;subst hr;simp only[aJ];exact⟨_,rfl,none,0,rfl,acf _,fun _=>rfl,fun i x hx=>by simp at hx⟩
theorem BH:∀{k:K} {cs:List AV} {x:k.T} {r:List AV} {vs:List Value},dec k cs=some (x,r)→au Z ψ h w cs vs→∃us ws,vs=us++ws∧aJ Z w k x us∧au Z ψ h w r ws
 |.int ik,cs,x,r,vs,hd,hr=>by
  simp only[dec]at hd;unfold HS at hd
  split at hd
  ·split at hd
   ·rename_i he;subst he
    cases hd
    simp only[au,aA]at hr;obtain⟨v,us,rfl,rfl,h2⟩:=hr;exact⟨[_],us,rfl,by simp only[aJ],h2⟩
   ·cases hd
  ·cases hd
 |.bool,cs,x,r,vs,hd,hr=>by
  simp only[dec]at hd;unfold BD at hd
  split at hd
  ·cases hd
   simp only[au,aA]at hr;obtain⟨v,us,rfl,rfl,h2⟩:=hr;exact⟨[_],us,rfl,by simp only[aJ],h2⟩
  ·cases hd
 |.str,cs,x,r,vs,hd,hr=>by
  simp only[dec]at hd;unfold HT at hd
  split at hd
  ·cases hd
   simp only[au,aA]at hr;obtain⟨v,us,rfl,rfl,h2⟩:=hr;exact⟨[_],us,rfl,by simp only[aJ],h2⟩
  ·cases hd
 |.sl k,cs,x,r,vs,hd,hr=>by
  simp only[dec]at hd;unfold OE at hd
  split at hd
  ·split at hd
   ·rename_i he;subst he
    cases hd
    simp only[au]at hr;obtain⟨v,us,rfl,h1,h2⟩:=hr;simp only[aA]at h1;exact⟨[_],us,rfl,h1.1,h2⟩
   ·cases hd
  ·cases hd
   simp only[au]at hr;obtain⟨v,us,rfl,h1,h2⟩:=hr;exact⟨[_],us,rfl,Tq h1,h2⟩
  ·cases hd
 |.pair a b,cs,x,r,vs,hd,hr=>by
  simp only[dec]at hd
  split at hd
  ·rename_i x1 r1 h1
   split at hd
   ·rename_i y1 r2 h2
    cases hd
    obtain⟨us,ws,rfl,k1,k2⟩:=BH h1 hr;obtain⟨jn,ws',rfl,k3,k4⟩:=BH h2 k2;exact⟨us++jn,ws',by rw[List.append_assoc],by simp only[aJ];exact⟨us,jn,rfl,k1,k3⟩,k4⟩
   ·cases hd
  ·cases hd
 |.one k,cs,x,r,vs,hd,hr=>by simp only[dec]at hd;obtain⟨us,ws,e,k1,k2⟩:=BH (k:=k) hd hr;exact⟨us,ws,e,by simp only[aJ];exact k1,k2⟩
 |.fn f,cs,x,r,vs,hd,hr=>by
  simp only[dec]at hd;unfold OH at hd
  split at hd
  ·split at hd
   ·rename_i he;subst he
    cases hd
    simp only[au,aA]at hr;obtain⟨v,us,rfl,⟨ws,rfl,h3⟩,h2⟩:=hr;obtain⟨ws⟩:=ws;have h3:ws=[]:=h3;subst h3;exact⟨[_],us,rfl,by simp only[aJ],h2⟩
   ·cases hd
  ·cases hd
 |.mp kk vk,cs,x,r,vs,hd,hr=>by
  simp only[dec]at hd;unfold OF at hd
  split at hd
  ·split at hd
   ·rename_i he;obtain⟨rfl,rfl⟩:=he
    cases hd
    simp only[au]at hr;obtain⟨v,us,rfl,h1,h2⟩:=hr;simp only[aA]at h1;exact⟨[_],us,rfl,h1,h2⟩
   ·cases hd
  ·cases hd
theorem dA{k:K}{cs:List AV}{x:k.T}{vs:List Value}(hd:dz k cs=some x)(hr:au Z ψ h w cs vs):aJ Z w k x vs:=by
 unfold dz at hd
 split at hd
 ·rename_i x' h1
  cases hd
  obtain⟨us,ws,rfl,k1,k2⟩:=BH h1 hr;simp only[au]at k2;subst k2;rw[List.append_nil];exact k1
 ·cases hd
theorem mP{k:K}{x:k.T}{v:Value}(hr:aJ Z w k x v.cells.toList)(hp:k.isAgg=true→∃vs,v=.agg vs)(hn:k.isAgg=false→v.cells=#[v]):aA Z ψ h w (b6 k x) v:=by
 cases k with
 |int ik=>rw[hn rfl]at hr;simp only[aJ]at hr;simp only[b6,aA];simpa using hr
 |bool=>rw[hn rfl]at hr;simp only[aJ]at hr;simp only[b6,aA];simpa using hr
 |str=>rw[hn rfl]at hr;simp only[aJ]at hr;simp only[b6,aA];simpa using hr
 |fn f=>rw[hn rfl]at hr;simp only[aJ]at hr;simp only[b6,aA];exact⟨#[],by simpa using hr,by simp[au]⟩
 |sl k=>rw[hn rfl]at hr;simp only[b6,aA];exact⟨hr,by simp⟩
 |mp kk vk=>rw[hn rfl]at hr;simp only[b6,aA];exact hr
 |pair a b =>obtain⟨vs,rfl⟩:=hp rfl;simp only[b6,aA];exact⟨vs,rfl,gZ hr⟩
 |one k =>obtain⟨vs,rfl⟩:=hp rfl;simp only[b6,aA];exact⟨vs,rfl,gZ hr⟩
end
end Go.Vs
namespace Go.Vs
theorem Heap.jo{n m:Nat}(bB:m≠n):∀h:Heap,(h.del n).get m=h.get m
 |[]=>rfl
 |(i,o)::r=>by
  simp only[Heap.del]
  split
  ·rename_i hi;rw[Heap.jo bB r];simp only[Heap.get];rw[if_neg (by omega)]
  ·simp only[Heap.get]
   split
   ·rfl
   ·exact Heap.jo bB r
theorem Heap.g6(n:Nat):∀h:Heap,(h.del n).get n=none
 |[]=>rfl
 |(i,o)::r=>by
  simp only[Heap.del]
  split
  ·exact Heap.g6 n r
  simp_all [Heap.get,if_neg,Heap.g6]
theorem Heap.wW(h:Heap)(n:Nat)(o:Ob):(h.set n o).get n=some o:=by simp[Heap.set,Heap.get]
theorem Heap.Ct{n m:Nat}(bB:m≠n)(h:Heap)(o:Ob):(h.set n o).get m=h.get m:=by simp only[Heap.set,Heap.get];rw[if_neg (by omega)];exact Heap.jo bB h
theorem Heap.wX{n m:Nat}{h:Heap}{o:Ob}(hg:(h.del n).get m=some o):h.get m=some o∧m≠n:=by
 grind [Heap.g6,Heap.jo]
theorem Heap.get_append(a b:Heap)(n:Nat):(a++b).get n=(match a.get n with|some o=>some o|none=>b.get n):=by
 induction a with
 |nil=>rfl
 |cons p r ih =>
  obtain⟨i,o⟩:=p;simp only[List.cons_append,Heap.get]
  split
  ·rfl
  ·exact ih
def lj(Z:Nat→Prop)(w:World)(k:K)(xs:List k.T)(vs:List Value):Prop :=∀(i:Nat) (x:k.T),xs[i]? = some x→aJ Z w k x ((vs.drop (i*k.sz)).take k.sz)
abbrev Hp:=Nat→Option Ob
def dW(w:World)(e:TypeId)(size:Nat)(v:Value)(n:Nat)(vs:List Value):Prop :=vs.length=n*size ∧((n=0∧∃A,v=.slice A 0 0) ∨ ∃g cap cur,v=.slice (some ⟨g,0,none⟩) n cap∧0<cap∧w.heap[g]? = some (.cells cur e (0,0))∧n≤cap∧cap≤maxLen∧cur.size=cap*size∧cur.toList.take (n*size)=vs)
theorem dW.of{w:World}{base e size n:Nat}{v:Value}{vs:List Value}(h:w.ownsRow base e size v n vs):dW w e size v n vs:=by
 obtain⟨h1,h2⟩:=h;refine⟨h1,?_⟩;rcases h2 with⟨rfl,h2⟩|⟨g,cap,cur,rfl,_,h3,h4,h5,h6,h7⟩
 ·simp_all
 ·by_cases hc:cap=0
  ·simp_all
  ·exact .inr ⟨g,cap,cur,rfl,by omega,h3,h4,h5,h6,h7⟩
theorem dW.slice{w:World}{e size n:Nat}{v:Value}{vs:List Value}(h:dW w e size v n vs):∃A c,v=.slice A n c:=by
 rcases h.2 with⟨h0,A,rfl⟩|⟨g,cap,cur,rfl,_⟩
 ·simp_all
 simp_all
theorem dW.one{w:World}{e size n:Nat}{v:Value}{vs:List Value}(h:dW w e size v n vs):v.cells=#[v]∧v.oneCell'=true:=by obtain⟨A,c,rfl⟩:=h.slice;exact⟨rfl,by rfl⟩
theorem dW.kept{w w':World}{e size n:Nat}{v:Value}{vs:List Value}(ho:dW w e size v n vs)(hk:∀g,ob v=some g→w'.heap[g]? = w.heap[g]?):dW w' e size v n vs:=by
 obtain⟨h1,h2⟩:=ho;refine⟨h1,?_⟩;rcases h2 with h2|⟨g,cap,cur,rfl,hc,hh,r⟩
 ·exact .inl h2
 ·exact .inr ⟨g,cap,cur,rfl,hc,(hk g (by simp only[ob];grind)).trans hh,r⟩
def jP(Z:Nat→Prop)(w:World):(ok:OK)→Value→ok.T→Prop
 |.row ty k,v,xs=>∃vs,dW w ty k.sz v xs.length vs∧lj Z w k xs vs
 |.map kk vk,v,es=>∃m b8 clock,v=.map (some m)∧w.heap[m]? = some (.map b8 clock)∧HY (aJ Z w kk) (aJ Z w vk) kk.isAgg vk.isAgg es b8.toList∧b8.toList.Pairwise (fun a b=>a.born≠b.born)∧∀e∈b8.toList,e.born<clock
 |.iter kk vk,v,x=>∃r m since seen b8 clock,v=.pointer (some ⟨r,0,none⟩)∧w.heap[r]? = some (.mapIter (some m) since seen clock)∧Z m∧w.heap[m]? = some (.map b8 clock) ∧ b8.toList.Pairwise (fun a b=>a.born≠b.born)∧since=clock∧(∀e∈b8.toList,e.born<clock)∧HY (aJ Z w kk) (aJ Z w vk) kk.isAgg vk.isAgg x.2 (b8.toList.filter fun e => !seen.contains e.born) ∧(match x.1 with|none=>True|some c=>∃e∈b8.toList,seen.back? = some e.born∧HY (aJ Z w kk) (aJ Z w vk) kk.isAgg vk.isAgg [c] [e])
 |.oZ,v,x=>∃r,v=.pointer (some ⟨r,0,none⟩)∧w.heap[r]? = some (.stringIter x.1 x.2)
theorem jP.lt{Z:Nat→Prop}{w:World}:∀{ok:OK} {v:Value} {x:ok.T} {b:Nat},jP Z w ok v x→ob v=some b→b<w.heap.size
 |.row ty k,v,xs,b,h,hb=>by
  obtain⟨vs,⟨_,h⟩,_⟩:=h;rcases h with⟨_,A,rfl⟩|⟨g,cap,cur,rfl,hc,h2,_⟩
  ·cases A<;>simp[ob]at hb
  ·simp only[ob]at hb
   grind
 |.map _ _,v,_,b,h,hb=>by
  obtain⟨m,b8,clock,rfl,h2,_⟩:=h
  grind [ob,Option.some.injEq,Array.getElem?_eq_some_iff]
 |.iter _ _,v,_,b,h,hb=>by
  obtain⟨r,m,since,seen,b8,clock,rfl,h2,_⟩:=h
  grind [ob,Option.some.injEq,Array.getElem?_eq_some_iff]
 |.oZ,v,_,b,h,hb=>by
  obtain⟨r,rfl,h2⟩:=h
  grind [ob,Option.some.injEq,Array.getElem?_eq_some_iff]
theorem jP.one{Z:Nat→Prop}{w:World}:∀{ok:OK} {v:Value} {x:ok.T},jP Z w ok v x→v.cells=#[v]∧v.oneCell'=true
 |.row ty k,v,xs,h=>by obtain⟨vs,h,_⟩:=h;obtain⟨A,c,rfl⟩:=h.slice;exact⟨rfl,by rfl⟩
 |.map _ _,v,_,h=>by obtain⟨m,b8,clock,rfl,_⟩:=h;exact⟨rfl,by rfl⟩
 |.iter _ _,v,_,h=>by obtain⟨r,m,since,seen,b8,clock,rfl,_⟩:=h;exact⟨rfl,by rfl⟩
 |.oZ,v,_,h=>by obtain⟨r,rfl,_⟩:=h;exact⟨rfl,by rfl⟩
theorem jP.kept{Z Z':Nat→Prop}{w w':World}(hz:∀b,Z b→Z' b)(sm:cv Z w w'):∀{ok:OK} {v:Value} {x:ok.T},(∀g,ob v=some g→w'.heap[g]? = w.heap[g]?)→jP Z w ok v x→jP Z' w' ok v x
 |.row ty k,v,xs,hk,h=>by obtain⟨vs,h1,h2⟩:=h;exact⟨vs,h1.kept hk,fun i x hx=>(h2 i x hx).mono hz sm⟩
 |.map _ _,v,_,hk,h=>by obtain⟨m,b8,clock,rfl,h2,h3,h4⟩:=h;exact⟨m,b8,clock,rfl,(hk m rfl).trans h2,h3.imp (fun _ _ h=>h.mono hz sm) (fun _ _ h=>h.mono hz sm),h4⟩
 |.iter _ _,v,x,hk,h=>by
  obtain⟨r,m,since,seen,b8,clock,rfl,h2,h3,h4,h5,h6,h7,h8,h9⟩:=h;refine⟨r,m,since,seen,b8,clock,rfl,(hk r rfl).trans h2,hz _ h3,(sm m h3).trans h4,h5,h6,h7,h8.imp (fun _ _ h=>h.mono hz sm) (fun _ _ h=>h.mono hz sm),?_⟩
  split
  ·trivial
  ·rename_i c hc;rw[hc]at h9;obtain⟨e,he,qq,Fg⟩:=h9;exact⟨e,he,qq,Fg.imp (fun _ _ h=>h.mono hz sm) (fun _ _ h=>h.mono hz sm)⟩
 |.oZ,v,_,hk,h=>by obtain⟨r,rfl,h2⟩:=h;exact⟨r,rfl,(hk r rfl).trans h2⟩
structure Good(Z:Nat→Prop)(ψ:Nat→Value)(h:Hp)(w:World)(B0:Nat)(O:Nat→Prop):Prop where
 box:∀id ty cs,h id=some (.box ty cs)→∃g vs,ψ id=.pointer (some ⟨g,0,none⟩)∧w.heap[g]? = some (.cells vs ty (0,0))∧au Z ψ h w cs vs.toList∧∀u∈vs.toList,u.oneCell'=true
 row:∀id ok x,h id=some (.own ok x)→jP Z w ok (ψ id) x
 live:∀id g,h id≠none→ob (ψ id)=some g→¬Z g∧(B0≤g∨O g)
 apart:∀id pe g,h id≠none→h pe≠none→ob (ψ id)=some g→ob (ψ pe)=some g→id=pe
 kz:∀b,Z b→b<w.heap.size
variable {Z Z':Nat→Prop} {ψ ψ':Nat→Value} {h h':Hp} {w w':World} {B0:Nat} {O:Nat→Prop}
theorem Good.sub(g:Good Z ψ h w B0 O)(hs:∀id o,h' id=some o→h id=some o):Good Z ψ h' w B0 O:=by
 have hn:∀id,h' id≠none→h id≠none:=fun id hn=>by obtain⟨o,ho⟩:=abS.1 hn;simp_all
 refine⟨fun id ty cs hb=>?_,fun id ok x hb=>g.row id ok x (hs _ _ hb),fun id b h1 h2=>g.live id b (hn id h1) h2,fun id pe b h1 h2 h3 h4=>g.apart id pe b (hn _ h1) (hn _ h2) h3 h4,g.kz⟩;obtain⟨b,vs,h1,h2,h3,h4⟩:=g.box id ty cs (hs _ _ hb);exact⟨b,vs,h1,h2,au.less (fun _ h=>h) (cv.refl _ _) (fun id bM=>⟨hn id bM,rfl⟩) h3,h4⟩
theorem Good.freeze(g:Good Z ψ h w B0 O)(hs:∀id o,h' id=some o→h id=some o)(hz:∀b,Z b→Z' b) (Cu:∀b,Z' b→Z b∨∃id,h id≠none∧h' id=none∧ob (ψ id)=some b):Good Z' ψ h' w B0 O:=by
 have hn:∀id,h' id≠none→h id≠none:=fun id hn=>by obtain⟨o,ho⟩:=abS.1 hn;simp_all
 have lt:∀id b,h id≠none→ob (ψ id)=some b→b<w.heap.size:=by
  intro id b h1 h2;obtain⟨o,ho⟩:=abS.1 h1
  cases o with
  |box ty cs =>
   obtain⟨gg,vs,e1,e2,_⟩:=g.box id ty cs ho
   grind [ob,Option.some.injEq,Array.getElem?_eq_some_iff]
  |own ok x=>exact(g.row id ok x ho).lt h2
 refine⟨fun id ty cs hb=>?_,fun id ok x hb=>?_,fun id b h1 h2=>⟨fun hzb=>?_,(g.live id b (hn id h1) h2).2⟩,fun id pe b h1 h2 h3 h4=>g.apart id pe b (hn _ h1) (hn _ h2) h3 h4,fun b hb=>?_⟩
 ·obtain⟨b,vs,h1,h2,h3,h4⟩:=g.box id ty cs (hs _ _ hb);exact⟨b,vs,h1,h2,au.less hz (cv.refl _ _) (fun id bM=>⟨hn id bM,rfl⟩) h3,h4⟩
 ·exact(g.row id ok x (hs _ _ hb)).kept hz (cv.refl _ _) (fun _ _=>rfl)
 ·rcases Cu b hzb with h3|⟨pe,h3,h4,h5⟩
  ·exact(g.live id b (hn id h1) h2).1 h3
  ·have:=g.apart id pe b (hn id h1) h3 h2 h5;simp_all
 ·rcases Cu b hb with h3|⟨pe,h3,h4,h5⟩
  ·exact g.kz b h3
  grind
theorem wY{ty:TypeId}{k:K}{xs:List k.T}{v:Value}{vs:List Value}(ho:dW w ty k.sz v xs.length vs)(hv:lj Z w k xs vs)(hz:∀b,Z b→Z' b)(hb:∀b,ob v=some b→Z' b) :
  aJ Z' w (.sl k) xs [v]:=by
 simp only[aJ];refine⟨v,rfl,?_⟩;obtain⟨hl,e⟩:=ho;rcases e with⟨h0,A,rfl⟩|⟨g,cap,cur,rfl,Fh,hh,hc,_,hs,ajg⟩
 ·have:xs=[]:=abY h0;subst this;exact⟨A,0,rfl,acf _,fun _=>rfl,fun i x hx=>by simp at hx⟩
 ·refine⟨some ⟨g,0,none⟩,cap,rfl,hc,fun e=>(by cases e),fun i x hx=>?_⟩;have hi:i<xs.length:=(abC.1 hx).1;refine⟨⟨g,0,none⟩,_,rfl,hb g (by simp only[ob];rw[if_neg (by omega)]),(hv i x hx).mono hz (cv.refl _ _),fun j u hu=>?_⟩;rw[ct,Nat.zero_add];simp only[World.cell?,hh];rw[List.getElem?_take]at hu
  split at hu
  ·rename_i hj;rw[List.getElem?_drop]at hu;rw[←ajg,List.getElem?_take]at hu
   split at hu
   ·simpa using hu
   ·cases hu
  ·cases hu
theorem Gm{hh:Heap}{a:AV}{v:Value}(g:Good Z ψ hh.get w B0 O)(hz:∀b,Z b→Z' b)(hb:∀id b,a=.bN id→hh.get id≠none→ob (ψ id)=some b→Z' b)(hr:aA Z ψ hh.get w a v):aA Z' ψ hh.get w (c9 hh a) v:=by
 unfold c9
 split
 ·rename_i id
  split
  ·rename_i ty k xs hg;simp only[aA]at hr;have hv:=hr.2 (by rw[hg];simp);subst hv;obtain⟨vs,h1,h2⟩:=g.row id (.row ty k) xs hg;simp only[aA];exact⟨wY h1 h2 hz (fun b hbb=>hb id b rfl (by rw[hg];simp) hbb),by simp⟩
  ·rename_i kk vk es hg;simp only[aA]at hr;have hv:=hr.2 (by rw[hg];simp);subst hv;obtain⟨m,b8,clock,h1,h2,h3,_⟩:=g.row id (.map kk vk) es hg;simp only[aA,aJ];refine⟨some m,by rw[h1],.inr ⟨m,b8,clock,rfl,hb id m rfl (by rw[hg];simp) (by rw[h1];rfl),h2,h3.imp (fun _ _ h=>h.mono hz (cv.refl _ _)) (fun _ _ h=>h.mono hz (cv.refl _ _))⟩⟩
  grind [aA]
 ·exact hr.less hz (cv.refl _ _) (fun id bM=>⟨bM,rfl⟩)
theorem pn{hh:Heap}(g:Good Z ψ hh.get w B0 O)(hz:∀b,Z b→Z' b):∀{cs:List AV} {vs:List Value},(∀id b,AV.bN id∈cs→hh.get id≠none→ob (ψ id)=some b→Z' b)→au Z ψ hh.get w cs vs→au Z' ψ hh.get w (cs.map (c9 hh)) vs
 |[],_,_,hr=>by simpa only[au,List.map_nil] using hr
 |a::r,_,hb,hr=>by simp only[au,List.map_cons]at hr ⊢;obtain⟨v,us,rfl,h1,h2⟩:=hr;exact⟨v,us,rfl,Gm g hz (fun id b e=>hb id b (by rw[e];simp)) h1,pn g hz (fun id b e=>hb id b (abA _ e)) h2⟩
theorem QB(hh:Heap)(a:AV):∀id o,(drop1 hh a).get id=some o→hh.get id=some o:=by
 intro id o hg;unfold drop1 at hg
 grind [Heap.wX]
theorem eP:∀(cs:List AV) (hh:Heap),∀id o,(cS hh cs).get id=some o→hh.get id=some o
 |[],_,_,_,hg=>hg
 |c::r,hh,id,o,hg=>QB hh c id o (eP r (drop1 hh c) id o hg)
theorem Cv:∀(cs:List AV) (hh:Heap) (id:Nat),AV.bN id∈cs→(cS hh cs).get id=none
 |[],_,_,hm=>by simp at hm
 |c::r,hh,id,hm=>by
  simp only[cS];rcases abD.1 hm with rfl|hm
  ·cases hg:(cS (drop1 hh (.bN id)) r).get id with
   |none=>rfl
   |some o =>have:=eP r _ id o hg;simp only[drop1,Heap.g6]at this;cases this
  ·exact Cv r _ id hm
theorem qF:∀(cs:List AV) (hh:Heap) (id:Nat),AV.bN id∉cs→(cS hh cs).get id=hh.get id
 |[],_,_,_=>rfl
 |c::r,hh,id,hm=>by
  simp only[cS];rw[qF r _ id (fun h=>hm (List.mem_cons_of_mem _ h))];unfold drop1
  split
  ·rename_i pe;exact Heap.jo (fun e=>hm (by rw[e];simp)) hh
  ·rfl
def so(Z:Nat→Prop)(ψ:Nat→Value)(h:Hp)(cs:List AV):Nat→Prop:=fun b=>Z b∨∃id,AV.bN id∈cs∧h id≠none∧ob (ψ id)=some b
theorem jq{hh:Heap}(g:Good Z ψ hh.get w B0 O)(cs:List AV):Good (so Z ψ hh.get cs) ψ (cS hh cs).get w B0 O :=g.freeze (eP cs hh) (fun _ hb=>.inl hb) (fun b hb=>by
  rcases hb with hb|⟨id,h1,h2,h3⟩
  ·exact .inl hb
  grind [id,Cv])
end Go.Vs
namespace Go.Vs
def Own(ψ:Nat→Value)(h:Hp)(b:Nat):Prop:=∃id,h id≠none∧ob (ψ id)=some b
structure cT(ψ:Nat→Value)(h:Hp)(w w':World):Prop where
 os:w'.os=w.os
 tape:w'.tape=w.tape
 output:w'.output=w.output
 size:w.heap.size≤w'.heap.size
 block:∀b,b<w.heap.size→¬Own ψ h b→w'.heap[b]? = w.heap[b]?
structure Next(Z:Nat→Prop)(ψ:Nat→Value)(h:Hp)(w:World)(B0:Nat)(O:Nat→Prop)(N:Nat→Prop)(Z':Nat→Prop)(ψ':Nat→Value)(h':Hp)(w':World):Prop where
 gG:∀b,Z b→Z' b
 fj:∀b,Z' b→Z b∨Own ψ h b∨w.heap.size≤b
 keep:cT ψ h w w'
 ids:∀id,h' id≠none→(h id≠none∧ψ' id=ψ id)∨N id
 dE:Good Z' ψ' h' w' B0 O
variable {Z Z':Nat→Prop} {ψ ψ':Nat→Value} {h h':Hp} {w w':World} {B0:Nat} {O:Nat→Prop} {N:Nat→Prop}
theorem cT.refl(ψ:Nat→Value)(h:Hp)(w:World):cT ψ h w w:=⟨rfl,rfl,rfl,acf _,fun _ _ _=>rfl⟩
theorem cT.same(k:cT ψ h w w')(g:Good Z ψ h w B0 O):cv Z w w':=fun b hb=>k.block b (g.kz b hb) (fun⟨id,h1,h2⟩=>(g.live id b h1 h2).1 hb)
theorem Next.same(n:Next Z ψ h w B0 O N Z' ψ' h' w')(g:Good Z ψ h w B0 O):cv Z w w':=n.keep.same g
theorem Next.refl(g:Good Z ψ h w B0 O):Next Z ψ h w B0 O N Z ψ h w :=⟨fun _ h=>h,fun _ h=>.inl h,cT.refl _ _ _,fun _ bM=>.inl ⟨bM,rfl⟩,g⟩
theorem Next.rep(n:Next Z ψ h w B0 O N Z' ψ' h' w')(g:Good Z ψ h w B0 O){a:AV}{v:Value}(hm:aL (fun id=>¬N id) a)(hr:aA Z ψ h w a v):aA Z' ψ' h' w' a v :=hr.move n.gG (n.same g) (fun id hp bM=>(n.ids id bM).resolve_right hp) hm
theorem Good.bQ(g:Good Z ψ h w B0 O){b:Nat}(ho:Own ψ h b):b<w.heap.size:=by
 obtain⟨id,h1,h2⟩:=ho;obtain⟨o,ho⟩:=abS.1 h1
 cases o with
 |box ty cs =>
  obtain⟨gg,vs,e1,e2,_⟩:=g.box id ty cs ho
  grind [ob,Option.some.injEq,Array.getElem?_eq_some_iff]
 |own ok x=>exact(g.row id ok x ho).lt h2
theorem Good.more(g:Good Z ψ h w B0 O)(k:cT ψ h w w')(vf:∀b,Own ψ h b→w'.heap[b]? = w.heap[b]?) (hold:∀id,¬N id→h' id=h id∧ψ' id=ψ id) (bm:∀id ty cs,h id=some (.box ty cs)→aC (fun i=>¬N i) cs) (abx:∀id ty cs,N id→h' id=some (.box ty cs)→∃g vs,ψ' id=.pointer (some ⟨g,0,none⟩)∧w'.heap[g]? = some (.cells vs ty (0,0))∧au Z ψ' h' w' cs vs.toList∧∀u∈vs.toList,u.oneCell'=true) (pw:∀id ok x,N id→h' id=some (.own ok x)→jP Z w' ok (ψ' id) x) (Gn:∀id b,N id→h' id≠none→ob (ψ' id)=some b→w.heap.size≤b) (aby:∀id pe b,N id→N pe→h' id≠none→h' pe≠none→ob (ψ' id)=some b→ob (ψ' pe)=some b→id=pe) (hB:B0≤w.heap.size) :
  Next Z ψ h w B0 O N Z ψ' h' w':=by
 have yR:∀id,h' id≠none→(h id≠none∧ψ' id=ψ id)∨N id:=fun id bM=>by
  grind
 have sm:cv Z w w':=k.same g;have Gp:∀id b,¬N id→h' id≠none→ob (ψ' id)=some b→Own ψ h b:=fun id b hn h1 h2=>by obtain⟨e1,e2⟩:=hold id hn;exact⟨id,by rwa [e1]at h1,by rwa [e2]at h2⟩
 refine⟨fun _ h=>h,fun _ h=>.inl h,k,yR,⟨fun id ty cs hb=>?_,fun id ok x hb=>?_,fun id b h1 h2=>?_,fun id pe b h1 h2 h3 h4=>?_,fun b hb=>ads (g.kz b hb) k.size⟩⟩
 ·by_cases hn:N id
  ·grind
  ·obtain⟨e1,e2⟩:=hold id hn;rw[e1]at hb;obtain⟨gg,vs,h1,h2,h3,h4⟩:=g.box id ty cs hb;have ho:Own ψ h gg:=⟨id,by rw[hb];simp,by rw[h1];rfl⟩;exact⟨gg,vs,by rw[e2,h1],(vf gg ho).trans h2,h3.move (fun _ h=>h) sm (fun i hp bM=>(yR i bM).resolve_right hp) (bm id ty cs hb),h4⟩
 ·by_cases hn:N id
  ·simp_all
  ·obtain⟨e1,e2⟩:=hold id hn;rw[e1]at hb;rw[e2];exact(g.row id ok x hb).kept (fun _ h=>h) sm (fun gg QC=>vf gg ⟨id,by rw[hb];simp,QC⟩)
 ·by_cases hn:N id
  ·have:=Gn id b hn h1 h2;exact⟨fun hz=>by have:=g.kz b hz;omega,.inl (by omega)⟩
  ·obtain⟨e1,e2⟩:=hold id hn;rw[e1]at h1;rw[e2]at h2;exact g.live id b h1 h2
 ·by_cases hn:N id<;>by_cases QD:N pe
  ·grind
  ·have:=Gn id b hn h1 h3;have:=g.bQ (Gp pe b QD h2 h4);omega
  ·have:=Gn pe b QD h2 h4;have:=g.bQ (Gp id b hn h1 h3);omega
  ·obtain⟨e1,e2⟩:=hold id hn;obtain⟨e3,e4⟩:=hold pe QD;rw[e1]at h1;rw[e2]at h3;rw[e3]at h2;rw[e4]at h4;exact g.apart id pe b h1 h2 h3 h4
end Go.Vs
namespace Go.Vs
variable {P:Program} {Z Z':Nat→Prop} {ψ ψ':Nat→Value} {h h':Hp} {w w':World} {B0:Nat} {O:Nat→Prop} {N:Nat→Prop}
theorem tR{α:Type}:∀(vs cs:List α) (off:Nat),off+vs.length≤cs.length→eL cs off vs=cs.take off++vs++cs.drop (off+vs.length)
 |[],cs,off,_=>by simp[eL]
 |v::r,cs,off,hl=>by
  simp only[List.length_cons]at hl;simp only[eL];rw[tR r (cs.set off v) (off+1) (by rw[List.length_set];omega)];have h1:(cs.set off v).take (off+1)=cs.take off++[v]:=by rw[List.take_set,List.take_succ_eq_append_getElem (by omega),List.set_append_right _ _ (by rw[List.length_take];omega)];rw[List.length_take,Nat.min_eq_left (by omega)];simp
  have h2:(cs.set off v).drop (off+1+r.length)=cs.drop (off+(r.length+1)):=by rw[List.drop_set_of_lt (by omega)];congr 1;omega
  rw[h1,h2,List.append_assoc,List.append_assoc,List.append_assoc];rfl
theorem gR{t:TypeId}{b:Bool}(hb:Gh P t=some b):(isAgg t).run P w=.ok b w:=by
 unfold Gh at hb;obtain⟨d,hd,rfl⟩:=adj.1 hb;simp only[isAgg,Sem.run_bind,run_underlying hd,Result.andThen_ok]
 cases d<;>rfl
theorem vg{t:TypeId}{d:TypeDesc}(hd:P.underlying t=some d):∃i,P.info? t=some i:=by
 grind [Program.underlying]
theorem dm{t:TypeId}{i:TypeInfo}(hi:P.info? t=some i):(sizeOf t).run P w=.ok (P.cellsOf t) w:=by simp[sizeOf,typeInfo,hi,Program.cellsOf]
theorem Av{t:TypeId}{b:Bool}(hb:Gh P t=some b):∃i,P.info? t=some i:=by unfold Gh at hb;obtain⟨d,hd,rfl⟩:=adj.1 hb;exact vg hd
theorem kA{t:TypeId}{cs:List AV}{us:List Value}{a:Addr}{x:AV}(hr:au Z ψ h w cs us)(hc:∀(j:Nat) u,us[j]? = some u→w.cell? (a.add j)=some u)(hx:eO P t cs=some x) :
  ∃V,(Instr.loadAt t (.pointer (some a))).run P w=.ok V w∧aA Z ψ h w x V:=by
 unfold eO at hx;have hlen:=hr.length
 split at hx
 ·rename_i hb
  split at hx
  ·rename_i hl
   cases hx
   obtain⟨i,hi⟩:=Av hb;refine⟨.agg (us.take (P.cellsOf t)).toArray,?_,by simp only[aA];exact⟨_,rfl,by simpa using hr.take (P.cellsOf t)⟩⟩;have aN:(us.take (P.cellsOf t)).length=P.cellsOf t:=by simp_all
   have hld:=run_loadCells_list (P:=P) w a (us.take (P.cellsOf t)) (fun j v hv=>hc j v (by
    grind))
   simp_all [Instr.loadAt,Instr.sureAddr,loadVar,gR,dm]
  ·cases hx
 ·rename_i hb
  split at hx
  ·rename_i c r
   cases hx
   simp only[au]at hr;obtain⟨v,jn,rfl,h1,h2⟩:=hr;refine⟨v,?_,h1⟩;have:=hc 0 v rfl;simp_all [Gl,Instr.loadAt,Instr.sureAddr,loadVar,gR]
  ·cases hx
 ·cases hx
theorem l6{t:TypeId}{i:TypeInfo}(hi:P.info? t=some i)(g off:Nat)(V:Value)(cur:Array Value)(ty:TypeId)(hg:w.heap[g]? = some (.cells cur ty (0,0)))(hs:V.cells.size=P.cellsOf t) (hl:off+V.cells.size≤cur.size) (h1:∀v∈V.cells.toList,v.oneCell'=true) :
  (Instr.storeAt t (.pointer (some ⟨g,off,none⟩)) V).run P w=.ok () (w.setRow g (cur.toList.take off++V.cells.toList++cur.toList.drop (off+V.cells.size)).toArray):=by
 have vQ:=run_storeCells_at P g off ty V.cells.toList 0 cur w hg (by simpa using hl) h1;simp_all [Nat.add_zero,Array.length_toList,Instr.storeAt,Instr.sureAddr,storeVar,dm]
def dY{α:Type}(f:Nat→α)(i:Nat)(v:α):Nat→α:=fun j=>if j=i then v else f j
theorem bh{α:Type}(f:Nat→α)(i:Nat)(v:α):dY f i v i=v:=by simp[dY]
theorem dB{α:Type}(f:Nat→α){i j:Nat}(v:α)(bB:j≠i):dY f i v j=f j:=by simp[dY,bB]
theorem cT.alloc(ψ:Nat→Value)(h:Hp)(w:World)(o:Obj):cT ψ h w (w.alloc o) :=⟨rfl,rfl,rfl,by simp_all,fun b hb _=>heap_alloc_old w o hb⟩
theorem wZ(g:Good Z ψ h w B0 O)(hB:B0≤w.heap.size)(id:Nat)(ty:TypeId){cs:List AV}{vs:Array Value}(hN:N id)(hr:au Z ψ h w cs vs.toList)(h1:∀u∈vs.toList,u.oneCell'=true) (bm:∀i ty cs,h i=some (.box ty cs)→aC (fun i=>i≠id) cs) (hm:aC (fun i=>i≠id) cs) :
  Next Z ψ h w B0 O N Z (dY ψ id (.pointer (some ⟨w.heap.size,0,none⟩))) (dY h id (some (.box ty cs))) (w.alloc (.cells vs ty)):=by
 have n:Next Z ψ h w B0 O (·=id) Z (dY ψ id (.pointer (some ⟨w.heap.size,0,none⟩))) (dY h id (some (.box ty cs))) (w.alloc (.cells vs ty)):=by
  refine g.more (cT.alloc _ _ _ _) (fun b hb=>heap_alloc_old w _ (g.bQ hb)) (fun i hi=>⟨dB _ _ hi,dB _ _ hi⟩) (fun i Jz cs' hb=>?_) (fun i Jz cs' hi hb=>?_) (fun i ok x hi hb=>?_) (fun i b hi bB hb=>?_) (fun i i' b hi yz _ _ _ _=>by omega) hB
  ·grind
  ·subst hi;rw[bh]at hb;cases hb;refine⟨w.heap.size,vs,bh _ _ _,heap_alloc_new _ _,?_,h1⟩;refine hr.move (fun _ h=>h) ((cT.alloc ψ h w _).same g) (fun j hj bB=>?_) hm
   grind [dB]
  ·grind [bh]
  grind [bh,ob,Option.some.injEq]
 exact⟨n.gG,n.fj,n.keep,fun i hi=>(n.ids i hi).imp (fun h=>h) (fun e=>by simp_all),n.dE⟩
theorem Ts{h:Hp}{id:Nat}{o:Ob}(bM:h id≠none):∀i,dY h id (some o) i≠none→h i≠none:=fun i hi=>by
 grind [id,dB]
theorem Good.write(g:Good Z ψ h w B0 O)(id:Nat)(bM:h id≠none)(k:cT ψ h w w')(Tt:∀b,ob (ψ id)≠some b→b<w.heap.size→w'.heap[b]? = w.heap[b]?)(o':Ob) (abx:∀ty cs,o'=.box ty cs→∃gg vs,ψ id=.pointer (some ⟨gg,0,none⟩)∧w'.heap[gg]? = some (.cells vs ty (0,0))∧au Z ψ h w' cs vs.toList∧∀u∈vs.toList,u.oneCell'=true) (pw:∀ok x,o'=.own ok x→jP Z w' ok (ψ id) x) :
  Next Z ψ h w B0 O N Z ψ (dY h id (some o')) w':=by
 have hs:=Ts (o:=o') bM;have sm:=k.same g;refine⟨fun _ h=>h,fun _ h=>.inl h,k,fun i hi=>.inl ⟨hs i hi,rfl⟩,⟨fun i ty cs hb=>?_,fun i ok x hb=>?_,fun i b h1 h2=>g.live i b (hs i h1) h2,fun i i' b h1 h2 h3 h4=>g.apart i i' b (hs i h1) (hs i' h2) h3 h4,fun b hb=>ads (g.kz b hb) k.size⟩⟩
 ·by_cases e:i=id
  ·subst e;rw[bh]at hb;cases hb;obtain⟨gg,vs,h1,h2,h3,h4⟩:=abx _ _ rfl;exact⟨gg,vs,h1,h2,h3.less (fun _ h=>h) (cv.refl _ _) (fun j hj=>⟨hs j hj,rfl⟩),h4⟩
  ·rw[dB _ _ e]at hb;obtain⟨gg,vs,h1,h2,h3,h4⟩:=g.box i ty cs hb;refine⟨gg,vs,h1,?_,h3.less (fun _ h=>h) sm (fun j hj=>⟨hs j hj,rfl⟩),h4⟩;rw[Tt gg (fun hh=>e (g.apart i id gg (by rw[hb];simp) bM (by rw[h1];rfl) hh)) (Array.getElem?_eq_some_iff.1 h2).1];exact h2
 ·by_cases e:i=id
  ·subst e;rw[bh]at hb;cases hb;exact pw _ _ rfl
  ·rw[dB _ _ e]at hb;exact(g.row i ok x hb).kept (fun _ h=>h) sm (fun gg QC=>Tt gg (fun hh=>e (g.apart i id gg (by rw[hb];simp) bM QC hh)) (g.bQ ⟨i,by rw[hb];simp,QC⟩))
theorem cT.setRow{gg:Nat}(ho:Own ψ h gg)(arr:Array Value):cT ψ h w (w.setRow gg arr) :=⟨rfl,rfl,rfl,by simp[World.setRow],fun b _ hb=>by have:gg≠b:=fun e=>hb (e▸ho);simp[World.setRow,Array.getElem?_modify,this]⟩
theorem setRow_other{gg b:Nat}(arr:Array Value)(bB:gg≠b):(w.setRow gg arr).heap[b]? = w.heap[b]? := by simp[World.setRow,Array.getElem?_modify,bB]
theorem Cw(g:Good Z ψ h w B0 O){id:Nat}{ty:TypeId}{cs vs:List AV}(hb:h id=some (.box ty cs)){t:TypeId}{i:TypeInfo}(hi:P.info? t=some i){off:Nat}{V:Value} (hv:au Z ψ h w vs V.cells.toList) (h1:∀u∈V.cells.toList,u.oneCell'=true) (hs:V.cells.size=P.cellsOf t) (hl:off+vs.length≤cs.length) {a:Addr} (ha:a=⟨Yc (ψ id),off,none⟩) :
  ∃w',(Instr.storeAt t (.pointer (some a)) V).run P w=.ok () w'∧Next Z ψ h w B0 O N Z ψ (dY h id (some (.box ty (eL cs off vs)))) w':=by
 obtain⟨gg,arr,e1,e2,e3,e4⟩:=g.box id ty cs hb;have hlen:=hv.length;have Tu:=e3.length;simp only[Array.length_toList]at hlen Tu;have bM:h id≠none:=by rw[hb];simp
 have ho:Own ψ h gg:=⟨id,bM,by rw[e1];rfl⟩;rw[e1]at ha;simp only[Yc]at ha;subst ha;refine⟨_,l6 hi gg off V arr ty e2 hs (by omega) h1,?_⟩;have kk:=cT.setRow (w:=w) ho ((arr.toList.take off++V.cells.toList++arr.toList.drop (off+V.cells.size)).toArray);refine g.write id bM kk (fun b hb _=>setRow_other _ (fun e=>hb (by grind [ob]))) _ (fun Jz cs' he=>?_) (fun _ _ he=>by cases he)
 cases he
 refine⟨gg,_,e1,setRow_heap w gg arr _ ty _ e2,?_,?_⟩
 ·rw[tR _ _ _ hl];have h5:au Z ψ h w (cs.take off++vs++cs.drop (off+vs.length)) (arr.toList.take off++V.cells.toList++arr.toList.drop (off+V.cells.size)):=by rw[←hlen];exact((e3.take off).append hv).append (e3.drop (off+vs.length))
  exact h5.less (fun _ h=>h) (kk.same g) (fun j hj=>⟨hj,rfl⟩)
 grind
theorem abz{α:Type}(cur V:List α)(m off sz L:Nat)(h:off+V.length≤sz)(h1:m+sz≤L)(h2:L≤cur.length) :
  ((cur.take (m+off)++V++cur.drop (m+off+V.length)).take L |>.drop m |>.take sz)=((cur.drop m).take sz).take off++V++((cur.drop m).take sz).drop (off+V.length):=by
 apply adz;intro q;simp only[List.getElem?_take,List.getElem?_drop,List.getElem?_append,List.length_append,List.length_take,List.length_drop]
 grind
theorem Yd{α:Type}(cur V:List α)(m off sz L p:Nat)(h:off+V.length≤sz)(h1:m+sz≤L)(h2:L≤cur.length)(h3:p+sz≤L)(h4:p+sz≤m∨m+sz≤p) :
  ((cur.take (m+off)++V++cur.drop (m+off+V.length)).take L |>.drop p |>.take sz)=(cur.drop p).take sz:=by
 apply adz;intro q;simp only[List.getElem?_take,List.getElem?_drop,List.getElem?_append,List.length_append,List.length_take]
 grind
theorem aJ.py{k:K}{x:k.T}{vs us:List Value}(e:vs=us)(hr:aJ Z w k x vs):aJ Z w k x us:=e▸hr
theorem Cx(g:Good Z ψ h w B0 O){id:Nat}{ty:TypeId}{kk:K}{xs:List kk.T}(hb:h id=some (.own (.row ty kk) xs)){t:TypeId}{i:TypeInfo}(hi:P.info? t=some i){n off:Nat}{x y:kk.T}{V:Value} (hx:xs[n]? = some x) (hs:V.cells.size=P.cellsOf t) (hl:off+V.cells.size≤kk.sz) {a:Addr} (ha:a=⟨Yc (ψ id),n*kk.sz+off,none⟩) (hy:∀us,aJ Z w kk x us→aJ Z w kk y (us.take off++V.cells.toList++us.drop (off+V.cells.size))) (h1:∀u∈V.cells.toList,u.oneCell'=true) :
  ∃w',(Instr.storeAt t (.pointer (some a)) V).run P w=.ok () w'∧Next Z ψ h w B0 O N Z ψ (dY h id (some (.own (.row ty kk) (xs.set n y)))) w':=by
 obtain⟨vs,ho,hv⟩:=g.row id (.row ty kk) xs hb;have bM:h id≠none:=by rw[hb];simp
 have hn:n<xs.length:=(abC.1 hx).1;have Fh:=kk.gQ;have hmul:n*kk.sz+kk.sz≤xs.length*kk.sz:=by rw[←Nat.succ_mul];exact acd _ hn
 obtain⟨hl1,e⟩:=ho;rcases e with⟨h0,_⟩|⟨gg,cap,cur,e1,e2,e3,e4,e5,e6,e7⟩
 ·omega
 have Tv:xs.length*kk.sz≤cap*kk.sz:=acd _ e4;have oV:ob (ψ id)=some gg:=by rw[e1];simp only[ob];rw[if_neg (by omega)]
 have ho:Own ψ h gg:=⟨id,bM,oV⟩;have JR:a=⟨gg,n*kk.sz+off,none⟩:=by rw[ha,e1];rfl
 subst JR;refine⟨_,l6 hi gg (n*kk.sz+off) V cur ty e3 hs (by omega) h1,?_⟩;have hk:=cT.setRow (w:=w) ho ((cur.toList.take (n*kk.sz+off)++V.cells.toList++cur.toList.drop (n*kk.sz+off+V.cells.size)).toArray);have sm:=hk.same g;refine g.write id bM hk (fun b hb _=>setRow_other _ (fun e=>hb (by rw[oV,e]))) _ (fun _ _ he=>by cases he) (fun X9 x' he=>?_)
 cases he
 have vR:cur.toList.length=cap*kk.sz:=by rw[Array.length_toList];exact e6
 have hVl:V.cells.toList.length=V.cells.size:=Array.length_toList
 let gM:=cur.toList.take (n*kk.sz+off)++V.cells.toList++cur.toList.drop (n*kk.sz+off+V.cells.size)
 have Fi:gM.length=cap*kk.sz:=by simp only[gM,List.length_append,List.length_take,List.length_drop,vR,hVl];omega
 have S4:(xs.set n y).length=xs.length:=List.length_set;have oW:vs=cur.toList.take (xs.length*kk.sz):=e7.symm;refine⟨gM.take (xs.length*kk.sz),⟨by rw[List.length_take,Fi,S4];omega,.inr ⟨gg,cap,gM.toArray,by rw[S4];exact e1,e2,setRow_heap w gg cur _ ty _ e3,by rw[S4];exact e4,e5,by simpa using Fi,by rw[S4]⟩⟩,fun j z hz=>?_⟩;have hj:j<xs.length:=by have:=(abC.1 hz).1;rwa [S4]at this
 have hmj:j*kk.sz+kk.sz≤xs.length*kk.sz:=by rw[←Nat.succ_mul];exact acd _ hj
 have Ye:∀p,p+kk.sz≤xs.length*kk.sz→(vs.drop p).take kk.sz=(cur.toList.drop p).take kk.sz:=fun p hp=>by rw[oW,List.drop_take,List.take_take,Nat.min_eq_left (by omega)]
 by_cases S5:j=n
 ·subst S5;rw[List.getElem?_set_self hn]at hz;cases hz;have hu:=hy _ (hv j x hx);rw[Ye _ hmj,←hVl]at hu;refine aJ.mono (fun _ h=>h) sm (aJ.py ?_ hu);have:=abz cur.toList V.cells.toList (j*kk.sz) off kk.sz (xs.length*kk.sz) (by omega) hmj (by omega);rw[←this,hVl]
 ·rw[List.getElem?_set_ne (fun e=>S5 e.symm)]at hz;have hu:=hv j z hz;rw[Ye _ hmj]at hu;refine aJ.mono (fun _ h=>h) sm (aJ.py ?_ hu);have h4:j*kk.sz+kk.sz≤n*kk.sz∨n*kk.sz+kk.sz≤j*kk.sz:=by
   rcases Nat.lt_or_ge j n with h|h
   ·left;rw[←Nat.succ_mul];exact acd _ h
   ·right;rw[←Nat.succ_mul];exact acd _ (by omega)
  have:=Yd cur.toList V.cells.toList (n*kk.sz) off kk.sz (xs.length*kk.sz) (j*kk.sz) (by omega) hmul (by omega) hmj h4;rw[←this,hVl]
theorem vS{k:K}{ys:List k.T}{u:Value}(hr:aJ Z w (.sl k) ys [u]) :
  (u=.slice none 0 0∧ys=[])∨∃a c news,u=.slice (some a) ys.length c∧ys.length≤c∧news.length=ys.length*k.sz∧(∀(j:Nat) q,news[j]? = some q→w.cell? (a.add j)=some q)∧(∀q∈news,q.oneCell'=true)∧lj Z w k ys news:=by
 simp only[aJ]at hr;obtain⟨v,hv,A,c,rfl,hl,hn,he⟩:=hr
 cases hv
 cases A with
 |none =>simp_all
 |some a =>
  right;have OM:∀i (hi:i<ys.length),∃us,aJ Z w k ys[i] us∧∀(j:Nat) u,us[j]? = some u→w.cell? (a.add (i*k.sz+j))=some u:=fun i hi=>by simp_all
  have Fh:=k.gQ
  let news:=(List.range (ys.length*k.sz)).map fun j=>(w.cell? (a.add j)).getD default
  have ZY:∀j,j<ys.length*k.sz→∃q,w.cell? (a.add j)=some q∧q.oneCell'=true:=fun j hj=>by
   have hi:j / k.sz<ys.length:=Nat.div_lt_of_lt_mul (by grind);obtain⟨us,h3,h4⟩:=OM (j / k.sz) hi;have hm:j%k.sz<us.length:=by rw[h3.len];exact adJ _ Fh
   refine⟨us[j%k.sz],?_,h3.one _ (acV hm)⟩
   grind [List.getElem?_eq_getElem,Nat.mul_comm,Nat.div_add_mod]
  have sN:∀j,j<ys.length*k.sz→∃q,news[j]? = some q∧w.cell? (a.add j)=some q:=fun j hj=>by
   grind
  have hlen:news.length=ys.length*k.sz:=by simp[news]
  refine⟨a,c,news,rfl,hl,hlen,fun j q hq=>?_,fun q hq=>?_,fun i x hx=>?_⟩
  ·grind
  ·grind
  ·have hi:i<ys.length:=(abC.1 hx).1;obtain⟨us,h3,h4⟩:=OM i hi;rw[List.getElem?_eq_getElem hi]at hx;cases hx;refine aJ.py ?_ h3;have hul:=h3.len;have hmul:i*k.sz+k.sz≤ys.length*k.sz:=by rw[←Nat.succ_mul];exact acd _ hi
   apply adz
   grind
theorem QE{hh:Heap}(g:Good Z ψ hh.get w B0 O){x:AV}{u:Value}{k:K}{ys:List k.T}(hx:rowOf hh x k=some ys)(hr:aA Z ψ hh.get w x u) :
  (u=.slice none 0 0∧ys=[])∨∃a c news,u=.slice (some a) ys.length c∧ys.length≤c∧news.length=ys.length*k.sz∧(∀(j:Nat) q,news[j]? = some q→w.cell? (a.add j)=some q)∧(∀q∈news,q.oneCell'=true)∧lj Z w k ys news:=by
 unfold rowOf at hx
 split at hx
 ·rename_i ex k' xs heq
  split at hx
  ·rename_i e;subst e
   cases hx
   cases x with
   |sl ex' k'' xs' =>
    simp only[c9]at heq
    cases heq
    simp only[aA]at hr;exact vS hr.1
   |bN id =>
    simp only[c9]at heq
    split at heq
    ·rename_i ty kk zs hg
     cases heq
     simp only[aA]at hr;have hv:=hr.2 (by rw[hg];simp);subst hv;obtain⟨vs,ho,hv⟩:=g.row id (.row ty _) _ hg;have h1:=vS (wY (Z':=fun b=>Z b∨ob (ψ id)=some b) ho hv (fun b hb=>.inl hb) (fun b hb=>.inr hb));rcases h1 with h1|⟨a,c,news,h1,h2,h3,h4,h5,_⟩
     ·exact .inl h1
     ·right;refine⟨a,c,news,h1,h2,h3,h4,h5,?_⟩;have MU:news=vs:=by
       obtain⟨hl,e⟩:=ho;rcases e with⟨e,_⟩|⟨gg,cap,cur,e,_,e3,_,_,_,e7⟩
       ·rw[e,Nat.zero_mul]at h3 hl;rw[List.eq_nil_of_length_eq_zero h3,List.eq_nil_of_length_eq_zero hl]
       ·rw[e]at h1;cases h1;apply adz;intro j;by_cases hj:j<xs.length*k'.sz
        ·have hn:=h4 j _ (aa8 (by omega));rw[ct,Nat.zero_add]at hn;simp only[World.cell?,e3]at hn;have BI:vs[j]? = cur.toList[j]? := by rw[←e7,List.getElem?_take,if_pos hj]
         rw[BI,List.getElem?_eq_getElem (by omega)];simpa using hn.symm
        ·rw[List.getElem?_eq_none (by omega),List.getElem?_eq_none (by omega)]
      rw[MU];exact hv
    ·cases heq
    ·cases heq
   |_=>simp only[c9]at heq<;>cases heq
  ·cases hx
 ·rename_i heq
  cases hx
  cases x with
  |gh=>simp only[aA]at hr;exact .inl ⟨hr,rfl⟩
  |bN id=>simp only[c9]at heq;split at heq<;>cases heq
  |_=>simp only[c9]at heq<;>cases heq
 ·cases hx
structure oJ(P:Program)(e:TypeId)(k:K)(i:TypeInfo)(z:Value):Prop where
 info:P.info? e=some i
 zero:i.zero=some z
 size:i.size=k.sz
 w4:z.cells.size=k.sz
 bytes:i.bytes≤65536
theorem cj{e:TypeId}{k:K}(he:yH P e k=true):∃i z,oJ P e k i z:=by
 unfold yH at he
 split at he
 ·rename_i i hi
  split at he
  ·rename_i z hz;simp only[Bool.and_eq_true,decide_eq_true_eq]at he;exact⟨i,z,hi,hz,he.1,he.2.1,he.2.2⟩
  ·cases he
 ·cases he
theorem lj.append{k:K}{xs ys:List k.T}{vs us:List Value}(h1:lj Z w k xs vs)(h2:lj Z w k ys us)(hl:vs.length=xs.length*k.sz):lj Z w k (xs++ys) (vs++us):=fun i x hx=>by
 by_cases hi:i<xs.length
 ·rw[List.getElem?_append_left hi]at hx;have hm:i*k.sz+k.sz≤xs.length*k.sz:=by rw[←Nat.succ_mul];exact acd _ hi
  have h3:=h1 i x hx;rw[List.drop_append_of_le_length (by omega),List.take_append_of_le_length (by rw[List.length_drop];omega)];exact h3
 ·rw[List.getElem?_append_right (by omega)]at hx;have h3:=h2 (i-xs.length) x hx;have e:i*k.sz=vs.length+(i-xs.length)*k.sz:=by rw[hl,←Nat.add_mul];congr 1;omega
  rw[e,List.drop_append,List.drop_eq_nil_of_le (by omega),List.nil_append,Nat.add_sub_cancel_left];exact h3
theorem lj.Cz{k:K}{xs:List k.T}{vs:List Value}(h:lj Z w k xs vs)(sm:cv Z w w'):lj Z w' k xs vs:=fun i x hx=>(h i x hx).mono (fun _ h=>h) sm
theorem JS(g:Good Z ψ h w B0 O)(hB:B0≤w.heap.size)(id:Nat)(hN:N id){ok:OK}{x:ok.T}{v:Value}(kk:cT ψ h w w')(vf:∀b,Own ψ h b→w'.heap[b]? = w.heap[b]?) (ho:jP Z w' ok v x) (hb:∀b,ob v=some b→w.heap.size≤b) (bm:∀i ty cs,h i=some (.box ty cs)→aC (fun i=>i≠id) cs) :
  Next Z ψ h w B0 O N Z (dY ψ id v) (dY h id (some (.own ok x))) w':=by
 have n:Next Z ψ h w B0 O (·=id) Z (dY ψ id v) (dY h id (some (.own ok x))) w':=by
  refine g.more kk vf (fun i hi=>⟨dB _ _ hi,dB _ _ hi⟩) (fun i Jz cs' hb=>bm i Jz cs' hb) (fun i Jz cs' hi hb=>?_) (fun i ok x hi hb=>?_) (fun i b hi bB hbb=>?_) (fun i i' b hi yz _ _ _ _=>by omega) hB
  ·grind [bh]
  ·grind [bh]
  grind [bh]
 exact⟨n.gG,n.fj,n.keep,fun i hi=>(n.ids i hi).imp (fun h=>h) (fun e=>by simp_all),n.dE⟩
theorem pz(g:Good Z ψ h w B0 O)(hB:B0≤w.heap.size)(id:Nat)(ty:TypeId)(hN:N id){k:K}{xs:List k.T}{vs:List Value}{v:Value}(kk:cT ψ h w w')(vf:∀b,Own ψ h b→w'.heap[b]? = w.heap[b]?) (ho:dW w' ty k.sz v xs.length vs) (hv:lj Z w' k xs vs) (hb:∀b,ob v=some b→w.heap.size≤b) (bm:∀i ty cs,h i=some (.box ty cs)→aC (fun i=>i≠id) cs) :
  Next Z ψ h w B0 O N Z (dY ψ id v) (dY h id (some (.own (.row ty k) xs))) w':=JS g hB id hN (ok:=.row ty k) kk vf ⟨vs,ho,hv⟩ hb bm
theorem cT.grown{row:Option Nat}(hg:w.grownBy w' row)(hr:∀b,row=some b→Own ψ h b):cT ψ h w w' :=⟨hg.os,hg.tape,hg.output,hg.size,fun b hb hn=>hg.block b hb (fun e=>hn (hr b e.symm))⟩
theorem nV(g:Good Z ψ h w B0 O)(hB:B0≤w.heap.size)(id cI:Nat)(hN:N id){ok:OK}{x y:ok.T}(ho:h cI=some (.own ok x))(bB:cI≠id) (hg:w.grownBy w' (ob (ψ cI))) {v:Value} (hv:jP Z w' ok v y) (hb:ob v=ob (ψ cI)∨∀b,ob v=some b→w.heap.size≤b) (bm:∀i ty cs,h i=some (.box ty cs)→aC (fun i=>i≠id) cs) :
  Next Z ψ h w B0 O N Z (dY ψ id v) (dY (dY h cI none) id (some (.own ok y))) w':=by
 have hold:h cI≠none:=by rw[ho];simp
 have oV:∀b,ob (ψ cI)=some b→ob (ψ cI)=some b:=fun _ h=>h;have kk:cT ψ h w w':=cT.grown hg (fun b e=>⟨cI,hold,oV b e⟩);have sm:=kk.same g;have other:∀i b,h i≠none→i≠cI→ob (ψ i)=some b→w'.heap[b]? = w.heap[b]? := fun i b h1 h2 h3 =>hg.block b (g.bQ ⟨i,h1,h3⟩) (fun e=>h2 (g.apart i cI b h1 hold h3 (oV b e.symm)));have at_:∀i,i≠id→dY (dY h cI none) id (some (.own ok y)) i≠none→h i≠none∧i≠cI:=fun i hi h1=>by
  rw[dB _ _ hi]at h1;by_cases e:i=cI
  ·subst e;rw[bh]at h1;exact absurd rfl h1
  ·rw[dB _ _ e]at h1;exact⟨h1,e⟩
 have ids:∀i,dY (dY h cI none) id (some (.own ok y)) i≠none→(h i≠none∧dY ψ id v i=ψ i)∨i=id:=fun i h1=>by
  by_cases e:i=id
  ·exact .inr e
  ·exact .inl ⟨(at_ i e h1).1,dB _ _ e⟩
 have vob:∀b,ob v=some b→ob (ψ cI)=some b∨w.heap.size≤b:=fun b hbb=>by
  rcases hb with hb|hb
  ·left;rw[←hb];exact hbb
  ·right;exact hb b hbb
 refine⟨fun _ h=>h,fun _ h=>.inl h,kk,fun i h1=>(ids i h1).imp (fun h=>h) (fun e=>by subst e;exact hN),⟨fun i Jz cs r8=>?_,fun i X9 z r8=>?_,fun i b h1 h2=>?_,fun i i' b h1 h2 h3 h4=>?_,fun b hz=>ads (g.kz b hz) kk.size⟩⟩
 ·by_cases e:i=id
  ·subst e;rw[bh]at r8;cases r8
  ·have HZ:=at_ i e (by rw[r8];simp);rw[dB _ _ e,dB _ _ HZ.2]at r8;obtain⟨gg,us,h1,h2,h3,h4⟩:=g.box i Jz cs r8;refine⟨gg,us,by rw[dB _ _ e];exact h1,(other i gg HZ.1 HZ.2 (by rw[h1];rfl)).trans h2,?_,h4⟩;exact h3.move (fun _ h=>h) sm (fun j hj hn=>(ids j hn).resolve_right hj) (bm i Jz cs r8)
 ·by_cases e:i=id
  ·subst e;rw[bh]at r8;cases r8;rw[bh];exact hv
  ·have HZ:=at_ i e (by rw[r8];simp);rw[dB _ _ e,dB _ _ HZ.2]at r8;rw[dB _ _ e];exact(g.row i X9 z r8).kept (fun _ h=>h) sm (fun gg QC=>other i gg HZ.1 HZ.2 QC)
 ·by_cases e:i=id
  ·subst e;rw[bh]at h2;rcases vob b h2 with h3|h3
   ·exact g.live cI b hold h3
   ·exact⟨fun hz=>by have:=g.kz b hz;omega,.inl (by omega)⟩
  ·rw[dB _ _ e]at h2;exact g.live i b (at_ i e h1).1 h2
 ·have key:∀j,j≠id→dY (dY h cI none) id (some (.own ok y)) j≠none→ob (ψ j)=some b→ob v=some b→False:=fun j hj h5 h6 h7=>by
   obtain⟨h8,h9⟩:=at_ j hj h5;rcases vob b h7 with qq|qq
   ·exact h9 (g.apart j cI b h8 hold h6 qq)
   ·have:=g.bQ ⟨j,h8,h6⟩;omega
  by_cases e:i=id<;>by_cases e':i'=id
  ·rw[e,e']
  ·subst e;rw[bh]at h3;rw[dB _ _ e']at h4;exact(key i' e' h2 h4 h3).elim
  ·subst e';rw[bh]at h4;rw[dB _ _ e]at h3;exact(key i e h1 h3 h4).elim
  ·rw[dB _ _ e]at h3;rw[dB _ _ e']at h4;exact g.apart i i' b (at_ i e h1).1 (at_ i' e' h2).1 h3 h4
def Yf(w:World)(sz:Nat)(u:Value)(m:Nat)(news:List Value):Prop :=news.length=m*sz∧(∀q∈news,q.oneCell'=true)∧((u=.slice none 0 0∧m=0)∨∃a c,u=.slice (some a) m c∧∀(j:Nat) q,news[j]? = some q→w.cell? (a.add j)=some q)
theorem w5{hh:Heap}(g:Good Z ψ hh.get w B0 O){x:AV}{u:Value}{k:K}{ys:List k.T}(hx:rowOf hh x k=some ys)(hr:aA Z ψ hh.get w x u):∃news,Yf w k.sz u ys.length news∧lj Z w k ys news:=by
 rcases QE g hx hr with⟨rfl,rfl⟩|⟨a,c,news,h1,_,h2,h3,h4,h5⟩
 ·exact⟨[],⟨by simp,by simp,.inl ⟨rfl,rfl⟩⟩,fun i x hx=>by simp at hx⟩
 ·exact⟨news,⟨h2,h4,.inr ⟨a,c,h1,h3⟩⟩,h5⟩
theorem fQ{t ty e:TypeId}{i:TypeInfo}(ht:P.underlying t=some (.slice e))(hi:P.info? e=some i)(A:Option Addr)(n c:Nat)(hc:n≤c)(A':Option Addr)(c':Nat) :
  (Builtin.append_ #[t,t] ty #[.slice A n c,.slice A' 0 c']).run P w=.ok (.slice A n c) w:=by
 cases A<;>cases A'<;>simp[Builtin.append_,run_underlying ht,sizeOf,typeInfo,hi,Builtin.lenOf,Builtin.firstCells,hc,storeCells,loadCells,loadCellsFrom]
theorem dZ{t ty e:TypeId}{k:K}{i:TypeInfo}{z:Value}(ht:P.underlying t=some (.slice e))(he:oJ P e k i z){v:Value}{n:Nat}{xs:List Value}(ho:dW w e k.sz v n xs) {u:Value} {m:Nat} {news:List Value} (hu:Yf w k.sz u m news) (hm:n+m≤fB) :
  ∃v' w',(Builtin.append_ #[t,t] ty #[v,u]).run P w=.ok v' w'∧dW w' e k.sz v' (n+m) (xs++news)∧w.grownBy w' (ob v)∧(ob v'=ob v∨∀b,ob v'=some b→w.heap.size≤b):=by
 obtain⟨h1,h3,hu⟩:=hu;obtain⟨A0,c0,ZZ⟩:=ho.slice;by_cases hm0:m=0
 ·subst hm0;have adY:news=[]:=abY (by omega);subst adY;have Aw:n≤c0:=by
   rcases ho.2 with⟨h0,A,e⟩|⟨g,cap,cur,e,hc,h2,h3,_⟩
   ·omega
   simp_all
  refine⟨v,w,?_,by simpa using ho,World.grownBy.refl w _,.inl rfl⟩;subst ZZ;rcases hu with⟨rfl,_⟩|⟨a,c,rfl,_⟩<;>exact fQ ht he.info A0 n c0 Aw _ _
 ·rcases hu with⟨_,h0⟩|⟨a,c,rfl,h2⟩
  ·omega
  have hb:=he.bytes;unfold fB at hm;have sO:(n+m)*i.bytes≤140737488355328:=acE (aek hm hb) (by decide);have new:∀v',w.heap.size≤w.heap.size→∀(w':World),w'.ownsRow w.heap.size e k.sz v' (n+m) (xs++news)→∀b,ob v'=some b→w.heap.size≤b:=fun v' _ w' sq b hb=>by
   rcases sq.2 with⟨rfl,_⟩|⟨g,cap,cur,rfl,h5,_⟩
   ·omega
   grind [ob]
  rcases ho.2 with⟨rfl,A,rfl⟩|⟨g,cap,cur,rfl,Tv,h4,h5,h6,h7,h8⟩
  ·have Ax:xs=[]:=abY (by rw[ho.1,Nat.zero_mul]);subst Ax;have oV:ob (.slice A 0 0)=none:=by cases A<;>simp[ob]
   cases A with
   |none =>obtain⟨v',w',hr,h4,h5,_,h6⟩:=run_append_own_at (P:=P) w w.heap.size t ty e i z k.sz i.bytes ht he.info he.zero he.size rfl he.w4 k.gQ (.slice none 0 0) 0 [] ⟨by simp,.inl ⟨rfl,rfl⟩⟩ a m c news h1 h2 h3 (by grind [maxLen]) sO (acf _);exact⟨v',w',hr,dW.of h4,by rw[oV];exact h5,.inr (new v' (acf _) w' h4)⟩
   |some b0 =>obtain⟨v',w',hr,h4,h5⟩:=run_append_arg_grows (P:=P) w t ty e i z k.sz i.bytes ht he.info he.zero he.size rfl he.w4 k.gQ b0 0 0 [] (by simp) (by simp) a m c news h1 h2 (by omega) (by grind [maxLen]) sO;exact⟨v',w',hr,dW.of h4,by simp_all,.inr (new v' (acf _) w' h4)⟩
  ·have r9:w.ownsRow 0 e k.sz (.slice (some ⟨g,0,none⟩) n cap) n xs:=⟨ho.1,.inr ⟨g,cap,cur,rfl,adx _,h4,h5,h6,h7,h8⟩⟩;have oV:ob (.slice (some ⟨g,0,none⟩) n cap)=some g:=by simp only[ob];grind
   obtain⟨v',w',hr,h4,h5,_,h6⟩:=run_append_own_at (P:=P) w 0 t ty e i z k.sz i.bytes ht he.info he.zero he.size rfl he.w4 k.gQ _ n xs r9 a m c news h1 h2 h3 (by grind [maxLen]) sO (adx _);refine⟨v',w',hr,dW.of h4,by rw[oV];exact h5,?_⟩;rw[oV];rcases h4.2 with⟨rfl,h0⟩|⟨g',aji,gM,rfl,_,_,h9,_⟩
   ·omega
   ·have adZ:ob (.slice (some ⟨g',0,none⟩) (n+m) aji)=some g':=by simp only[ob];grind
    grind [Value.ownBlock,Option.some.injEq]
theorem aA.oK{h h':Hp}(hs:∀id o,h' id=some o→h id=some o){a:AV}{v:Value}(hr:aA Z ψ h w a v):aA Z ψ h' w a v :=hr.less (fun _ h=>h) (cv.refl _ _) (fun id bM=>by obtain⟨o,ho⟩:=abS.1 bM;simp_all)
theorem au.oK{h h':Hp}(hs:∀id o,h' id=some o→h id=some o){a:List AV}{v:List Value}(hr:au Z ψ h w a v):au Z ψ h' w a v :=hr.less (fun _ h=>h) (cv.refl _ _) (fun id bM=>by obtain⟨o,ho⟩:=abS.1 bM;simp_all)
theorem rI{hh:Heap}(g:Good Z ψ h w B0 O)(bz:∀id o,hh.get id=some o→h id=some o)(hB:B0≤w.heap.size){id:Nat}(hN:N id){t ty e:TypeId}{k:K}{i:TypeInfo}{z:Value}(ht:P.underlying t=some (.slice e))(he:oJ P e k i z) {x:AV} {u:Value} {ys:List k.T} (hx:rowOf hh x k=some ys) (hr:aA Z ψ h w x u) (hm:ys.length≤fB) (bm:∀i ty cs,h i=some (.box ty cs)→aC (fun i=>i≠id) cs) :
  ∃v' w',(Builtin.append_ #[t,t] ty #[.slice none 0 0,u]).run P w=.ok v' w'∧Next Z ψ h w B0 O N Z (dY ψ id v') (dY h id (some (.own (.row e k) ys))) w'∧v'.cells=#[v']∧v'.oneCell'=true:=by
 obtain⟨news,yS,hv⟩:=w5 (g.sub bz) hx (hr.oK bz);have MV:dW w e k.sz (.slice none 0 0) 0 []:=⟨by simp,.inl ⟨rfl,none,rfl⟩⟩;obtain⟨v',w',dn,h4,h5,h6⟩:=dZ (ty:=ty) ht he MV yS (by omega);have hg:w.grownBy w' none:=h5;have kk:cT ψ h w w':=cT.grown hg (fun b e=>by cases e);have sm:=kk.same g;refine⟨v',w',dn,pz g hB id e hN (vs:=news) kk (fun b hb=>hg.block b (g.bQ hb) (by simp)) (by simpa using h4) (fun i x hx=>(hv i x hx).mono (fun _ h=>h) sm) (fun b hb=>?_) bm,h4.one⟩
 grind [ob]
theorem Bo{hh:Heap}(g:Good Z ψ h w B0 O)(bz:∀id o,hh.get id=some o→h id=some o)(hB:B0≤w.heap.size){id cI:Nat}(hN:N id)(bB:cI≠id){t ty e:TypeId}{k:K}{i:TypeInfo}{z:Value}(ht:P.underlying t=some (.slice e))(he:oJ P e k i z) {xs:List k.T} (ho:h cI=some (.own (.row e k) xs)) {x:AV} {u:Value} {ys:List k.T} (hx:rowOf hh x k=some ys) (hr:aA Z ψ h w x u) (hm:xs.length+ys.length≤fB) (bm:∀i ty cs,h i=some (.box ty cs)→aC (fun i=>i≠id) cs) :
  ∃v' w',(Builtin.append_ #[t,t] ty #[ψ cI,u]).run P w=.ok v' w'∧Next Z ψ h w B0 O N Z (dY ψ id v') (dY (dY h cI none) id (some (.own (.row e k) (xs++ys)))) w'∧v'.cells=#[v']∧v'.oneCell'=true:=by
 obtain⟨news,yS,hv⟩:=w5 (g.sub bz) hx (hr.oK bz);obtain⟨vs,Yg,ZZ⟩:=g.row cI (.row e k) xs ho;obtain⟨v',w',dn,h4,h5,h6⟩:=dZ (ty:=ty) ht he Yg yS hm;have hold:h cI≠none:=by rw[ho];simp
 have kk:cT ψ h w w':=cT.grown h5 (fun b e=>⟨cI,hold,e⟩);have sm:=kk.same g;refine⟨v',w',dn,nV g hB id cI hN ho bB h5 (ok:=.row e k) (y:=xs++ys) ⟨_,by simp_all,(ZZ.append hv Yg.1).Cz sm⟩ h6 bm,h4.one⟩
theorem CA{hh:Heap}(g:Good Z ψ h w B0 O)(bz:∀id o,hh.get id=some o→h id=some o)(hB:B0≤w.heap.size){id:Nat}(hN:N id){t ty e:TypeId}{k:K}{i:TypeInfo}{z:Value}(ht:P.underlying t=some (.slice e))(he:oJ P e k i z) {xs:List k.T} {v:Value} (hd:aA Z ψ h w (.sl true k xs) v) {x:AV} {u:Value} {ys:List k.T} (hx:rowOf hh x k=some ys) (hr:aA Z ψ h w x u) (Fh:0<ys.length∨xs=[]) (hm:xs.length+ys.length≤fB) (bm:∀i ty cs,h i=some (.box ty cs)→aC (fun i=>i≠id) cs) :
  ∃v' w',(Builtin.append_ #[t,t] ty #[v,u]).run P w=.ok v' w'∧Next Z ψ h w B0 O N Z (dY ψ id v') (dY h id (some (.own (.row e k) (xs++ys)))) w'∧v'.cells=#[v']∧v'.oneCell'=true:=by
 simp only[aA]at hd;obtain⟨hd,hex⟩:=hd;obtain⟨A,c,S6⟩:=hex trivial;rcases vS hd with⟨rfl,rfl⟩|⟨a,c',ad0,h1,_,h2,h3,h4,h5⟩
 ·have:=rI (ty:=ty) (N:=N) g bz hB hN ht he hx hr (by omega) bm;simp_all
 ·rw[h1]at S6;cases S6;obtain⟨news,⟨h6,h7,hu⟩,hv⟩:=w5 (g.sub bz) hx (hr.oK bz);by_cases hy0:ys.length=0
  ·have hy:ys=[]:=abY hy0;have Ax:xs=[]:=Fh.resolve_left (by omega);subst Ax;have MV:dW w e k.sz (.slice (some a) 0 0) 0 []:=⟨by simp,.inl ⟨rfl,_,rfl⟩⟩;refine⟨v,w,?_,pz g hB id e hN (vs:=[]) (cT.refl _ _ _) (fun _ _=>rfl) (by simp_all) (fun i x hx=>by simp_all) (fun b hb=>by grind [ob]) bm,by rw[h1];exact MV.one⟩;rw[h1];rw[hy0]at hu;rcases hu with⟨rfl,_⟩|⟨b,cu,rfl,_⟩<;>exact fQ ht he.info _ _ _ (acf _) _ _
  rcases hu with⟨_,h0⟩|⟨b,cu,rfl,h8⟩
  ·omega
  ·have hb:=he.bytes;unfold fB at hm;have sO:(xs.length+ys.length)*i.bytes≤140737488355328:=acE (aek hm hb) (by decide);obtain⟨v',w',dn,h9,qq⟩:=run_append_arg_grows (P:=P) w t ty e i z k.sz i.bytes ht he.info he.zero he.size rfl he.w4 k.gQ a xs.length xs.length ad0 h2 h3 b ys.length cu news h6 h8 (by omega) (by grind [maxLen]) sO;have kk:cT ψ h w w':=cT.grown qq (fun b e=>by cases e);have sm:=kk.same g;have h9':dW w' e k.sz v' (xs++ys).length (ad0++news):=by rw[List.length_append];exact dW.of h9
   subst h1;refine⟨v',w',dn,pz g hB id e hN kk (fun b hb=>qq.block b (g.bQ hb) (by simp)) h9' ((h5.append hv h2).Cz sm) (fun b hb=>?_) bm,h9'.one⟩;rcases h9.2 with⟨e1,_⟩|⟨gg,cap,cur,e1,e2,_⟩
   ·omega
   grind [ob]
theorem w6:∀(vs:List Value) (k off:Nat) (cells:Array Value),(vs.zipIdx k).foldl (fun cs (p:Value×Nat)=>cs.setIfInBounds (off+p.2) p.1) cells=(eL cells.toList (off+k) vs).toArray
 |[],k,off,cells=>by simp[eL]
 |v::r,k,off,cells=>by simp only[List.zipIdx_cons,List.foldl_cons,eL];rw[w6 r (k+1) off];simp[Nat.add_assoc]
theorem Ay(V:Array Value)(off:Nat)(cells:Array Value) :
  V.zipIdx.foldl (fun cs (p:Value×Nat)=>cs.setIfInBounds (off+p.2) p.1) cells=(eL cells.toList off V.toList).toArray:=by
 rw[←Array.foldl_toList,Array.toList_zipIdx];simp_all [w6]
theorem vh{α:Type}:∀(vs cs:List α) (off:Nat),(eL cs off vs).length=cs.length
 |[],_,_=>rfl
 |v::r,cs,off=>by simp only[eL];rw[vh r];simp
theorem au.eL:∀{vs cs:List AV} {us ds:List Value} (off:Nat),au Z ψ h w vs us→au Z ψ h w cs ds→au Z ψ h w (eL cs off vs) (eL ds off us)
 |[],cs,us,ds,off,h1,h2=>by simp only[au]at h1;subst h1;exact h2
 |v::r,cs,us,ds,off,h1,h2=>by simp only[au]at h1;obtain⟨u,jn,rfl,h3,h4⟩:=h1;simp only[Vs.eL];exact au.eL (off+1) h4 (h2.set off h3)
theorem aA.cells{a:AV}{v:Value}(hk:a≠.no)(hr:aA Z ψ h w a v):au Z ψ h w a.cells v.cells.toList:=by
 cases a with
 |no=>exact absurd rfl hk
 |agg cs=>simp only[aA]at hr;obtain⟨vs,rfl,hr⟩:=hr;simpa[AV.cells,Value.cells] using hr
 |bool b=>simp only[aA]at hr;subst hr;simp[AV.cells,Value.cells,au,aA]
 |int k n=>simp only[aA]at hr;subst hr;simp[AV.cells,Value.cells,au,aA]
 |str s=>simp only[aA]at hr;subst hr;simp[AV.cells,Value.cells,au,aA]
 |mg=>simp only[aA]at hr;subst hr;simp[AV.cells,Value.cells,au,aA]
 |gh=>simp only[aA]at hr;subst hr;simp[AV.cells,Value.cells,au,aA]
 |ref id s i off=>obtain⟨a,rfl,h2⟩:=(by simpa only[aA] using hr:∃a,v=.pointer (some a)∧_);simp only[AV.cells,Value.cells,au];exact⟨_,[],by simp,hr,rfl⟩
 |fp k x off=>obtain⟨a,us,rfl,h2⟩:=(by simpa only[aA] using hr:∃a us,v=.pointer (some a)∧_);simp only[AV.cells,Value.cells,au];exact⟨_,[],by simp,hr,rfl⟩
 |sl ex k xs =>
  have tQ:=hr;simp only[aA,aJ]at tQ;obtain⟨⟨v',hv,A,c,rfl,_⟩,_⟩:=tQ
  cases hv
  simp only[AV.cells,Value.cells,au];exact⟨_,[],by simp,hr,rfl⟩
 |bN id =>have tQ:=hr;simp only[aA]at tQ;obtain⟨⟨hc,_⟩,_⟩:=tQ;simp only[AV.cells,au,hc];exact⟨_,[],by simp,hr,rfl⟩
 |mp kk vk es =>
  have tQ:=hr;simp only[aA,aJ]at tQ;obtain⟨A,hv,_⟩:=tQ
  cases hv
  simp only[AV.cells,Value.cells,au];exact⟨_,[],by simp,hr,rfl⟩
 |fn f cap =>have tQ:=hr;simp only[aA]at tQ;obtain⟨vs,rfl,_⟩:=tQ;simp only[AV.cells,Value.cells,au];exact⟨_,[],by simp,hr,rfl⟩
 |oG vs =>have tQ:=hr;simp only[aA]at tQ;obtain⟨us,rfl,_⟩:=tQ;simp only[AV.cells,Value.cells,au];exact⟨_,[],by simp,hr,rfl⟩
def vj(Z:Nat→Prop)(ψ:Nat→Value)(h:Hp)(w:World):List (Nat×AV)→List (Nat×Value)→Prop
 |[],[]=>True
 |p::r,q::s=>p.1=q.1∧p.2≠.no∧aA Z ψ h w p.2 q.2∧vj Z ψ h w r s
 |_,_=>False
theorem JU{place:Nat→Option (Nat×Nat)}:∀{ps:List (Nat×AV)} {qs:List (Nat×Value)} {cs cs':List AV} {cells:Array Value},vj Z ψ h w ps qs→au Z ψ h w cs cells.toList→Gi place cs ps=some cs' → ∃gH,Instr.fill place cells qs=some gH∧au Z ψ h w cs' gH.toList
 |[],[],cs,cs',cells,_,hr,hf=>by simp only[Gi]at hf;cases hf;exact⟨cells,rfl,hr⟩
 |[],_::_,_,_,_,hp,_,_=>hp.elim
 |_::_,[],_,_,_,hp,_,_=>hp.elim
 |(i,a)::ps,(j,v)::qs,cs,cs',cells,hp,hr,hf=>by
  obtain⟨rfl,vT,hv,hp⟩:=hp;simp only[Gi]at hf;simp only at vT hv;have S6:=hv.cells vT;have hl:=S6.length;have vU:=hr.length;simp only[Array.length_toList]at hl vU;simp only[Instr.fill]
  split at hf
  ·cases hf
  ·rename_i off size Tw;simp only[Tw]
   split at hf
   ·cases hf
   ·rename_i hc;have hc1:a.cells.length=size:=Decidable.not_not.1 (fun e=>hc (.inl e));have pC:¬off+a.cells.length>cs.length:=fun e=>hc (.inr e);rw[if_neg (by simp_all)];refine JU hp ?_ hf;rw[Ay,List.toList_toArray];exact S6.eL off hr
theorem Tx(fs:Array Field)(hi:∀f∈fs.toList,∃i,P.info? f.type=some i):(fs.mapM fun f=>do pure (f.offset,←sizeOf f.type):Sem (Array (Nat×Nat))).run P w=.ok (fs.map fun f=>(f.offset,P.cellsOf f.type)) w:=by
 rw[←Array.toArray_toList (xs:=fs)];generalize fs.toList=l at hi;have key:∀(l:List Field) (acc:Array (Nat×Nat)),(∀f∈l,∃i,P.info? f.type=some i) →(l.foldlM (fun(bs:Array (Nat×Nat)) f=>do let y ←(do pure (f.offset,←sizeOf f.type):Sem (Nat×Nat));pure (bs.push y)) acc:Sem (Array (Nat×Nat))).run P w=.ok (acc++(l.map fun f=>(f.offset,P.cellsOf f.type)).toArray) w:=by
  intro l
  induction l with
  |nil=>simp_all
  |cons f r ih =>simp_all [List.foldlM_cons,Sem.run_bind,dm,Result.andThen_ok,Sem.run_pure,List.mem_cons_of_mem]
 simp_all [Array.mapM_eq_foldlM,List.size_toArray,List.foldlM_toArray']
theorem H3(v:Value):aA Z ψ h w (yG v) v:=by
 cases v with
 |bool b=>simp only[yG,aA]
 |int k n=>simp only[yG,aA]
 |string s=>simp only[yG,aA]
 |pointer a =>
  simp only[yG];split
  ·rename_i e;subst e;simp only[aA]
  ·simp only[aA]
 |slice a n c =>
  simp only[yG];split
  ·rename_i e;obtain⟨rfl,rfl,rfl⟩:=e;simp only[aA]
  ·simp only[aA]
 |func fn first cap =>
  cases fn with
  |func f =>
   simp only[yG];split
   ·rename_i e;have h1:first=#[]:=adO e.1
    have h2:cap=#[]:=adO e.2;subst h1;subst h2;simp only[aA];exact⟨#[],rfl,by simp[au]⟩
   ·simp only[aA]
  |_=>simp only[yG,aA]
 |_=>simp only[yG,aA]
theorem CB:∀vs:List Value,au Z ψ h w (vs.map yG) vs
 |[]=>by simp[au]
 |v::r=>by simp only[List.map_cons,au];exact⟨v,r,rfl,H3 v,CB r⟩
theorem JV(v:Value):aA Z ψ h w (vL v) v:=by
 cases v with
 |agg cs=>simp only[vL,aA];exact⟨cs,rfl,CB _⟩
 |_=>simp only[vL];exact H3 _
theorem Gq(v:Value):(yG v).cells=[yG v]:=by
 cases v with
 |pointer a=>simp only[yG];split<;>rfl
 |slice a n c=>simp only[yG];split<;>rfl
 |func fn first cap =>
  cases fn with
  |func f=>simp only[yG];split<;>rfl
  |_=>rfl
 |_=>rfl
theorem CC(v:Value):au Z ψ h w (vL v).cells v.cells.toList:=by
 cases v with
 |agg cs=>grind [vL,AV.cells,Value.cells,CB]
 |_ =>simp only[vL];rw[Gq];simp only[au];exact⟨_,[],rfl,H3 _,rfl⟩
theorem qG{t:TypeId}{zs:List AV}(hz:Ch P t=some zs):∃i z,P.info? t=some i∧i.zero=some z∧zs=(vL z).cells∧∀u∈z.cells.toList,u.oneCell'=true:=by
 unfold Ch at hz;obtain⟨i,hi,yC⟩:=ado.1 hz;obtain⟨z,BJ,ON⟩:=ado.1 yC
 grind
theorem sP{t:TypeId}{i:TypeInfo}{z:Value}(hi:P.info? t=some i)(hz:i.zero=some z):(zeroValue t).run P w=.ok z w:=by simp[zeroValue,typeInfo,hi,hz]
theorem QF{t:TypeId}{fs:Array Field}{zs cs:List AV}{ps:List (Nat×AV)}{qs:Array (Nat×Value)}(hz:Ch P t=some zs)(ht:P.underlying t=some (.struct fs))(jQ:fs.toList.all (fun f=>(P.info? f.type).isSome)=true) (hp:vj Z ψ h w ps qs.toList) (hf:Gi (fun i=>(fs[i]?).map fun f=>(f.offset,P.cellsOf f.type)) zs ps=some cs) :
  ∃V,(Instr.build t qs).run P w=.ok V w∧aA Z ψ h w (.agg cs) V:=by
 obtain⟨i,z,hi,hzz,rfl,_⟩:=qG hz;obtain⟨gH,h1,h2⟩:=JU hp (CC z) hf;have Tw:=Tx (P:=P) (w:=w) fs (fun f hf=>acu.1 (adp.1 jQ f hf));refine⟨.agg gH,?_,by simp only[aA];exact⟨_,rfl,h2⟩⟩;have XH:Instr.fill (fun x=>(fs.map fun f=>(f.offset,P.cellsOf f.type))[x]?) z.cells qs.toList=some gH:=by rw[←h1];congr 1;funext x;simp
 simp only[Instr.build,Sem.run_bind,sP hi hzz,run_underlying ht,Result.andThen_ok,Tw,XH];rfl
theorem MW:∀(k:K) (cs:List AV) (x:k.T) (r:List AV),dec k cs=some (x,r)→cs.head?≠some .no
 |.int ik,cs,x,r,h,hc=>by
  cases cs with
  |nil=>simp at hc
  |cons a s=>simp at hc;subst hc;simp[dec,HS]at h
 |.bool,cs,x,r,h,hc=>by
  cases cs with
  |nil=>simp at hc
  |cons a s=>simp at hc;subst hc;simp[dec,BD]at h
 |.str,cs,x,r,h,hc=>by
  cases cs with
  |nil=>simp at hc
  |cons a s=>simp at hc;subst hc;simp[dec,HT]at h
 |.sl k,cs,x,r,h,hc=>by
  cases cs with
  |nil=>simp at hc
  |cons a s=>simp at hc;subst hc;simp[dec,OE]at h
 |.pair a b,cs,x,r,h,hc=>by
  simp only[dec]at h
  split at h
  ·rename_i x1 r1 h1;exact MW a cs x1 r1 h1 hc
  ·cases h
 |.one k,cs,x,r,h,hc=>by simp only[dec]at h;exact MW k cs x r h hc
 |.mp kk vk,cs,x,r,h,hc=>by
  cases cs with
  |nil=>simp at hc
  |cons a s=>simp at hc;subst hc;simp[dec,OF]at h
 |.fn f,cs,x,r,h,hc=>by
  cases cs with
  |nil=>simp at hc
  |cons a s=>simp at hc;subst hc;simp[dec,OH]at h
theorem Gs{k:K}{hh:Heap}{a:AV}{x:k.T}(h:dz k (a.cells.map (c9 hh))=some x):a≠.no:=by
 rintro rfl;unfold dz at h
 split at h
 ·rename_i x' h1;exact MW k _ _ _ h1 (by rfl)
 ·cases h
theorem JW{k:K}{hh:Heap}(g:Good Z ψ hh.get w B0 O)(hz:∀b,Z b→Z' b):∀{ps:List (Nat×AV)} {qs:List (Nat×Value)} {xs:List k.T} {i:Nat} {cells:Array Value},(∀p∈ps,∀id b,AV.bN id∈p.2.cells→hh.get id≠none→ob (ψ id)=some b→Z' b)→vj Z ψ hh.get w ps qs→sG k hh i ps=some xs→(i+ps.length)*k.sz≤cells.size → ∃gH flat,Instr.fill (fun i=>some (i*k.sz,k.sz)) cells qs=some gH∧gH.toList=cells.toList.take (i*k.sz)++flat++cells.toList.drop ((i+ps.length)*k.sz)∧flat.length=ps.length*k.sz∧lj Z' w k xs flat∧(∀q∈flat,q.oneCell'=true)∧xs.length=ps.length
 |[],[],xs,i,cells,_,_,hl,_=>by simp only[sG]at hl;cases hl;exact⟨cells,[],rfl,by simp,by simp,fun i x hx=>by simp at hx,by simp,rfl⟩
 |[],_::_,_,_,_,_,hp,_,_=>hp.elim
 |_::_,[],_,_,_,_,hp,_,_=>hp.elim
 |(j,a)::ps,(j',v)::qs,xs,i,cells,hb,hp,hl,hs=>by
  obtain⟨hjj,vT,hv,hp⟩:=hp;simp only at hjj vT hv;subst hjj;simp only[sG]at hl
  split at hl
  ·rename_i e;subst e
   split at hl
   ·rename_i y ys h1 h2
    cases hl
    simp only[List.length_cons]at hs;have S6:=hv.cells vT;have hvw:=pn g hz (hb (j,a) (by simp)) S6;have hk:=dA h1 hvw;have XI:=hk.len;rw[Array.length_toList]at XI;have iY:j*k.sz+k.sz≤cells.size:=by have:(j+1)*k.sz≤(j+(ps.length+1))*k.sz:=acd _ (by omega);rw[Nat.succ_mul]at this;omega
    simp only[Instr.fill];rw[if_neg (by simp only[Bool.or_eq_true,decide_eq_true_eq];omega),Ay];obtain⟨gH,flat,h3,h4,h5,h6,h7,h8⟩:=JW g hz (ps:=ps) (qs:=qs) (xs:=ys) (i:=j+1) (cells:=(eL cells.toList (j*k.sz) v.cells.toList).toArray) (fun p hp=>hb p (abA _ hp)) hp h2 (by rw[List.size_toArray,vh];have e9:cells.toList.length=cells.size:=Array.length_toList;rw[e9,show j+1+ps.length=j+(ps.length+1) by omega];exact hs);refine⟨gH,v.cells.toList++flat,h3,?_,?_,?_,?_,by simp[h8]⟩
    ·rw[h4,List.toList_toArray,tR _ _ _ (by rw[Array.length_toList,Array.length_toList];omega)];have e1:(j+1)*k.sz=j*k.sz+k.sz:=ad5 _ _;have e2:(j+1+ps.length)*k.sz=(j+(ps.length+1))*k.sz:=by congr 1;omega
     rw[List.length_cons,e1,e2];have l1:(cells.toList.take (j*k.sz)++v.cells.toList).length=j*k.sz+k.sz:=by rw[List.length_append,List.length_take,Array.length_toList,Array.length_toList];omega
     rw[←l1,List.take_left];have l2:(j+(ps.length+1))*k.sz=(cells.toList.take (j*k.sz)++v.cells.toList).length+(ps.length*k.sz):=by rw[l1,Nat.add_mul,Nat.add_mul];omega
     have hd:(cells.toList.take (j*k.sz)++v.cells.toList++cells.toList.drop (j*k.sz+v.cells.toList.length)).drop ((j+(ps.length+1))*k.sz)=cells.toList.drop ((j+(ps.length+1))*k.sz):=by rw[l2,List.drop_append,List.drop_eq_nil_of_le (by omega),List.nil_append,Nat.add_sub_cancel_left,List.drop_drop];congr 1;rw[l1,Array.length_toList];omega
     rw[hd];simp[List.append_assoc]
    ·rw[List.length_append,h5,Array.length_toList,XI,List.length_cons,Nat.succ_mul];omega
    ·intro n x hx
     cases n with
     |zero =>
      simp only[List.getElem?_cons_zero,Option.some.injEq]at hx;subst hx;have abB:v.cells.toList.length=k.sz:=by rw[Array.length_toList];exact XI
      rw[Nat.zero_mul,List.drop_zero,←abB,List.take_left];exact hk
     |succ n =>
      have:=h6 n x (by simpa using hx);have abB:v.cells.toList.length=k.sz:=by rw[Array.length_toList];exact XI
      have e:(n+1)*k.sz=v.cells.toList.length+n*k.sz:=by rw[abB,Nat.succ_mul];omega
      rw[e,List.drop_append,List.drop_eq_nil_of_le (by omega),List.nil_append,Nat.add_sub_cancel_left];exact this
    ·intro q hq;rcases ab6.1 hq with hq|hq
     ·exact hk.one q hq
     ·exact h7 q hq
   ·cases hl
  ·cases hl
theorem Next.drop{Z1:Nat→Prop}{h1:Hp}(n:Next Z1 ψ h1 w B0 O N Z' ψ' h' w')(hz:∀b,Z b→Z1 b)(yC:∀b,Z1 b→Z b∨Own ψ h b)(bz:∀id o,h1 id=some o→h id=some o):Next Z ψ h w B0 O N Z' ψ' h' w':=by
 have hn:∀id,h1 id≠none→h id≠none:=fun id hn=>by obtain⟨o,ho⟩:=abS.1 hn;simp_all
 have ho:∀b,Own ψ h1 b→Own ψ h b:=fun b ⟨id,h2,h3⟩=>⟨id,hn id h2,h3⟩;refine⟨fun b hb=>n.gG b (hz b hb),fun b hb=>?_,⟨n.keep.os,n.keep.tape,n.keep.output,n.keep.size,fun b hb vT=>n.keep.block b hb (fun h=>vT (ho b h))⟩,fun id bM=>(n.ids id bM).imp (fun⟨h2,h3⟩=>⟨hn id h2,h3⟩) (fun h=>h),n.dE⟩;rcases n.fj b hb with h2|h2|h2
 ·grind
 ·simp_all
 omega
theorem vj.oK{h h':Hp}(hs:∀id o,h' id=some o→h id=some o):∀{ps:List (Nat×AV)} {qs:List (Nat×Value)},vj Z ψ h w ps qs→vj Z ψ h' w ps qs:=by
 intro ps
 induction ps with
 |nil=>intro qs hp;cases qs with
  |nil=>trivial
  |cons q r=>exact hp.elim
 |cons p r ih=>intro qs hp;cases qs with
  |nil=>exact hp.elim
  |cons q s=>exact⟨hp.1,hp.2.1,hp.2.2.1.oK hs,ih hp.2.2.2⟩
theorem JX{hh:Heap}{Z1:Nat→Prop}(g:Good Z1 ψ h w B0 O)(g0:Good Z ψ hh.get w B0 O)(hz:∀b,Z b→Z1 b)(hB:B0≤w.heap.size){id:Nat}(hN:N id){t e:TypeId}{k:K}{i:TypeInfo}{z:Value}(ht:P.underlying t=some (.slice e))(he:oJ P e k i z) {ps:List (Nat×AV)} {qs:Array (Nat×Value)} {xs:List k.T} (hos:∀p∈ps,∀id b,AV.bN id∈p.2.cells→hh.get id≠none→ob (ψ id)=some b→Z1 b) (hp:vj Z ψ hh.get w ps qs.toList) (hl:sG k hh 0 ps=some xs) (hn:ps.length*k.sz≤1048576) (bm:∀i ty cs,h i=some (.box ty cs)→aC (fun i=>i≠id) cs) :
  ∃v' w',(Instr.buildSlice t ps.length qs).run P w=.ok v' w'∧Next Z1 ψ h w B0 O N Z1 (dY ψ id v') (dY h id (some (.own (.row e k) xs))) w'∧(v'.cells=#[v']∧v'.oneCell'=true)∧(∀b,Own ψ h b→w'.heap[b]? = w.heap[b]?)∧(∀b,ob v'=some b→w.heap.size≤b)∧∃A c,v'=.slice A c c:=by
 let OO:Array Value:=(Array.range (ps.length*k.sz)).map (z.cells[· % z.cells.size]!)
 have JA:OO.size=ps.length*k.sz:=by simp[OO]
 obtain⟨gH,flat,h1,h2,h3,h4,h5,h6⟩:=JW (Z':=Z1) g0 hz (ps:=ps) (qs:=qs.toList) (xs:=xs) (i:=0) (cells:=OO) hos hp hl (by simp_all);have anR:gH.toList=flat:=by simp_all
 have MX:gH.size=ps.length*k.sz:=by grind
 have Fh:=k.gQ;have hlen:ps.length≤1048576:=acE (Nat.le_mul_of_pos_right _ Fh) hn;have r9:(w.alloc (.cells gH e)).ownsRow 0 e k.sz (.slice (some ⟨w.heap.size,0,none⟩) ps.length ps.length) xs.length flat:=by have:=World.ownsRow_lit (base:=0) (e:=e) (size:=k.sz) w gH ps.length (adx _) (by grind [maxLen]) MX;simp_all
 refine⟨.slice (some ⟨w.heap.size,0,none⟩) ps.length ps.length,w.alloc (.cells gH e),?_,pz g hB id e hN (vs:=flat) (cT.alloc _ _ _ _) (fun b hb=>heap_alloc_old w _ (g.bQ hb)) (dW.of r9) (h4.Cz ((cT.alloc ψ h w _).same g)) (fun b hb=>by simp_all [ob,Nat.le_refl]) bm,(dW.of r9).one,fun b hb=>heap_alloc_old w _ (g.bQ hb),fun b hb=>by simp_all [ob,Nat.le_refl],_,_,rfl⟩
 ·show _=Result.ok (Value.slice (some ⟨w.heap.size,0,none⟩) ps.length ps.length) _;have pG:¬ps.length*k.sz>2 ^ 24:=by omega
  have hc:P.cellsOf e=k.sz:=by simp[Program.cellsOf,he.info,he.size]
  simp only[Instr.buildSlice,Sem.run_bind,run_underlying ht,Result.andThen_ok,dm he.info,hc];rw[if_neg pG];have CD:(newRow e gH).run P w=.ok ⟨w.heap.size,0,none⟩ (w.alloc (.cells gH e)):=rfl;by_cases h0:ps.length*k.sz=0
  ·simp_all [Array.eq_empty_of_size_eq_zero,Array.range,if_pos,Sem.run_pure,Result.andThen_ok,Sem.run_bind]
  ·rw[if_neg h0];simp only[Sem.run_bind,sP he.info he.zero,Result.andThen_ok,Sem.run_pure];rw[show(Array.range (ps.length*k.sz)).map (fun x=>z.cells[x%z.cells.size]!)=OO from rfl,h1];rfl
theorem Ty(g:Good Z ψ h w B0 O)(hB:B0≤w.heap.size){id:Nat}{e:TypeId}{k:K}{xs:List k.T}{v':Value}(n:Next Z ψ h w B0 O N Z (dY ψ id v') (dY h id (some (.own (.row e k) xs))) w') (vf:∀b,Own ψ h b→w'.heap[b]? = w.heap[b]?) (CD:∀b,ob v'=some b→w.heap.size≤b) (hex:∃A c,v'=.slice A c c) :
  Next Z ψ h w B0 O N (fun b=>Z b∨ob v'=some b) ψ h w'∧aA (fun b=>Z b∨ob v'=some b) ψ h w' (.sl true k xs) v':=by
 have pw:jP Z w' (.row e k) v' xs:=by
  have:=n.dE.row id (.row e k) xs (bh _ _ _)
  rwa [bh]at this
 obtain⟨vs,ho,hv⟩:=pw;have m:Next Z ψ h w B0 O (fun _=>False) Z ψ h w':=g.more n.keep vf (fun _ _=>⟨rfl,rfl⟩) (fun i ty cs hb=>by
  grind [aC.top]) (fun _ _ _ h=>h.elim) (fun _ _ _ h=>h.elim) (fun _ _ h=>h.elim) (fun _ _ _ h=>h.elim) hB
 have hz:∀b,Z b→Z b∨ob v'=some b:=fun b h=>.inl h;refine⟨⟨hz,fun b hb=>hb.imp (fun h=>h) fun h=>.inr (CD b h),m.keep,fun i hi=>.inl ((m.ids i hi).resolve_right (fun h=>h)),⟨fun i ty cs hb=>?_,fun i ok x hb=>?_,fun i b h1 h2=>?_,m.dE.apart,fun b hb=>?_⟩⟩,?_⟩
 ·obtain⟨gg,vs,f1,f2,f3,f4⟩:=m.dE.box i ty cs hb;exact⟨gg,vs,f1,f2,au.less hz (cv.refl _ _) (fun _ h=>⟨h,rfl⟩) f3,f4⟩
 ·exact(m.dE.row i ok x hb).kept hz (cv.refl _ _) (fun _ _=>rfl)
 ·obtain⟨k1,k2⟩:=m.dE.live i b h1 h2;refine⟨fun hb=>hb.elim k1 fun hb=>?_,k2⟩;have:=g.bQ ⟨i,h1,h2⟩
  grind
 ·rcases hb with hb|hb
  ·exact m.dE.kz b hb
  ·exact jP.lt (ok:=.row e k) ⟨vs,ho,hv⟩ hb
 grind [aA,wY]
end Go.Vs
