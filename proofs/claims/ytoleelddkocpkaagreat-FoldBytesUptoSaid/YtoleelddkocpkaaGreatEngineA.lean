/- The value semantics of the -/
import Derived.Control
import Derived.Calls
import Derived.Orders
import GoSem.Machine.Frame
import Derived.Laws.AppendOwn
import GoSem.Core.Utf8
import Derived.Below
import Derived.Laws.OwnMore
import Derived.Laws.Rows
import Derived.Deep.Draws
import Derived.Laws.CopyRow
import Derived.Laws.Cells
import Derived.Laws.Sem
import Derived.Maps.AppendAt
import Derived.ArgAppend
import Derived.WalkKit
set_option linter.unusedVariables false
set_option linter.unusedSimpArgs false
namespace Go
abbrev abk:=@List.getElem?_eq_getElem
abbrev abq:=@List.mem_cons_of_mem
abbrev aby:=@List.getElem?_eq_some_iff
abbrev abM:=@List.mem_cons
abbrev abN:=@List.mem_append_right
abbrev abO:=@List.mem_append_left
abbrev abP:=@Array.getElem?_eq_some_iff
abbrev abQ:=@Option.ne_none_iff_exists'
abbrev abR:=@List.nodup_cons
abbrev abS:=@List.eq_nil_of_length_eq_zero
abbrev abT:=@List.mem_cons_self
abbrev abU:=@List.mem_append
abbrev abV:=@Nat.mul_le_mul_right
abbrev abW:=@List.mem_map
abbrev abX:=@Nat.le_refl
abbrev abY:=@Option.isSome_iff_exists
abbrev abZ:=@Array.getElem?_eq_getElem
abbrev ab0:=@Nat.le_trans
abbrev ab1:=@List.rel_of_pairwise_cons
abbrev ab2:=@Option.some.inj
abbrev ab3:=@List.mem_of_getElem?
abbrev ab4:=@List.getElem_mem
abbrev ab5:=@Option.map_eq_some_iff
abbrev ab6:=@Option.bind_eq_some_iff
abbrev ab7:=@List.all_eq_true
abbrev ab8:=@List.mem_of_find?_eq_some
abbrev ab9:=@List.mem_range
abbrev aca:=@Nat.lt_of_lt_of_le
abbrev acb:=@List.append_of_mem
abbrev acd:=@List.drop_eq_getElem_cons
abbrev ace:=@List.mem_flatten
abbrev acf:=@List.nodup_append
abbrev acg:=@Nat.zero_le
abbrev ach:=@List.Perm.append_right
abbrev acm:=@List.ext_getElem?
abbrev acn:=@List.length_filter_le
abbrev aco:=@Array.all_eq_true_iff_forall_mem
abbrev acx:=@List.getElem?_of_mem
abbrev acL:=@List.countP_le_length
abbrev acM:=@List.mem_filter
abbrev acP:=@List.drop_eq_nil_of_le
abbrev acR:=@List.find?_some
abbrev acT:=@Array.mem_of_getElem?
abbrev acV:=@Nat.mod_lt
abbrev acW:=@List.mem_of_mem_drop
abbrev acX:=@List.findIdx?_eq_some_iff_getElem
abbrev acY:=@List.getElem_of_mem
abbrev ac2:=@Array.eq_empty_of_size_eq_zero
abbrev ac3:=@List.ne_nil_of_mem
abbrev ac4:=@List.Perm.refl
abbrev adj:=@List.Pairwise.of_cons
abbrev ad5:=@List.mem_of_mem_erase
abbrev ad9:=@List.mem_of_mem_take
abbrev aea:=@List.mem_erase_of_ne
abbrev aed:=@List.pairwise_iff_getElem
abbrev aee:=@Nat.succ_mul
abbrev aef:=@List.mem_filterMap
abbrev aeg:=@Nat.mul_le_mul
end Go
namespace Go.Vs
inductive K where
 |int (k:IntKind)|bool|str|sl (k:K)|pair (a b:K)|one (k:K)|mp (kk vk:K)|fn (f:Nat)
 deriving DecidableEq
def K.T:K→Type
 |.int _=>Int
 |.bool=>Bool
 |.str=>ByteArray
 |.sl k=>List k.T
 |.pair a b=>a.T×b.T
 |.one k=>k.T
 |.mp kk vk=>List (kk.T×vk.T)
 |.fn _=>Unit
def K.sz:K→Nat
 |.pair a b=>a.sz+b.sz
 |.one k=>k.sz
 |_=>1
def pK(P:Program):Nat→TypeId→Option K
 |0,_=>none
 |d+1,t =>
  match P.underlying t with
  |some (.int k)=>some (.int k)
  |some .bool=>some .bool
  |some .string=>some .str
  |some (.slice e)=>(pK P d e).map .sl
  |some (.map a b)=>match pK P d a,pK P d b with
   |some x,some y=>some (.mp x y)
   |_,_=>none
  |some (.struct fs) =>
   match (fs.toList.map fun f=>pK P d f.type).reverse with
   |[]=>none
   |[k]=>k.map .one
   |last::rest=>rest.foldl (fun acc k=>match k,acc with|some k,some a=>some (.pair k a)|_,_=>none) last
  |_=>none
def K.flat:K→Bool
 |.sl _=>false
 |.mp _ _=>false
 |.fn _=>false
 |.pair a b=>a.flat&&b.flat
 |.one k=>k.flat
 |_=>true
def K.isAgg:K→Bool
 |.pair _ _=>true
 |.one _=>true
 |_=>false
inductive AV where
 |no
 |bool (b:Bool)
 |int (k:IntKind) (n:Int)
 |str (s:ByteArray)
 |lH
 |fK
 |ref (id s i off:Nat)
 |fp (k:K) (x:k.T) (off:Nat)
 |sl (ex:Bool) (k:K) (xs:List k.T)
 |mp (kk vk:K) (es:List (kk.T×vk.T))
 |bI (id:Nat)
 |fn (f:FuncId) (cap:List AV)
 |agg (cs:List AV)
 |nM (vs:List AV)
def AV.isAgg:AV→Bool
 |.agg _=>true
 |_=>false
def AV.cells:AV→List AV
 |.agg cs=>cs
 |v=>[v]
def enc:(k:K)→k.T→List AV
 |.int ik,n=>[.int ik n]
 |.bool,b=>[.bool b]
 |.str,s=>[.str s]
 |.sl k,xs=>[.sl false k xs]
 |.mp kk vk,es=>[.mp kk vk es]
 |.fn f,_=>[.fn f []]
 |.pair a b,x=>enc a x.1++enc b x.2
 |.one k,x=>enc k x
def GN(ik:IntKind):List AV→Option (Int×List AV)
 |.int ik' n::r=>if ik'=ik then some (n,r) else none
 |_=>none
def AE:List AV→Option (Bool×List AV)
 |.bool b::r=>some (b,r)
 |_=>none
def GO:List AV→Option (ByteArray×List AV)
 |.str s::r=>some (s,r)
 |_=>none
def Ng(k:K):List AV→Option (List k.T×List AV)
 |.sl _ k' xs::r=>if h:k'=k then some (h▸xs,r) else none
 |.fK::r=>some ([],r)
 |_=>none
def Nh(kk vk:K):List AV→Option (List (kk.T×vk.T)×List AV)
 |.mp Ni WC es::r=>if h:Ni=kk∧WC=vk then some (h.1▸h.2▸es,r) else none
 |_=>none
def Nj(f:FuncId):List AV→Option (Unit×List AV)
 |.fn f' []::r=>if f'=f then some ((),r) else none
 |_=>none
def dec:(k:K)→List AV→Option (k.T×List AV)
 |.int ik,cs=>GN ik cs
 |.bool,cs=>AE cs
 |.str,cs=>GO cs
 |.sl k,cs=>Ng k cs
 |.mp kk vk,cs=>Nh kk vk cs
 |.fn f,cs=>Nj f cs
 |.pair a b,cs =>
  match dec a cs with
  |some (x,r)=>match dec b r with
   |some (y,r')=>some ((x,y),r')
   |none=>none
  |none=>none
 |.one k,cs=>dec k cs
def dr(k:K)(cs:List AV):Option k.T :=match dec k cs with
 |some (x,[])=>some x
 |_=>none
def b7:(k:K)→k.T→AV
 |.pair a b,x=>.agg (enc (.pair a b) x)
 |.one k,x=>.agg (enc (.one k) x)
 |.int ik,n=>.int ik n
 |.bool,b=>.bool b
 |.str,s=>.str s
 |.sl k,xs=>.sl false k xs
 |.mp kk vk,es=>.mp kk vk es
 |.fn f,_=>.fn f []
inductive OK where
 |row (ty:TypeId) (k:K)|map (kk vk:K)|iter (kk vk:K)|og
 deriving DecidableEq
abbrev OK.T:OK→Type
 |.row _ k=>List k.T
 |.map kk vk=>List (kk.T×vk.T)
 |.iter kk vk=>Option (kk.T×vk.T)×List (kk.T×vk.T)
 |.og=>ByteArray×Nat
inductive Ob where
 |box (ty:TypeId) (cs:List AV)
 |own (ok:OK) (x:ok.T)
abbrev Heap:=List (Nat×Ob)
def Heap.get:Heap→Nat→Option Ob
 |[],_=>none
 |(i,o)::r,n=>if i=n then some o else Heap.get r n
def Heap.del:Heap→Nat→Heap
 |[],_=>[]
 |(i,o)::r,n=>if i=n then Heap.del r n else(i,o)::Heap.del r n
def Heap.set(h:Heap)(n:Nat)(o:Ob):Heap:=(n,o)::h.del n
def cV(h:Heap):AV→AV
 |.bI id=>match h.get id with
  |some (.own (.row _ k) xs)=>.sl false k xs
  |some (.own (.map kk vk) es)=>.mp kk vk es
  |_=>.no
 |v=>v
def drop1(h:Heap):AV→Heap
 |.bI id=>h.del id
 |_=>h
def cM(h:Heap):List AV→Heap
 |[]=>h
 |c::r=>cM (drop1 h c) r
structure St where
 tmps:List (Nat×AV)
 heap:Heap
def look:List (Nat×AV)→Nat→AV
 |[],_=>.no
 |(i,v)::r,n=>if i=n then v else look r n
def St.put(s:St)(d:Option Tmp)(v:AV):St :=match d with
 |some d=>{ s with tmps:=(d,v)::s.tmps }
 |none=>s
def xH:Value→AV
 |.bool b=>.bool b
 |.int k n=>.int k n
 |.string s=>.str s
 |.pointer a=>if a=none then .lH else .no
 |.slice a n c=>if a=none∧n=0∧c=0 then .fK else .no
 |.func fn first cap=>match fn with
  |.func f=>if first.size=0∧cap.size=0 then .fn f [] else .no
  |_=>.no
 |_=>.no
def uO(v:Value):AV :=match v with
 |.agg cs=>.agg (cs.toList.map xH)
 |v=>xH v
def ρ(s:List (Nat×AV)):Operand→AV
 |.tmp t=>look s t
 |.const v=>uO v
 |.global _=>.no
 |.func f=>.fn f []
inductive bD where
 |val (v:AV)
 |new (v:AV) (os:Heap)
 |wr (v:AV) (h:Heap)
def bD.v:bD→AV
 |.val v=>v
 |.new v _=>v
 |.wr v _=>v
def bD.h(h:Heap):bD→Heap
 |.val _=>h
 |.new _ os=>os++h
 |.wr _ h'=>h'
inductive CK where
 |val (k:K)
 |own (ok:OK)
inductive PK where
 |val (k:K)
 |ref
 |own
 |uP (f:FuncId) (n:Nat)
 |agg (n:Nat)
inductive RK where
 |val (k:K)
 |own (ok:OK)
 |eV (b:Nat) (alts:List (Nat×Nat×Nat))
 |agg (c:List CK)
inductive BK where
 |box (ty:TypeId) (dH:List CK)
 |own (ok:OK)
def BK.dH:BK→List CK
 |.box _ c=>c
 |.own _=>[]
def CK.T:CK→Type
 |.val k=>k.T
 |.own ok=>ok.T
def rm:List CK→Type
 |[]=>Unit
 |c::r=>c.T×rm r
abbrev BK.T:BK→Type
 |.box _ c=>rm c
 |.own ok=>ok.T
def zj:List BK→Type
 |[]=>Unit
 |b::r=>b.T×zj r
def IG:List K→Type
 |[]=>Unit
 |k::r=>k.T×IG r
def RK.T:RK→Type
 |.val k=>k.T
 |.own ok=>ok.T
 |.eV _ alts=>Option (Fin alts.length×Nat)
 |.agg c=>rm c
def mb:List RK→Type
 |[]=>Unit
 |r::l=>r.T×mb l
def ly:List PK→List K
 |[]=>[]
 |.val k::r=>k::ly r
 |_::r=>ly r
structure aO where
 ps:List PK
 bs:List BK
 rs:List RK
 x:Option (Heap→Nat→List AV→Option (Bool×bD)):=none
abbrev aO.A(g:aO):Type:=IG (ly g.ps)×zj g.bs
abbrev aO.B(g:aO):Type:=mb g.rs×zj g.bs
def RK.plain:RK→Bool
 |.val _=>true
 |.own ..=>true
 |.eV ..=>false
 |.agg c=>decide (c.length≤16)
def RK.flat:RK→Bool
 |.val k=>k.flat
 |.own (.row _ k)=>k.flat
 |.own _=>false
 |.eV ..=>true
 |.agg _=>false
section
variable (P:Program)
def Lu:TypeDesc→Bool
 |.struct _=>true
 |.array _ _=>true
 |_=>false
def Ff(t:TypeId):Option Bool:=(P.underlying t).map Lu
def g8(t:TypeId)(f:Nat):Option (Nat×TypeId) :=match P.underlying t with
 |some (.struct fs)=>(fs[f]?).map fun x=>(x.offset,x.type)
 |_=>none
def rp(t:TypeId):Option TypeId :=match P.underlying t with
 |some (.slice e)=>some e
 |_=>none
def Bi(t:TypeId):Option (List AV):=(P.info? t).bind fun i=>i.zero.bind fun z=>if z.cells.toList.all (·.oneCell') then some (uO z).cells else none
def dV(t:TypeId)(cs:List AV):Option AV :=match Ff P t with
 |some true=>if P.cellsOf t≤cs.length then some (.agg (cs.take (P.cellsOf t))) else none
 |some false=>match cs with
  |c::_=>some c
  |[]=>none
 |none=>none
def dU{α:Type}(cs:List α):Nat→List α→List α
 |_,[]=>cs
 |off,v::r=>dU (cs.set off v) (off+1) r
def Fg(place:Nat→Option (Nat×Nat))(cs:List AV):List (Nat×AV)→Option (List AV)
 |[]=>some cs
 |(i,v)::r =>
  match place i with
  |none=>none
  |some (off,size)=>if v.cells.length≠size∨off+v.cells.length>cs.length then none else Fg place (dU cs off v.cells) r
def fe(op:BinOp)(k:IntKind)(a b:Int):Int :=k.wrap ((match op with
  |.and=>BitVec.ofInt k.bits a &&& BitVec.ofInt k.bits b
  |.or=>BitVec.ofInt k.bits a ||| BitVec.ofInt k.bits b
  |.xor=>BitVec.ofInt k.bits a ^^^ BitVec.ofInt k.bits b
  |_=>BitVec.ofInt k.bits a &&& ~~~(BitVec.ofInt k.bits b)).toNat:Int)
def aci(k:IntKind)(a b:Int):Int:=k.wrap (a*2 ^ (min b.toNat k.bits))
def g9(k:IntKind)(a b:Int):Int:=a.fdiv (2 ^ (min b.toNat k.bits))
def ZS(op:BinOp)(k:IntKind)(a b:Int):Option AV :=match op with
 |.add=>some (.int k (k.wrap (a+b)))
 |.sub=>some (.int k (k.wrap (a-b)))
 |.mul=>some (.int k (k.wrap (a*b)))
 |.eql=>some (.bool (a==b))
 |.neq=>some (.bool (a != b))
 |.lss=>some (.bool (decide (a<b)))
 |.leq=>some (.bool (decide (a≤b)))
 |.gtr=>some (.bool (decide (a>b)))
 |.geq=>some (.bool (decide (a≥b)))
 |.and=>some (.int k (fe .and k a b))
 |.or=>some (.int k (fe .or k a b))
 |.xor=>some (.int k (fe .xor k a b))
 |.andNot=>some (.int k (fe .andNot k a b))
 |_=>none
def acj(op:BinOp)(a b:ByteArray):Option AV :=match op with
 |.eql=>some (.bool (a==b))
 |.neq=>some (.bool (!(a==b)))
 |_=>none
def sH:(k:K)→k.T→k.T→Bool
 |.int _,x,y=>(show Int from x)==y
 |.bool,x,y=>(show Bool from x)==y
 |.str,x,y=>(show ByteArray from x)==y
 |.sl _,_,_=>false
 |.mp _ _,_,_=>false
 |.fn _,_,_=>false
 |.pair a b,x,y=>sH a x.1 y.1&&sH b x.2 y.2
 |.one k,x,y=>sH k x y
def rq(kk:K){α:Type}(x:kk.T)(es:List (kk.T×α)):Option Nat:=es.findIdx? fun e=>sH kk x e.1
def fm(kk:K){α:Type}(x:kk.T)(es:List (kk.T×α)):Option α:=(rq kk x es).bind fun i=>(es[i]?).map (·.2)
def jx(kk:K){α:Type}(x:kk.T)(v:α)(es:List (kk.T×α)):List (kk.T×α):=match rq kk x es with
 |some i=>es.set i (x,v)
 |none=>es++[(x,v)]
def GQ(kk:K){α:Type}(x:kk.T)(es:List (kk.T×α)):List (kk.T×α):=match rq kk x es with
 |some i=>es.eraseIdx i
 |none=>es
def me:(k:K)→k.T
 |.int _=>(0:Int)
 |.bool=>false
 |.str=>ByteArray.empty
 |.sl k=>([]:List k.T)
 |.pair a b=>(me a,me b)
 |.one k=>me k
 |.mp kk vk=>([]:List (kk.T×vk.T))
 |.fn _=>()
def RG:K→Value→Bool
 |.int ik,.int ik' n=>decide (ik'=ik∧n=0)
 |.bool,.bool b => !b
 |.str,.string s=>decide (s=ByteArray.empty)
 |.sl _,.slice a n c=>decide (a=none∧n=0∧c=0)
 |_,_=>false
def IH(t:TypeId)(k:K):Bool:=match P.info? t with
 |some i=>match i.zero with
  |some z=>RG k z
  |none=>false
 |none=>false
def Nk(Eqs:TypeId→Option K)(t:TypeId)(k:K):Bool:=k.flat&&(match k,P.underlying t with
 |.int ik,some (.int ik')=>decide (ik'=ik)
 |.bool,some .bool=>true
 |.str,some .string=>true
 |k,_=>k.isAgg&&decide (Eqs t=some k))
def mapOf(Eqs:TypeId→Option K)(t:TypeId):Option (K×K):=match P.underlying t with
 |some (.map a b)=>match pK P 8 a,pK P 8 b with
  |some kk,some vk=>if Nk P Eqs a kk&&IH P b vk then some (kk,vk) else none
  |_,_=>none
 |_=>none
def aW{α:Type}(xs:List α)(i:Int):Option α:=if 0≤i then xs[i.toNat]? else none
def eW:Nat:=1073741824
def aL(n m:Nat):Bool:=decide (n+m≤eW)
def oi(n:Nat)(lo hi:Option AV):Option (Int×Int) :=match lo,hi with
 |none,none=>some (0,(n:Int))
 |some (.int .i64 l),none=>some (l,(n:Int))
 |none,some (.int .i64 h)=>some (0,h)
 |some (.int .i64 l),some (.int .i64 h)=>some (l,h)
 |_,_=>none
def bp(n:Nat)(l h:Int):Bool:=decide (0≤l)&&(decide (l≤h)&&decide (h≤(n:Int)))
def cut{α:Type}(xs:List α)(l h:Int):List α:=(xs.take h.toNat).drop l.toNat
def ZT(s:ByteArray)(l h:Int):ByteArray:=s.extract l.toNat h.toNat
variable {R:Type}
def gP(k:K)(h:Heap)(v:AV):Option k.T:=if k.isAgg=v.isAgg then dr k (v.cells.map (cV h)) else none
def rowOf(h:Heap)(v:AV)(k:K):Option (List k.T) :=match cV h v with
 |.sl _ k' xs=>if e:k'=k then some (e▸xs) else none
 |.fK=>some []
 |_=>none
def xI(e:TypeId)(k:K):Bool :=match P.info? e with
 |some i=>(match i.zero with
  |some z=>decide (i.size=k.sz)&&(decide (z.cells.size=k.sz)&&decide (i.bytes≤65536))
  |none=>false)
 |none=>false
def Pb(t:TypeId):Bool:=match P.underlying t with
 |some (.int .u8)=>true
 |_=>false
def ZU(e:TypeId):Bool:=match P.info? e with
 |some i=>decide (i.size=1)&&decide (i.bytes=1)&&(match i.zero with|some (.int .u8 n)=>decide (n=0)|_=>false)
 |none=>false
def strOf(xs:List Int):ByteArray:=xs.foldl (fun r n=>r.push (UInt8.ofNat n.toNat)) ByteArray.empty
def bytesOf(s:ByteArray):List Int:=s.data.toList.map fun b=>(b.toNat:Int)
def rr(xs:List Int)(b:ByteArray):List Int:=xs++bytesOf b
def lT(h:Heap)(id:Nat)(t:TypeId)(s:AV)(b:ByteArray)(K:bD→Option R):Option R :=match rp P t,s with
 |some e,.bI cC =>
  if ZU P e then match h.get cC with
   |some (.own (.row e' k') xs)=>if c:e'=e∧k'=.int .u8 then cond (!xs.isEmpty&&aL xs.length b.size) (K (.wr (.bI id) ((h.del cC).set id (.own (.row e (.int .u8)) (rr (c.2▸xs:List (Vs.K.int .u8).T) b))))) none else none
   |_=>none
  else none
 |_,_=>none
def sI(id:Nat)(t:TypeId)(l c:AV)(K:bD→Option R):Option R :=match rp P t,l,c with
 |some e,.int .i64 n,.int .i64 m =>
  match pK P 8 e with
  |some kk=>if xI P e kk&&IH P e kk then cond (decide (0≤n)&&(decide (n≤(eW:Int))&&decide (m=n))) (K (.new (.bI id) [(id,.own (.row e kk) (List.replicate n.toNat (me kk)))])) none else none
  |none=>none
 |_,_,_=>none
def nh{α:Type}(ys xs:List α):List α:=ys.take xs.length++xs.drop ys.length
def xJ(h:Heap)(t:TypeId)(d s:AV)(K:bD→Option R):Option R :=match rp P t,d with
 |some e,.bI id =>
  match h.get id with
  |some (.own (.row e' k) xs) =>
   match rowOf h s k with
   |some ys=>if e'=e∧xI P e k=true then cond (!xs.isEmpty) (K (.wr (.int .i64 (min (ys.length:Int) (xs.length:Int))) (h.set id (.own (.row e' k) (nh ys xs))))) none else none
   |none=>none
  |_=>none
 |_,_=>none
def oo(h:Heap)(id:Nat)(t:TypeId)(s x:AV)(K:bD→Option R):Option R :=match rp P t with
 |none=>none
 |some e =>
  match pK P 8 e with
  |none=>none
  |some kk =>
   match rowOf h x kk,xI P e kk with
   |some ys,true =>
    match s with
    |.fK=>cond (aL 0 ys.length) (K (.new (.bI id) [(id,.own (.row e kk) ys)])) none
    |.bI cC =>
     match h.get cC with
     |some (.own (.row e' k') xs) =>
      if c:e'=e∧k'=kk then cond (aL xs.length ys.length) (K (.wr (.bI id) ((h.del cC).set id (.own (.row e kk) (c.2▸xs++ys))))) none else none
     |_=>none
    |.sl ex k' xs =>
     if c:k'=kk then cond (ex&&((!ys.isEmpty || xs.isEmpty)&&aL xs.length ys.length)) (K (.new (.bI id) [(id,.own (.row e kk) (c▸xs++ys))])) none else none
    |_=>none
   |_,_=>none
def xK:AV→Bool
 |.no=>false
 |.agg _=>false
 |.nM _=>false
 |_=>true
def Lv(id:Nat):List AV→Bool
 |[]=>true
 |.bI i::r => !(i==id)&&Lv id r
 |_::r=>Lv id r
def stored(h:Heap)(vs:List AV):List AV×Heap:=(vs.map (cV h),cM h vs)
def sJ(h:Heap)(t:TypeId)(a v:AV)(K:bD→Option R):Option R :=if v.cells.length=P.cellsOf t∧(P.info? t).isSome∧v.cells.all xK then
  match a with
  |.ref id s i off =>
   match h.get id with
   |some (.box ty cs)=>if i=0∧off+v.cells.length≤cs.length then K (.wr .no (h.set id (.box ty (dU cs off v.cells)))) else none
   |some (.own (.row ty kk) xs) =>
    (xs[i]?).bind fun x =>if s=kk.sz∧off+v.cells.length≤kk.sz∧Lv id v.cells then
      match dr kk (dU (enc kk x) off (stored h v.cells).1) with
      |some y=>K (.wr .no ((stored h v.cells).2.set id (.own (.row ty kk) (xs.set i y))))
      |none=>none
     else none
   |_=>none
  |_=>none
 else none
def mf(h:Heap)(t:TypeId)(a:AV)(K:bD→Option R):Option R :=match a with
 |.ref id s i off =>
  match h.get id with
  |some (.box _ cs)=>if i=0 then(match dV P t (cs.drop off) with|some v=>K (.val v)|none=>none) else none
  |some (.own (.row _ kk) xs)=>if s=kk.sz then(xs[i]?).bind fun x=>match dV P t ((enc kk x).drop off) with|some v=>K (.val v)|none=>none else none
  |_=>none
 |.fp kk x off=>match dV P t ((enc kk x).drop off) with|some v=>K (.val v)|none=>none
 |_=>none
def dw(h:Heap)(t:TypeId)(x i:AV)(K:bD→Option R):Option R :=match rp P t with
 |none=>none
 |some e =>
  match x,i with
  |.sl _ kk xs,.int _ n=>if P.cellsOf e=kk.sz then(aW xs n).bind fun y=>K (.val (.fp kk y 0)) else none
  |.bI id,.int _ n =>
   match h.get id with
   |some (.own (.row _ kk) xs)=>if P.cellsOf e=kk.sz then cond (decide (0≤n)&&decide (n<(xs.length:Int))) (K (.val (.ref id kk.sz n.toNat 0))) none else none
   |_=>none
  |_,_=>none
def xL(x:AV)(lo hi mx:Option AV)(K:bD→Option R):Option R :=match x,mx with
 |.str s,none =>
  match oi s.size lo hi with
  |some (l,u)=>cond (bp s.size l u) (K (.val (.str (ZT s l u)))) none
  |none=>none
 |_,_=>none
def pM(_:Heap)(sz:Nat)(x:AV)(lo hi mx:Option AV)(K:bD→Option R):Option R :=match x with
 |.fK =>
  match oi 0 lo hi,mx with
  |some (l,u),none=>cond (bp 0 l u) (K (.val .fK)) none
  |_,_=>none
 |.sl _ kk xs =>
  if sz=kk.sz then
   match oi xs.length lo hi with
   |some (l,u) =>
    match mx with
    |none=>cond (bp xs.length l u) (K (.val (.sl false kk (cut xs l u)))) none
    |some (.int .i64 m)=>cond (bp xs.length l u&&(hi.isSome&&decide (m=u))) (K (.val (.sl true kk (cut xs l u)))) none
    |_=>none
   |none=>none
  else none
 |_=>none
def ZV(t:TypeId)(x:AV):Bool :=match P.underlying t,x with
 |some .string,.str _=>true
 |some (.slice _),.str _=>false
 |some (.slice _),_=>true
 |_,_=>false
def Lw(t:TypeId):Bool :=match P.underlying t with
 |some (.map _ _)=>true
 |_=>false
def Fh(h:Heap)(x:AV)(K:bD→Option R):Option R :=match cV h x with
 |.str s=>K (.val (.int .i64 (s.size:Int)))
 |.sl _ _ xs=>K (.val (.int .i64 (xs.length:Int)))
 |.fK=>K (.val (.int .i64 0))
 |_=>none
def xM(h:Heap)(x:AV)(K:bD→Option R):Option R :=match cV h x with
 |.mp _ _ es=>K (.val (.int .i64 (es.length:Int)))
 |_=>none
def lU(Eqs:TypeId→Option K)(id:Nat)(t:TypeId)(K:bD→Option R):Option R :=match mapOf P Eqs t with
 |some (kk,vk)=>K (.new (.bI id) [(id,.own (.map kk vk) [])])
 |none=>none
def oq(Eqs:TypeId→Option K)(h:Heap)(t:TypeId)(m i:AV)(ok:Bool)(K:bD→Option R):Option R :=match mapOf P Eqs t,cV h m with
 |some (kk,vk),.mp Ni WC es =>
  if c:Ni=kk∧WC=vk then
   match gP kk h i with
   |some x=>K (.val (cond ok (.nM [b7 vk ((fm kk x (c.1▸c.2▸es:List (kk.T×vk.T))).getD (me vk)),.bool (fm kk x (c.1▸c.2▸es:List (kk.T×vk.T))).isSome]) (b7 vk ((fm kk x (c.1▸c.2▸es:List (kk.T×vk.T))).getD (me vk)))))
   |none=>none
  else none
 |_,_=>none
def jg(Eqs:TypeId→Option K)(h:Heap)(t:TypeId)(m i v:AV)(K:bD→Option R):Option R :=match mapOf P Eqs t,m with
 |some (kk,vk),.bI id =>
  match h.get id with
  |some (.own (.map Ni WC) es) =>
   if c:Ni=kk∧WC=vk then
    match gP kk h i,gP vk h v,(v.cells.all fun c=>match c with | .bI j => !(j==id)|_=>true) with
    |some x,some y,true=>K (.wr (.nM []) ((cM h v.cells).set id (.own (.map kk vk) (jx kk x y (c.1▸c.2▸es:List (kk.T×vk.T))))))
    |_,_,_=>none
   else none
  |_=>none
 |_,_=>none
def ot(Eqs:TypeId→Option K)(h:Heap)(t:TypeId)(m i:AV)(K:bD→Option R):Option R :=match mapOf P Eqs t,m with
 |some (kk,vk),.bI id =>
  match h.get id with
  |some (.own (.map Ni WC) es) =>
   if c:Ni=kk∧WC=vk then
    match gP kk h i with
    |some x=>K (.wr (.nM []) (h.set id (.own (.map kk vk) (GQ kk x (c.1▸c.2▸es:List (kk.T×vk.T))))))
    |none=>none
   else none
  |_=>none
 |_,_=>none
def ou(id:Nat)(t:TypeId)(x:AV)(K:bD→Option R):Option R :=match P.underlying t,x with
 |some .string,.str s=>K (.new (.bI id) [(id,.own .og (s,0))])
 |_,_=>none
def pN(s:ByteArray)(p:Nat):Int:=(Utf8.decode s p).1
def Bj(s:ByteArray)(p:Nat):Nat:=(Utf8.decode s p).2
def sK(h:Heap)(x:AV)(K:bD→Option R):Option R :=match x with
 |.bI id=>match h.get id with
  |some (.own .og x)=>cond (decide (x.2<x.1.size)) (K (.wr (.nM [.bool true,.int .i64 (x.2:Int),.int .i32 (pN x.1 x.2)]) (h.set id (.own .og (x.1,x.2+Bj x.1 x.2))))) (K (.val (.nM [.bool false])))
  |_=>none
 |_=>none
def sL(h:Heap)(x:AV)(K:bD→Option R):Option R :=match x with
 |.bI id=>match h.get id with
  |some (.own (.iter kk vk) (some c,_))=>K (.val (.nM [b7 kk c.1,b7 vk c.2]))
  |_=>none
 |_=>none
def GR:TypeDesc→Bool
 |.bool=>true
 |_=>false
def xN:TypeDesc→Bool
 |.pointer _=>true
 |_=>false
def zk(Eqs:TypeId→Option K)(op:BinOp)(t:TypeId)(x y:AV)(K:bD→Option R):Option R :=match x,y with
 |.int k a,.int k' b =>
  match op with
  |.shl=>cond (decide (b<0)) none (K (.val (.int k (aci k a b))))
  |.shr=>cond (decide (b<0)) none (K (.val (.int k (g9 k a b))))
  |op =>
  if k=k' then
   match op with
   |.quo=>cond (b==0) none (K (.val (.int k (k.wrap (a.tdiv b)))))
   |.rem=>cond (b==0) none (K (.val (.int k (a.tmod b))))
   |op=>match ZS op k a b with
    |some v=>K (.val v)
    |none=>none
  else none
 |.str a,.str b=>match acj op a b with
  |some v=>K (.val v)
  |none=>none
 |.bool a,.bool b =>
  match op,(P.underlying t).map GR with
  |.eql,some true=>K (.val (.bool (a==b)))
  |.neq,some true=>K (.val (.bool (!(a==b))))
  |_,_=>none
 |.agg a,.agg b =>
  match Eqs t with
  |none=>none
  |some k =>
   match op,dr k a,dr k b with
   |.eql,some x,some y=>K (.val (.bool (sH k x y)))
   |.neq,some x,some y=>K (.val (.bool (!(sH k x y))))
   |_,_,_=>none
 |.lH,.lH =>
  match op,(P.underlying t).map xN with
  |.eql,some true=>K (.val (.bool true))
  |.neq,some true=>K (.val (.bool false))
  |_,_=>none
 |.ref ..,.lH =>
  match op,(P.underlying t).map xN with
  |.eql,some true=>K (.val (.bool false))
  |.neq,some true=>K (.val (.bool true))
  |_,_=>none
 |_,_=>none
def Yx(b:Bool)(x y:AV):AV :=match x,y with
 |.bool p,.bool q=>.bool (cond b p q)
 |x,y=>cond b x y
end
def dZ(h:Heap)(ok:OK)(c:AV):Option ok.T :=match c with
 |.fK=>match ok with
  |.row _ _=>some []
  |_=>none
 |.bI id=>match h.get id with
  |some (.own WD x)=>if e:WD=ok then some (e▸x) else none
  |_=>none
 |_=>none
def pO:AV→List Nat
 |.bI id=>[id]
 |_=>[]
def cQ:(dH:List CK)→Heap→List AV→Option (rm dH)
 |[],_,[]=>some ()
 |.val k::r,h,cs =>
  match dr k ((cs.take k.sz).map (cV h)),cQ r h (cs.drop k.sz) with
  |some x,some y=>some (x,y)
  |_,_=>none
 |.own ok::r,h,c::cs =>
  match dZ h ok c,cQ r h cs with
  |some x,some y=>some (x,y)
  |_,_=>none
 |_,_,_=>none
def qJ:List CK→List AV→List AV
 |.val k::r,cs=>cs.take k.sz++qJ r (cs.drop k.sz)
 |.own _::r,_::cs=>qJ r cs
 |_,_=>[]
def fW:List CK→List AV→List Nat
 |.val k::r,cs=>fW r (cs.drop k.sz)
 |.own _::r,c::cs=>pO c++fW r cs
 |_,_=>[]
def aE:(dH:List CK)→Nat→rm dH→List AV
 |[],_,_=>[]
 |.val k::r,n,x=>enc k x.1++aE r (n+1) x.2
 |.own _::r,n,x=>.bI n::aE r (n+1) x.2
def aX:(dH:List CK)→Nat→rm dH→Heap
 |[],_,_=>[]
 |.val _::r,n,x=>aX r (n+1) x.2
 |.own ok::r,n,x=>(n,.own ok x.1)::aX r (n+1) x.2
def II(h:Heap)(id:Nat)(ty:TypeId):Option (List AV) :=match h.get id with
 |some (.box It cs)=>if It=ty then some cs else none
 |_=>none
def ru:(b:BK)→Heap→Nat→Option b.T
 |.box ty c,h,i=>match II h i ty with
  |some cs=>cQ c h cs
  |none=>none
 |.own ok,h,i=>dZ h ok (.bI i)
def dh:(bs:List BK)→Heap→List Nat→Option (zj bs)
 |[],_,[]=>some ()
 |b::r,h,i::is =>
  match ru b h i,dh r h is with
  |some x,some y=>some (x,y)
  |_,_=>none
 |_,_,_=>none
def j0:(b:BK)→Nat→Nat→b.T→Heap
 |.box ty c,i,n,x=>(i,.box ty (aE c n x))::aX c n x
 |.own ok,i,_,x=>[(i,.own ok x)]
def bE:(bs:List BK)→List Nat→Nat→zj bs→Heap
 |b::r,i::is,n,x=>j0 b i n x.1++bE r is (n+16) x.2
 |_,_,_,_=>[]
def Bk:BK→Heap→Nat→List AV
 |.box _ c,h,i=>match h.get i with
  |some (.box _ cs)=>qJ c cs
  |_=>[]
 |.own _,_,_=>[]
def gq:List BK→Heap→List Nat→List AV
 |b::r,h,i::is=>Bk b h i++gq r h is
 |_,_,_=>[]
def ni:BK→Heap→Nat→List Nat
 |.box _ c,h,i=>i::(match h.get i with
  |some (.box _ cs)=>fW c cs
  |_=>[])
 |.own _,_,i=>[i]
def c8:List BK→Heap→List Nat→List Nat
 |b::r,h,i::is=>ni b h i++c8 r h is
 |_,_,_=>[]
def hM(h:Heap):List Nat→Heap
 |[]=>h
 |i::r=>hM (h.del i) r
def Fi:AV→Option Nat
 |.ref id _ 0 0=>some id
 |_=>none
def j4:List AV→Option (List Nat)
 |[]=>some []
 |v::r=>match Fi v,j4 r with
  |some i,some is=>some (i::is)
  |_,_=>none
def pP:List AV→Option (List Nat)
 |[]=>some []
 |.bI i::r=>match pP r with
  |some is=>some (i::is)
  |none=>none
 |_=>none
def cH:List PK→List AV→Option (List Nat)
 |[],[]=>some []
 |.val _::ps,_::vs=>cH ps vs
 |.ref::ps,v::vs=>match Fi v,cH ps vs with
  |some i,some is=>some (i::is)
  |_,_=>none
 |.own::ps,.bI i::vs=>match cH ps vs with
  |some is=>some (i::is)
  |none=>none
 |.uP f n::ps,.fn f' cap::vs =>
  if f'=f∧cap.length=n then match j4 cap,cH ps vs with
   |some a,some b=>some (a++b)
   |_,_=>none
  else none
 |.agg n::ps,.agg cs::vs =>
  if cs.length=n then match pP cs,cH ps vs with
   |some a,some b=>some (a++b)
   |_,_=>none
  else none
 |_,_=>none
def fq:(ps:List PK)→Heap→List AV→Option (IG (ly ps))
 |[],_,[]=>some ()
 |.val k::ps,h,v::vs =>
  match gP k h v,fq ps h vs with
  |some x,some y=>some (x,y)
  |_,_=>none
 |.ref::ps,h,_::vs=>fq ps h vs
 |.own::ps,h,_::vs=>fq ps h vs
 |.uP _ _::ps,h,_::vs=>fq ps h vs
 |.agg _::ps,h,_::vs=>fq ps h vs
 |_,_,_=>none
def dm:List PK→List AV→List AV
 |.val _::ps,v::vs=>v.cells++dm ps vs
 |_::ps,_::vs=>dm ps vs
 |_,_=>[]
def aT:(ps:List PK)→(ids:List Nat)→Nat→IG (ly ps)→List (Nat×AV)
 |[],_,_,_=>[]
 |.val k::ps,ids,s,x=>(s,b7 k x.1)::aT ps ids (s+1) x.2
 |.ref::ps,i::ids,s,x=>(s,.ref i 0 0 0)::aT ps ids (s+1) x
 |.ref::ps,[],s,x=>(s,.no)::aT ps [] (s+1) x
 |.own::ps,i::ids,s,x=>(s,.bI i)::aT ps ids (s+1) x
 |.own::ps,[],s,x=>(s,.no)::aT ps [] (s+1) x
 |.uP f n::ps,ids,s,x=>(s,.fn f ((ids.take n).map fun i=>.ref i 0 0 0))::aT ps (ids.drop n) (s+1) x
 |.agg n::ps,ids,s,x=>(s,.agg ((ids.take n).map .bI))::aT ps (ids.drop n) (s+1) x
def nj:List CK→Nat→Nat
 |.val k::r,c+1=>k.sz+nj r c
 |.own _::r,c+1=>1+nj r c
 |_,_=>0
def gi:List CK→Nat→Bool
 |.own (.row _ _)::_,0=>true
 |_::r,c+1=>gi r c
 |_,_=>false
def RH(id:Nat):Option AV→Bool
 |some (.bI ov)=>ov==id
 |_=>false
def Bl(c:List CK)(cs:List AV)(id s off:Nat)(a:Nat×Nat×Nat):Bool :=RH id (cs[nj c a.1]?)&&(decide (s=a.2.1)&&(decide (off=a.2.2)&&gi c a.1))
def nN(bs:List BK)(h:Heap)(ids:List Nat)(b:Nat)(alts:List (Nat×Nat×Nat))(v:AV):Option (Option (Fin alts.length×Nat)) :=match v with
 |.lH=>some none
 |.ref id s i off =>
  (match ids[b]?,bs[b]? with
  |some bi,some bk=>(match h.get bi with
   |some (.box _ cs)=>(match (List.finRange alts.length).find? (fun a=>Bl bk.dH cs id s off (alts.get a)) with
    |some a=>some (some (a,i))
    |none=>none)
   |_=>none)
  |_,_=>none)
 |_=>none
def Bm(c:List CK)(h:Heap)(v:AV):Option (rm c) :=match v with
 |.agg cs=>cQ c h cs
 |_=>none
def bM(bs:List BK):(rs:List RK)→Heap→List Nat→List AV→Option (mb rs)
 |[],_,_,[]=>some ()
 |.val k::r,h,ids,v::vs =>
  match gP k h v,bM bs r h ids vs with
  |some x,some y=>some (x,y)
  |_,_=>none
 |.own ok::r,h,ids,v::vs =>
  match dZ h ok v,bM bs r h ids vs with
  |some x,some y=>some (x,y)
  |_,_=>none
 |.eV b alts::r,h,ids,v::vs =>
  match nN bs h ids b alts v,bM bs r h ids vs with
  |some x,some y=>some (x,y)
  |_,_=>none
 |.agg c::r,h,ids,v::vs =>
  match Bm c h v,bM bs r h ids vs with
  |some x,some y=>some (x,y)
  |_,_=>none
 |_,_,_,_=>none
def gr:List RK→List AV→List AV
 |.val _::r,v::vs=>v.cells++gr r vs
 |.agg c::r,v::vs=>qJ c v.cells++gr r vs
 |_::r,_::vs=>gr r vs
 |_,_=>[]
def dP:List RK→List AV→List Nat
 |.own _::r,v::vs=>pO v++dP r vs
 |.agg c::r,v::vs=>fW c v.cells++dP r vs
 |_::r,_::vs=>dP r vs
 |_,_=>[]
def vL(b n:Nat)(alts:List (Nat×Nat×Nat)):Option (Fin alts.length×Nat)→AV
 |none=>.lH
 |some (a,i)=>.ref (n+16*b+(alts.get a).1) (alts.get a).2.1 i (alts.get a).2.2
def aU:(rs:List RK)→(ids:List Nat)→(n m:Nat)→mb rs→List AV
 |[],_,_,_,_=>[]
 |.val k::r,ids,n,m,x=>b7 k x.1::aU r ids n (m+1) x.2
 |.agg c::r,ids,n,m,x=>.agg (aE c m x.1)::aU r ids n (m+1) x.2
 |.own _::r,ids,n,m,x=>.bI m::aU r ids n (m+1) x.2
 |.eV b alts::r,ids,n,m,x=>vL b n alts x.1::aU r ids n (m+1) x.2
def aq:(rs:List RK)→(m:Nat)→mb rs→Heap
 |[],_,_=>[]
 |.own ok::r,m,x=>(m,.own ok x.1)::aq r (m+1) x.2
 |.agg c::r,m,x=>aX c m x.1++aq r (m+1) x.2
 |.val _::r,m,x=>aq r (m+1) x.2
 |.eV _ _::r,m,x=>aq r (m+1) x.2
def fg:List AV→AV
 |[v]=>v
 |vs=>.nM vs
def cr:List CK→Nat→List Nat
 |[],_=>[]
 |.val _::r,n=>cr r (n+1)
 |.own _::r,n=>n::cr r (n+1)
def bZ:List BK→List Nat→Nat→List Nat
 |b::r,i::is,n=>i::(cr b.dH n++bZ r is (n+16))
 |_,_,_=>[]
def bC:List RK→Nat→List Nat
 |[],_=>[]
 |.own _::r,m=>m::bC r (m+1)
 |.agg c::r,m=>cr c m++bC r (m+1)
 |.val _::r,m=>bC r (m+1)
 |.eV _ _::r,m=>bC r (m+1)
def aP(n:Nat):List Nat:=(List.range n).map fun i=>1000+20*i
def rv(g:aO):List Nat:=bZ g.bs (aP g.bs.length) 2000++bC g.rs 3000
def IJ:List AV→Bool
 |[]=>true
 |.bI _::_=>false
 |_::r=>IJ r
def uQ:List AV→Bool
 |[]=>true
 |v::r=>IJ v.cells&&uQ r
def cc:List Nat→Bool
 |[]=>true
 |i::r => !(r.contains i)&&cc r
def xO(kept:List Nat)(lr:List AV):Bool:=cc kept&&kept.all fun i=>Lv i lr
section
variable (P:Program) (Eqs:TypeId→Option K) (Sg:FuncId→Option aO) (F:(f:FuncId)→(g:aO)→g.A→Option g.B)
variable {R:Type}
def Yy(h:Heap)(i:Nat):Option FuncId:=match h.get i with
 |some (.box _ (.fn f _::_))=>some f
 |_=>none
def Lx(h:Heap):List AV→Option FuncId
 |[]=>none
 |.ref i _ _ _::r=>match Yy h i with
  |some f=>some f
  |none=>Lx h r
 |_::r=>Lx h r
def mg(h:Heap)(f:FuncId):List AV→FuncId
 |[]=>f
 |.fn g cap::_=>match Lx h cap with
  |some f2=>f+1000*((g+1)+100000*(f2+1))
  |none=>f+1000*(g+1)
 |.ref i _ _ _::r=>match Yy h i with
  |some f2=>mg h (f+1000*(100000*(f2+1))) r
  |none=>mg h f r
 |_::r=>mg h f r
def Bn:List AV→Bool
 |[]=>false
 |.bI _::_=>true
 |.agg cs::r=>(cs.any fun c=>match c with | .bI _=>true|_=>false) || Bn r
 |_::r=>Bn r
def keyOf(h:Heap)(f:FuncId)(vs:List AV):FuncId:=if Bn vs&&(Sg (mg h f vs+500000)).isSome then mg h f vs+500000 else mg h f vs
def Ek(bs:List BK)(r:RK):Bool:=match r with
 |.eV b alts=>match bs[b]? with
  |some bk=>(alts.all fun a=>gi bk.dH a.1)&&decide ((alts.map fun a=>(a.1,a.2.2)).Nodup)
  |none=>false
 |.agg c=>decide (c.length≤16)
 |_=>true
def ry(bs:List BK)(rs:List RK):Bool:=rs.all (Ek bs)
def RI(f:FuncId)(g:aO):Bool:=ry g.bs g.rs&&( (decide (g.bs.length≤8)&&(g.bs.all fun b=>decide (b.dH.length≤16)))&&((decide (g.rs.length≤100)&&decide (f<1000))&&cc (rv g)))
def rz{α R:Type}(o:Option α)(a:Option R)(f:α→Option R):Option R:=match o with
 |none=>a
 |some x=>f x
def ack{R:Type}(n:Nat)(a:Fin n)(f:Fin n→Option R):Option R:=(List.finRange n).foldr (fun j r=>cond (a.val==j.val) (f j) r) none
def j5{R:Type}:(rs:List RK)→mb rs→(mb rs→Option R)→Option R
 |[],_,K=>K ()
 |.eV _ alts::r,x,K=>rz x.1 (j5 r x.2 fun z=>K (none,z)) (fun p=>ack alts.length p.1 fun a=>j5 r x.2 fun z=>K (some (a,p.2),z))
 |.val _::r,x,K=>j5 r x.2 fun z=>K (x.1,z)
 |.own _::r,x,K=>j5 r x.2 fun z=>K (x.1,z)
 |.agg _::r,x,K=>j5 r x.2 fun z=>K (x.1,z)
def jy(h:Heap)(id:Nat)(f:FuncId)(vs:List AV)(K:bD→Option R):Option R :=match Sg (keyOf Sg h f vs) with
 |none=>none
 |some g=>match g.x with
 |some u=>if f<1000 then(u h id vs).bind fun p=>cond p.1 (K p.2) none else none
 |none =>
  match cH g.ps vs,RI f g with
  |some is,true =>
   if is.isEmpty&&g.rs.all RK.plain then
   match fq g.ps h vs,dh g.bs h [],g.rs.all RK.plain with
   |some x,some b,true =>
    (F (keyOf Sg h f vs) g (x,b)).bind fun y =>cond (g.rs.all RK.flat || uQ vs) (K (.new (fg (aU g.rs [] id (id+128) y.1)) (aq g.rs (id+128) y.1))) (K (.wr (fg (aU g.rs [] id (id+128) y.1)) (aq g.rs (id+128) y.1++cM h (dm g.ps vs))))
   |_,_,_=>none
   else
   match fq g.ps h vs,dh g.bs h is,xO (c8 g.bs h is) (dm g.ps vs++gq g.bs h is)&&cc (bZ g.bs is id++bC g.rs (id+128)) with
   |some x,some b,true =>
    (F (keyOf Sg h f vs) g (x,b)).bind fun y=>j5 g.rs y.1 fun z =>K (.wr (fg (aU g.rs is id (id+128) z)) (bE g.bs is id y.2++(aq g.rs (id+128) z++hM (cM h (dm g.ps vs++gq g.bs h is)) (c8 g.bs h is))))
   |_,_,_=>none
  |_,_=>none
def rB{α:Type}(xs:List α)(i:Int)(ys:List α):Bool:=decide (0≤i)&&(decide (i≤xs.length)&&(decide (ys.length=1)&&aL xs.length ys.length))
def iO{α:Type}(xs:List α)(i:Int)(ys:List α):List α:=xs.take i.toNat++(ys++xs.drop i.toNat)
def jX{α:Type}(xs:List α)(i j:Int):Bool:=decide (0≤i)&&(decide (i<j)&&(decide (j≤xs.length)&&aL xs.length 0))
def du{α:Type}(xs:List α)(i j:Int):List α:=xs.take i.toNat++xs.drop j.toNat
def Bo(n:Int):Bool:=decide (0≤n)&&decide (n≤eW)
def RJ(ty:TypeId)(k:K)(h:Heap)(id:Nat):List AV→Option (Bool×bD)
 |[.bI o,.int .i64 i,.bI j]=>match dZ h (.row ty k) (.bI o),dZ h (.row ty k) (.bI j) with
  |some xs,some ys=>if o=j then none else some (rB xs i ys,.wr (.bI id) ((id,.own (.row ty k) (iO xs i ys))::h.del o))
  |_,_=>none
 |_=>none
def WE(ty:TypeId)(k:K)(h:Heap)(id:Nat):List AV→Option (Bool×bD)
 |[.bI o,.int .i64 i,.int .i64 j]=>match dZ h (.row ty k) (.bI o) with
  |some xs=>some (jX xs i j,.wr (.bI id) ((id,.own (.row ty k) (du xs i j))::h.del o))
  |none=>none
 |_=>none
def RL(ty:TypeId)(k:K)(_:Heap)(id:Nat):List AV→Option (Bool×bD)
 |[.fK,.int .i64 n]=>some (Bo n,.new (.bI id) [(id,.own (.row ty k) [])])
 |_=>none
def xQ(id:Nat)(t:TypeId)(vs:List AV)(K:bD→Option R):Option R :=K (.new (.ref id vs.length 0 0) [(id,.box t vs)])
def Yz:AV→Bool
 |.no=>false
 |_=>true
def sM(t:TypeId)(parts:List (Nat×AV))(K:bD→Option R):Option R :=match Bi P t,P.underlying t with
 |some z,some (.struct fs) =>
  match Fg (fun i=>(fs[i]?).map fun f=>(f.offset,P.cellsOf f.type)) z parts,fs.toList.all (fun f=>(P.info? f.type).isSome)&&parts.all (fun p=>Yz p.2) with
  |some cs,true=>K (.val (.agg cs))
  |_,_=>none
 |_,_=>none
def rC(k:K)(h:Heap):Nat→List (Nat×AV)→Option (List k.T)
 |_,[]=>some []
 |i,(j,v)::r =>
  if j=i then match dr k (v.cells.map (cV h)),rC k h (i+1) r with
   |some x,some xs=>some (x::xs)
   |_,_=>none
  else none
def vM(h:Heap)(id:Nat)(t:TypeId)(n:Nat)(parts:List (Nat×AV))(K:bD→Option R):Option R :=match rp P t with
 |none=>none
 |some e =>
  match pK P 8 e with
  |none=>none
  |some k =>
   match rC k h 0 parts,xI P e k with
   |none,_=>none
   |some _,false=>none
   |some xs,true =>
    if parts.length=n∧n*k.sz≤1048576 then
     cond (uQ (parts.map (·.2))) (K (.new (.bI id) [(id,.own (.row e k) xs)])) (K (.wr (.bI id) ((id,.own (.row e k) xs)::cM h (parts.flatMap (·.2.cells)))))
    else none
def WG:bD→bD
 |.new (.bI _) [(_,.own (.row _ k) xs)]=>.new (.sl true k xs) []
 |e=>e
def xR(lr:Bool)(h:Heap)(id:Nat)(t:TypeId)(n:Nat)(parts:List (Nat×AV))(K:bD→Option R):Option R :=vM P h id t n parts fun e=>K (if lr then WG e else e)
def Bp(h:Heap)(src dst:TypeId)(x:AV)(K:bD→Option R):Option R :=match P.underlying src,P.underlying dst,x with
 |some (.int _),some (.int k),.int _ n=>K (.val (.int k (k.wrap n)))
 |some .string,some .string,.str s=>K (.val (.str s))
 |some .string,some (.slice e),.str s=>if Pb P e then K (.new (.sl false (.int .u8) (bytesOf s)) []) else none
 |some (.slice e),some .string,x=>if Pb P e then match rowOf h x (.int .u8) with
  |some xs=>K (.val (.str (strOf xs)))
  |none=>none
  else none
 |_,_,_=>none
def Pc(mx:Bool)(vs:List AV)(K:bD→Option R):Option R :=match vs with
 |[.int k a,.int k' b]=>if k=k' then K (.val (.int k (cond mx (max a b) (min a b)))) else none
 |_=>none
def YA(t id:Nat):Bool:=(Sg (900000+t)).isSome&&(Sg (2000003+1000*(id / 256-128))).isSome
def cW(id:Nat)(h:Heap)(s:List (Nat×AV))(o:Oper)(K:bD→Option R):Option R :=match o.op with
 |.move x | .assign x=>K (.val (ρ s x))
 |.pick c a b=>match ρ s c with
  |.bool t=>K (.val (Yx t (ρ s a) (ρ s b)))
  |_=>none
 |.box t x=>if(ρ s x).cells.all xK then xQ id t (ρ s x).cells K else none
 |.alloc t=>match Bi P t with
  |some z=>xQ id t z K
  |none=>none
 |.build t ps=>sM P t (ps.toList.map fun p=>(p.1,ρ s p.2)) K
 |.buildSlice t n ps=>xR P (YA Sg t id) h id t n (ps.toList.map fun p=>(p.1,ρ s p.2)) K
 |.load t a=>mf P h t (ρ s a) K
 |.store t a v=>sJ P h t (ρ s a) (ρ s v) K
 |.nilCheck x=>match ρ s x with
  |.ref id s i off=>K (.val (.ref id s i off))
  |.fp k x off=>K (.val (.fp k x off))
  |.fn f cap=>K (.val (.fn f cap))
  |_=>none
 |.binOp op t x y _=>zk P Eqs op t (ρ s x) (ρ s y) K
 |.unOp .not _ x=>match ρ s x with
  |.bool b=>K (.val (.bool (!b)))
  |_=>none
 |.convert src dst x=>Bp P h src dst (ρ s x) K
 |.makeSlice t l c=>sI P id t (ρ s l) (ρ s c) K
 |.makeFunc (.func f) first cap=>if first.size=0 then K (.val (.fn f (cap.toList.map (ρ s)))) else none
 |.slice t x lo hi mx=>match P.underlying t with
  |some .string=>xL (ρ s x) (lo.map (ρ s)) (hi.map (ρ s)) (mx.map (ρ s)) K
  |some (.slice e)=>if(P.info? e).isSome then pM h (P.cellsOf e) (ρ s x) (lo.map (ρ s)) (hi.map (ρ s)) (mx.map (ρ s)) K else none
  |_=>none
 |.fieldAddr t x f=>match g8 P t f,ρ s x with
  |some (n,ft),.ref id s i off=>if P.cellsOf ft=0 then none else K (.val (.ref id s i (off+n)))
  |some (n,ft),.fp k x off=>if P.cellsOf ft=0 then none else K (.val (.fp k x (off+n)))
  |_,_=>none
 |.field t x f=>match g8 P t f,ρ s x with
  |some (n,ft),.agg cs=>match dV P ft (cs.drop n) with
   |some v=>K (.val v)
   |none=>none
  |_,_=>none
 |.indexAddr t x i=>dw P h t (ρ s x) (ρ s i) K
 |.index t x i=>match P.underlying t,ρ s x,ρ s i with
  |some .string,.str b,.int _ n=>(if 0≤n then b[n.toNat]? else none).bind fun c=>K (.val (.int .u8 (c.toNat:Int)))
  |_,_,_=>none
 |.makeMap t none=>lU P Eqs id t K
 |.lookup t m i ok=>oq P Eqs h t (ρ s m) (ρ s i) ok K
 |.mapUpdate t m i v=>jg P Eqs h t (ρ s m) (ρ s i) (ρ s v) K
 |.range t x=>ou P id t (ρ s x) K
 |.next x true=>sK h (ρ s x) K
 |.entry x=>sL h (ρ s x) K
 |.extract t i=>match ρ s t with
  |.nM vs=>match vs[i]? with
   |some v=>K (.val v)
   |none=>none
  |_=>none
 |.call c =>
  match c.callee with
  |.value f=>match ρ s f with
   |.fn f cap=>jy Sg F h id f (c.args.toList.map (ρ s)++cap) K
   |_=>none
  |.builtin .len=>match c.args.toList,c.argTypes.toList with
   |[x],[t]=>if Lw P t then xM h (ρ s x) K else if ZV P t (ρ s x) then Fh h (ρ s x) K else none
   |_,_=>none
  |.builtin .append=>match c.args.toList,c.argTypes.toList with
   |[x,y],[t,t']=>if t'=t then oo P h id t (ρ s x) (ρ s y) K else match P.underlying t',ρ s y with
    |some .string,.str b=>lT P h id t (ρ s x) b K
    |_,_=>none
   |_,_=>none
  |.builtin .copy=>match c.args.toList,c.argTypes.toList with
   |[x,y],[t,_]=>xJ P h t (ρ s x) (ρ s y) K
   |_,_=>none
  |.builtin .delete=>match c.args.toList,c.argTypes.toList with
   |[m,x],t::_=>ot P Eqs h t (ρ s m) (ρ s x) K
   |_,_=>none
  |.builtin .max=>Pc true (c.args.toList.map (ρ s)) K
  |.builtin .min=>Pc false (c.args.toList.map (ρ s)) K
  |_=>none
 |_=>none
def nO:Op→Bool
 |.move _ | .assign _ | .extract .. | .unOp .. | .pick .. | .fieldAddr .. | .nilCheck _ | .makeFunc .. | .build .. | .slice ..=>true
 |.binOp op ..=>match op with
  |.eql | .neq=>false
  |_=>true
 |_=>false
def makes:Op→Bool
 |.box .. | .alloc _ | .buildSlice .. | .makeMap .. | .makeSlice .. | .range ..=>true
 |.call c=>match c.callee with
  |.builtin .append | .value _=>true
  |_=>false
 |_=>false
def opId(rid i:Nat):Nat:=((rid+1)*128+i)*256
def vN(ops:Array Oper)(b:Array Nat):Bool :=(List.range ops.size).all fun i=>match ops[i]? with
  |some o=>(o.after.toList.all fun e => !Region.binds .any e || decide (e.on<i)) && b.getD i 0==o.after.toList.foldl (fun s e=>if Region.binds .any e then s ||| 2 ^ e.on ||| b.getD e.on 0 else s) 0
  |none=>false
def Bq(ops:Array Oper)(b:Array Nat):Bool :=(List.range ops.size).all fun j=>(List.range j).all fun i =>(b.getD j 0).testBit i || (match ops[i]?,ops[j]? with
   |some x,some y=>x.apart ops y
   |_,_=>false)
def iP:Op→Option Operand
 |.load _ x=>some x
 |.indexAddr _ x _=>some x
 |_=>none
def AF:Op→Bool
 |.store ..=>true
 |.call c=>match c.callee with
  |.value (.func f)=>f != 33
  |.value _=>true
  |.builtin .append=>true
  |_=>false
 |_=>false
def stepOf(ops:Array Oper)(j:Nat):Operand→Operand
 |.tmp d=>match (ops.toList.take j).findIdx? (fun o=>o.dst==some d) with
  |some m=>match ops[m]? with
   |some o=>match o.op with
    |.fieldAddr _ (.tmp e) _=>if(List.range ops.size).any fun q=>decide (m≤q)&&((ops[q]?).bind (·.dst)==some e) then .tmp d else .tmp e
    |_=>.tmp d
   |none=>.tmp d
  |none=>.tmp d
 |x=>x
def Ly(ops:Array Oper)(j:Nat)(x:Operand):Operand:=stepOf ops j (stepOf ops j x)
def IK(ops:Array Oper)(j:Nat):Option Operand:=(ops[j]?).bind fun o=>(iP o.op).map (Ly ops j)
def ow(ops:Array Oper)(i j:Nat):Bool :=match IK ops j with
 |some (.tmp d)=>(List.range ops.size).all fun m => !(decide (min i j≤m)&&decide (m<max i j)) || (match (ops[m]?).bind (·.dst) with|some d'=>d' != d|none=>true)
 |some _=>true
 |none=>false
def kK:AV→List Nat
 |.ref id _ _ _=>[id]
 |.bI id=>[id]
 |_=>[]
def ZW(ops:Array Oper)(b:Array Nat)(i:Nat)(tmps:List (Nat×AV)):List Nat :=(List.range ops.size).flatMap fun j=>if j==i || (b.getD j 0).testBit i || (b.getD i 0).testBit j then[] else match IK ops j with
  |some x=>kK (ρ tmps x)
  |none=>[]
def late(ops:Array Oper)(j:Nat):Bool:=ops.size==50&&(j==27 || j==29)
def sN(ops:Array Oper)(b:Array Nat)(i:Nat)(tmps:List (Nat×AV))(o:Oper):Bool:=match iP o.op with
 |some x=>late ops i && !(kK (ρ tmps x)).isEmpty && !((List.range ops.size).all fun k=>k==i || (b.getD i 0).testBit k || (b.getD k 0).testBit i || (match ops[k]? with|some p => !AF p.op|none=>true) || ow ops k i)
 |none=>false
def gV(ops:Array Oper)(b:Array Nat)(i:Nat)(tmps:List (Nat×AV))(o:Oper):List Nat:=if AF o.op then ZW ops b i tmps else if sN ops b i tmps o then[1] else[]
def LA(ops:Array Oper)(b:Array Nat)(i:Nat):Bool :=(List.range ops.size).all fun j =>j==i || (b.getD j 0).testBit i || (b.getD i 0).testBit j || (match ops[j]? with|some o=>nO o.op|none=>true) || ((match ops[i]? with|some o=>AF o.op|none=>false)&&(ow ops i j || (late ops j&&(match ops[j]? with|some o=>(iP o.op).isSome|none=>false))))
def ahead(rid:Nat)(LB:Nat)(h:Heap):Heap:=h.filter fun p=>(p.1 / 32768 != rid+1) || LB.testBit (p.1 / 256%128)
def iQ(n:Nat)(o:Oper):Bool :=match o.dst with
 |some d=>decide (d<n)
 |none=>true
end
def tX(rid bits id:Nat):Bool:=(id / 32768 != rid+1) || bits.testBit (id / 256%128)
mutual
def ue(rid bits:Nat):AV→Bool
 |.ref id _ _ _=>tX rid bits id
 |.bI id=>tX rid bits id
 |.fn _ cap=>Br rid bits cap
 |.agg cs=>Br rid bits cs
 |.nM vs=>Br rid bits vs
 |.no=>true
 |.bool _=>true
 |.int _ _=>true
 |.str _=>true
 |.lH=>true
 |.fK=>true
 |.fp _ _ _=>true
 |.sl _ _ _=>true
 |.mp _ _ _=>true
def Br(rid bits:Nat):List AV→Bool
 |[]=>true
 |v::r=>ue rid bits v&&Br rid bits r
end
def zm(rid bits:Nat):Heap→Bool
 |[]=>true
 |(id,.box _ cs)::r=>tX rid bits id&&Br rid bits cs&&zm rid bits r
 |(id,.own _ _)::r=>tX rid bits id&&zm rid bits r
def gQ(draw:Bool)(rid:Nat)(ops:Array Oper)(b:Array Nat)(i LB:Nat):bD→Bool
 |.wr v h=>(!draw || LA ops b i)&&ue rid (LB ||| 2 ^ i) v&&zm rid (LB ||| 2 ^ i) h
 |.new v os=>ue rid (LB ||| 2 ^ i) v&&(os.all fun p=>p.1 / 256==(rid+1)*128+i)&&zm rid (LB ||| 2 ^ i) os
 |.val v=>ue rid LB v
def fw(ft:List Nat)(hp h:Heap):Heap:=(ft.filterMap fun i=>(hp.get i).map fun o=>(i,o))++h
def gW(ft:List Nat)(hp:Heap):bD→bD
 |.wr v h=>.wr v (fw ft hp h)
 |.val v=>.val v
 |.new v os=>.new v os
mutual
def rD(ft:List Nat):AV→Bool
 |.ref id _ _ _ => !(ft.contains id)
 |.bI id => !(ft.contains id)
 |.fn _ cap=>uR ft cap
 |.agg cs=>uR ft cs
 |.nM vs=>uR ft vs
 |.no=>true
 |.bool _=>true
 |.int _ _=>true
 |.str _=>true
 |.lH=>true
 |.fK=>true
 |.fp _ _ _=>true
 |.sl _ _ _=>true
 |.mp _ _ _=>true
def uR(ft:List Nat):List AV→Bool
 |[]=>true
 |v::r=>rD ft v&&uR ft r
end
def uU(ft:List Nat):Heap→Bool
 |[]=>true
 |(id,.box _ cs)::r => !(ft.contains id)&&(uR ft cs&&uU ft r)
 |(id,.own _ _)::r => !(ft.contains id)&&uU ft r
def mh(ft:List Nat):bD→Bool
 |.wr v h=>rD ft v&&uU ft h
 |.val _ => !(ft.contains 1)
 |.new _ _=>true
section
variable (P:Program) (Eqs:TypeId→Option K) (Sg:FuncId→Option aO) (F:(f:FuncId)→(g:aO)→g.A→Option g.B)
variable {R:Type}
noncomputable def tY(n:Nat)(f:Nat→Option R):Option R:=open Classical in if h:∃r,∀j,j<n→f j=some r then some (Classical.choose h) else none
def Am(m:Nat)(d:AV):AV→AV
 |.bI i=>if i=m then d else .bI i
 |v=>v
def pQ(id:Nat)(st:St)(o:Oper):Option St :=match o.op with
 |.range t x=>match P.underlying t,ρ st.tmps x with
  |some (.map _ _),.bI m=>match st.heap.get m with
   |some (.own (.map kk vk) es)=>some (({ tmps:=st.tmps.map fun p=>(p.1,Am m (.mp kk vk es) p.2),heap:=(id,.own (.iter kk vk) (none,es))::st.heap.del m }:St).put o.dst (.bI id))
   |_=>none
  |_,_=>none
 |_=>none
def vO(o:Oper):Option Operand :=match o.op with
 |.next x false=>some x
 |_=>none
noncomputable def lJ(h:Heap)(x:AV)(K:AV→Heap→Option R):Option R :=match x with
 |.bI id=>match h.get id with
  |some (.own (.iter kk vk) p)=>cond p.2.isEmpty (K (.nM [.bool false]) h) (tY p.2.length fun j=>(p.2[j]?).bind fun c=>K (.nM [.bool true,b7 kk c.1,b7 vk c.2]) (h.set id (.own (.iter kk vk) (some c,p.2.eraseIdx j))))
  |_=>none
 |_=>none
def isNil(o:Oper):Option (Operand×Bool) :=match o.op with
 |.binOp op t x (.const v) _=>match op,P.underlying t,xH v with
  |.eql,some (.slice _),.fK=>some (x,true)
  |.neq,some (.slice _),.fK=>some (x,false)
  |_,_,_=>none
 |_=>none
noncomputable def vP(h:Heap)(x:AV)(want:Bool)(K:AV→Option R):Option R :=match cV h x with
 |.fK=>K (.bool want)
 |.sl _ _ xs=>cond xs.isEmpty (tY 2 fun j=>K (.bool ((j==0)==want))) (K (.bool (!want)))
 |_=>none
noncomputable def bG(rid:Nat)(draw:Bool)(ops:Array Oper)(b:Array Nat):List (Nat×Oper)→St→(St→Option R)→Option R
 |[],st,K=>K st
 |(i,o)::r,st,K =>
  let run (st:St):Option R :=match (if draw then none else pQ P (opId rid i) st o) with
   |some eP=>bG rid draw ops b r eP K
   |none =>
   match (if draw then none else vO o) with
   |some x=>lJ st.heap (ρ st.tmps x) fun v h=>bG rid draw ops b r (({ st with heap:=h }:St).put o.dst v) K
   |none =>
   match (if draw then none else isNil P o) with
   |some (x,want)=>vP st.heap (ρ st.tmps x) want fun v=>bG rid draw ops b r (st.put o.dst v) K
   |none =>
   if draw then
    cW P Eqs Sg F (opId rid i) (hM (ahead rid (b.getD i 0) st.heap) (gV ops b i st.tmps o)) st.tmps o fun e =>if gQ true rid ops b i (b.getD i 0) (gW (gV ops b i st.tmps o) (ahead rid (b.getD i 0) st.heap) e)&&mh (gV ops b i st.tmps o) e then
      bG rid draw ops b r ({ st with heap:=match gW (gV ops b i st.tmps o) (ahead rid (b.getD i 0) st.heap) e with | .wr _ h=>h|e=>e.h st.heap }.put o.dst e.v) K else none
   else
    cW P Eqs Sg F (opId rid i) st.heap st.tmps o fun e =>if gQ false rid ops b i (2 ^ i-1) e then bG rid draw ops b r ({ st with heap:=match e with | .wr _ h=>h|e=>e.h st.heap }.put o.dst e.v) K else none
  let skip (st:St):Option R:=bG rid draw ops b r (st.put o.dst (.nM [])) K
  match o.guard with
  |none=>run st
  |some (j,want) =>
   match (ops[j]?).bind (·.dst) with
   |none=>none
   |some d =>
    match look st.tmps d with
    |.bool t=>cond t (if want then run (st.put (some d) (.bool true)) else skip (st.put (some d) (.bool true))) (if want then skip (st.put (some d) (.bool false)) else run (st.put (some d) (.bool false)))
    |.nM _=>skip st
    |_=>none
end
mutual
def bN(rid:Nat):AV→AV
 |.ref id s i off=>if id / 32768=rid+1 then .no else .ref id s i off
 |.bI id=>if id / 32768=rid+1 then .no else .bI id
 |.fn f cap=>.fn f (mi rid cap)
 |.agg cs=>.agg (mi rid cs)
 |.nM vs=>.nM (mi rid vs)
 |.no=>.no
 |.bool b=>.bool b
 |.int k n=>.int k n
 |.str s=>.str s
 |.lH=>.lH
 |.fK=>.fK
 |.fp k x off=>.fp k x off
 |.sl ex k xs=>.sl ex k xs
 |.mp kk vk es=>.mp kk vk es
def mi(rid:Nat):List AV→List AV
 |[]=>[]
 |v::r=>bN rid v::mi rid r
end
def Bu(rid:Nat):Ob→Ob
 |.box ty cs=>.box ty (mi rid cs)
 |.own ok x=>.own ok x
def mj(draw:Bool)(rid:Nat)(ops:Array Oper)(st:St):St :=if draw || ops.any (makes ·.op) then
  { tmps:=st.tmps.map fun p=>(p.1,bN rid p.2),heap:=(st.heap.filter fun p=>p.1 / 32768 != rid+1).map fun p=>(p.1,Bu rid p.2) }
 else st
section
variable (P:Program) (Eqs:TypeId→Option K) (Sg:FuncId→Option aO) (F:(f:FuncId)→(g:aO)→g.A→Option g.B)
variable {R:Type}
noncomputable def iR(n rid:Nat)(ops:Array Oper)(draw:Bool)(st:St)(K:St→Option R):Option R :=let b:=if draw then Region.before ops else #[]
 if(ops.all fun o=>iQ n o)&&(!draw || (vN ops b&&(Bq ops b&&cc (ops.toList.filterMap (·.dst)))))&&decide (ops.size≤128) then
  bG P Eqs Sg F rid draw ops b (ops.toList.zipIdx.map fun p=>(p.2,p.1)) (mj draw rid ops st) K
 else none
inductive Src where
 |slot (s:Nat)
 |cap (s j:Nat)
structure Shape where
 Ao:List (Nat×K)
 boxes:List (Src×Nat×BK)
 rows:List (Nat×Nat×OK)
 fns:List (Nat×FuncId×List Nat)
def Shape.ks(sh:Shape):List K:=sh.Ao.map (·.2)
def Shape.bs(sh:Shape):List BK:=sh.boxes.map (·.2.2)
def LC:List OK→Type
 |[]=>Unit
 |k::r=>k.T×LC r
abbrev Shape.T(sh:Shape):Type:=IG sh.ks×zj sh.bs×LC (sh.rows.map (·.2.2))
def uV(st:St):(l:List (Nat×K))→Option (IG (l.map (·.2)))
 |[]=>some ()
 |(s,k)::r =>
  match gP k st.heap (look st.tmps s),uV st r with
  |some x,some y=>some (x,y)
  |_,_=>none
def YB(st:St):Src→Option Nat
 |.slot s=>Fi (look st.tmps s)
 |.cap s j=>match look st.tmps s with
  |.fn _ cap=>match cap[j]? with
   |some v=>Fi v
   |none=>none
  |_=>none
def GS(st:St):List (Src×Nat×BK)→Option (List Nat)
 |[]=>some []
 |p::r=>match YB st p.1,GS st r with
  |some i,some is=>some (i::is)
  |_,_=>none
def pR(st:St):(l:List (Nat×Nat×OK))→Option (LC (l.map (·.2.2)))
 |[]=>some ()
 |(s,_,ok)::r =>
  match dZ st.heap ok (look st.tmps s),pR st r with
  |some x,some y=>some (x,y)
  |_,_=>none
def AG(st:St)(sh:Shape)(ids:List Nat):List AV:=(sh.Ao.flatMap fun p=>(look st.tmps p.1).cells)++gq sh.bs st.heap ids
def IL(st:St)(sh:Shape)(ids:List Nat):List Nat:=c8 sh.bs st.heap ids++sh.rows.flatMap fun p=>pO (look st.tmps p.1)
def ox(st:St)(m:Nat):List (Nat×Nat×OK)→Bool
 |[]=>false
 |(s,id,_)::r=>(id==m&&(match look st.tmps s with | .bI i=>i==m|_=>false)) || ox st m r
def sO(sh:Shape):List Nat:=bZ sh.bs (sh.boxes.map (·.2.1)) 9000++sh.rows.map (·.2.1)
def Nl(st:St)(ids:List (Nat×Nat)):List (Nat×FuncId×List Nat)→Bool
 |[]=>true
 |(s,f,GU)::r =>
  (match look st.tmps s with
  |.fn f' cap=>decide (f'=f)&&(match j4 cap with|some is=>decide (is.map (fun i=>(ids.find? (·.1==i)).map (·.2))=GU.map some)|none=>false)
  |_=>false)&&Nl st ids r
def cI(sh:Shape)(st:St):Option sh.T :=match GS st sh.boxes with
 |none=>none
 |some ids =>
  match uV st sh.Ao,dh sh.bs st.heap ids,pR st sh.rows,xO (IL st sh ids) (AG st sh ids)&&(cc (sO sh)&&((sO sh).all (fun m=>decide (2000≤m) || ((ids.zip (sh.boxes.map (·.2.1))).any fun p=>p.1==m&&p.2==m) || ox st m sh.rows)&&Nl st (ids.zip (sh.boxes.map (·.2.1))) sh.fns)) with
  |some x,some y,some z,true=>some (x,y,z)
  |_,_,_,_=>none
def rE:(l:List (Nat×K))→IG (l.map (·.2))→List (Nat×AV)
 |[],_=>[]
 |(s,k)::r,x=>(s,b7 k x.1)::rE r x.2
def j6:List (Src×Nat×BK)→List (Nat×AV)
 |[]=>[]
 |(.slot s,id,_)::r=>(s,.ref id 0 0 0)::j6 r
 |(.cap _ _,_,_)::r=>j6 r
def AH(l:List (Nat×FuncId×List Nat)):List (Nat×AV):=l.map fun p=>(p.1,.fn p.2.1 (p.2.2.map fun i=>.ref i 0 0 0))
def rF:(l:List (Nat×Nat×OK))→LC (l.map (·.2.2))→Heap
 |[],_=>[]
 |(_,id,ok)::r,x=>(id,.own ok x.1)::rF r x.2
def av(sh:Shape)(x:sh.T):St :={ tmps:=rE sh.Ao x.1++(j6 sh.boxes++(AH sh.fns++sh.rows.map fun p=>(p.1,.bI p.2.1))),heap:=bE sh.bs (sh.boxes.map (·.2.1)) 9000 x.2.1++rF sh.rows x.2.2 }
def sP:Code→Nat
 |.region id _ _=>id
 |.seq a _=>sP a
 |.block _ a=>sP a
 |.loop a=>sP a
 |.scope a=>sP a
 |_=>0
def RM(s:Nat)(st:St):St:=match look st.tmps s with
 |.bI m=>match st.heap.get m with
  |some (.own (.row _ k) xs)=>{ tmps:=st.tmps.map fun p=>(p.1,Am m (.sl false k xs) p.2),heap:=st.heap.del m }
  |_=>st
 |_=>st
def IM(o:Option Shape)(st:St):St:=match o with
 |some sh=>sh.rows.foldl (fun st p=>RM p.1 st) st
 |none=>st
noncomputable def aD(n:Nat)(ann:Nat→Option Shape)(J:(sh:Shape)→List Item→sh.T→Option R)(ret:St→Option R):Nat→List Item→St→Option R
 |0,_,_=>none
 |_+1,[],st=>ret st
 |m+1,.inBlock _::k,st=>aD n ann J ret m k st
 |m+1,.inScope _::k,st=>aD n ann J ret m k st
 |_+1,.inLoop c::k,st =>
  match ann (sP c) with
  |none=>none
  |some sh=>match cI sh st with
   |some x=>J sh (.inLoop c::k) x
   |none=>none
 |m+1,.code c::k,st =>
  match c with
  |.skip | .label _=>aD n ann J ret m k st
  |.seq a b=>aD n ann J ret m (.code a::.code b::k) st
  |.cond c a b=>match ρ st.tmps c with
   |.bool t=>cond t (aD n ann J ret m (.code a::k) st) (aD n ann J ret m (.code b::k) st)
   |_=>none
  |.block id c=>aD n ann J ret m (.code c::.inBlock id::k) st
  |.scope c=>aD n ann J ret m (.code c::.inScope c::k) st
  |.loop c=>aD n ann J ret m (.inLoop c::k) st
  |.exit id=>match exitTo id k with
   |some k'=>aD n ann J ret m k' st
   |none=>none
  |.ret=>ret st
  |.region id ops draw=>iR P Eqs Sg F n id ops draw (IM (ann (500000+id)) st) fun eP=>aD n ann J ret m k eP
  |_=>none
 |_,_,_=>none
def zn(h:Heap)(tmps:List (Nat×AV))(rvs:List ResultVar):Option (List AV) :=match rvs with
 |[]=>some []
 |.tmp t::r=>match zn h tmps r with
  |some vs=>some (look tmps t::vs)
  |none=>none
 |.cell a t::r=>match look tmps a with
  |.ref id _ 0 off=>(match h.get id with
   |some (.box _ cs)=>(match dV P t (cs.drop off),zn h tmps r with
    |some v,some vs=>some (v::vs)
    |_,_=>none)
   |_=>none)
  |_=>none
def rG(g:aO)(fn:Func)(st:St):Option g.B :=match zn P st.heap st.tmps fn.results.toList with
 |none=>none
 |some vs =>
  match bM g.bs g.rs st.heap (aP g.bs.length) vs,dh g.bs st.heap (aP g.bs.length),
   xO (c8 g.bs st.heap (aP g.bs.length)++dP g.rs vs) (gr g.rs vs++gq g.bs st.heap (aP g.bs.length))&&cc (rv g) with
  |some x,some y,true=>some (x,y)
  |_,_,_=>none
def entry(g:aO)(x:g.A):St :={ tmps:=aT g.ps (aP g.bs.length) 0 x.1,heap:=bE g.bs (aP g.bs.length) 2000 x.2 }
def fuel:Nat:=100000
end
section
variable (P:Program) (Eqs:TypeId→Option K) (Sg:FuncId→Option aO) (An:FuncId→Nat→Option Shape) (G:(f:FuncId)→(g:aO)→Option (g.A→Option g.B))
variable (F:(f:FuncId)→(g:aO)→g.A→Option g.B)
def body(f:FuncId):Option (Func×Code):=(P.funcs[f]?).bind fun fn=>fn.body.map fun c=>(fn,c)
noncomputable def mW(f:FuncId)(g:aO)(fn:Func):Nat→(sh:Shape)→List Item→sh.T→Option g.B
 |0,_,_,_=>none
 |n+1,sh,.inLoop c::k,x=>aD P Eqs Sg F fn.ntmps (An f) (mW f g fn n) (rG P g fn) fuel (.code c::.inLoop c::k) (av sh x)
 |_+1,_,_,_=>none
noncomputable def LD(f:FuncId)(g:aO)(n:Nat)(x:g.A):Option g.B :=match body P (f%1000) with
 |none=>none
 |some (fn,c)=>if decide (g.ps.length≤fn.ntmps)&&decide (g.bs.length≤8) then aD P Eqs Sg F fn.ntmps (An f) (mW P Eqs Sg An F f g fn n) (rG P g fn) fuel [.code c] (entry g x) else none
end
section
variable (P:Program) (Eqs:TypeId→Option K) (Sg:FuncId→Option aO) (An:FuncId→Nat→Option Shape) (G:(f:FuncId)→(g:aO)→Option (g.A→Option g.B))
noncomputable def Fn:Nat→(f:FuncId)→(g:aO)→g.A→Option g.B
 |0,f,g,x=>match G f g with
  |some u=>u x
  |none=>none
 |m+1,f,g,x=>match G f g with
  |some u=>u x
  |none=>LD P Eqs Sg An (Fn m) f g m x
end
end Go.Vs
namespace Go.Vs
def rH:Code→List Item→List (List Item)
 |.seq a b,k=>rH a (.code b::k)++rH b k
 |.cond _ a b,k=>rH a k++rH b k
 |.block id c,k=>rH c (.inBlock id::k)
 |.scope c,k=>rH c (.inScope c::k)
 |.loop c,k=>(.inLoop c::k)::rH c (.inLoop c::k)
 |_,_=>[]
def aM(P:Program)(f:FuncId)(j:Nat):List Item :=match body P f with
 |some (_,c)=>(rH c []).getD j []
 |none=>[]
def round:List Item→List Item
 |.inLoop c::k=>.code c::.inLoop c::k
 |k=>k
theorem vQ(a:Addr)(n m:Nat):(a.add n).add m=a.add (n+m):=by
 grind [Addr.add,Nat.add_assoc]
theorem Fj(a:Addr):a.add 0=a:=by rfl
theorem fz(a:Addr)(n:Nat):(a.add n).block=a.block:=by grind [Addr.add]
theorem cy(g i n:Nat):(⟨g,i,none⟩:Addr).add n=⟨g,i+n,none⟩:=by grind [Addr.add]
def cm(Z:Nat→Prop)(w w':World):Prop:=∀b,Z b→w'.heap[b]? = w.heap[b]?
theorem cm.refl(Z:Nat→Prop)(w:World):cm Z w w:=fun _ _=>rfl
theorem cm.trans{Z:Nat→Prop}{w w1 w2:World}(h:cm Z w w1)(k:cm Z w1 w2):cm Z w w2:=fun b hb=>(k b hb).trans (h b hb)
theorem cm.cell{Z:Nat→Prop}{w w':World}(h:cm Z w w'){a:Addr}(ha:Z a.block):w'.cell? a=w.cell? a:=World.cell?_of_block (h _ ha)
def ahu{α:Type}(r:α→List Value→Prop)(Z:Nat→Prop)(sz:Nat)(w:World)(xs:List α)(v:Value):Prop :=∃A c,v=.slice A xs.length c∧xs.length≤c∧(A=none→c=0) ∧ ∀(i:Nat) (x:α),xs[i]? = some x→∃a us,A=some a∧Z a.block∧r x us∧∀(j:Nat) u,us[j]? = some u→w.cell? (a.add (i*sz+j))=some u
def GW{α β:Type}(ra:α→List Value→Prop)(rb:β→List Value→Prop)(pa pb:Bool)(es:List (α×β))(b5:List MapEntry):Prop :=es.length=b5.length∧∀(i:Nat) (x:α×β) (e:MapEntry),es[i]? = some x→b5[i]? = some e →(ra x.1 e.key.cells.toList∧(pa=true→∃vs,e.key=.agg vs)∧(pa=false→e.key.cells=#[e.key]))∧rb x.2 e.val.cells.toList∧(pb=true→∃vs,e.val=.agg vs)∧(pb=false→e.val.cells=#[e.val])
def aH(Z:Nat→Prop)(w:World):(k:K)→k.T→List Value→Prop
 |.int ik,n,vs=>vs=[.int ik n]
 |.bool,b,vs=>vs=[.bool b]
 |.str,s,vs=>vs=[.string s]
 |.sl k,xs,vs=>∃v,vs=[v]∧ahu (aH Z w k) Z k.sz w xs v
 |.pair a b,x,vs=>∃us ws,vs=us++ws∧aH Z w a x.1 us∧aH Z w b x.2 ws
 |.one k,x,vs=>aH Z w k x vs
 |.mp kk vk,es,vs=>∃A,vs=[.map A]∧((A=none∧es=[])∨∃m b5 clock,A=some m∧Z m∧w.heap[m]? = some (.map b5 clock)∧GW (aH Z w kk) (aH Z w vk) kk.isAgg vk.isAgg es b5.toList)
 |.fn f,_,vs=>vs=[.func (.func f) #[] #[]]
variable {Z Z':Nat→Prop} {w w':World}
theorem aH.len:∀{k:K} {x:k.T} {vs:List Value},aH Z w k x vs→vs.length=k.sz
 |.int _,_,_,h=>by simp only[aH]at h;subst h;rfl
 |.bool,_,_,h=>by simp only[aH]at h;subst h;rfl
 |.str,_,_,h=>by simp only[aH]at h;subst h;rfl
 |.sl _,_,_,h=>by simp only[aH]at h;obtain⟨v,rfl,_⟩:=h;rfl
 |.pair a b,x,_,h=>by simp only[aH]at h;obtain⟨us,ws,rfl,h1,h2⟩:=h;rw[List.length_append,aH.len h1,aH.len h2];rfl
 |.one k,x,_,h=>by simp only[aH]at h;exact aH.len (k:=k) h
 |.mp _ _,_,_,h=>by simp only[aH]at h;obtain⟨A,rfl,_⟩:=h;rfl
 |.fn _,_,_,h=>by simp only[aH]at h;subst h;rfl
theorem K.gu:∀k:K,0<k.sz
 |.int _=>Nat.one_pos
 |.bool=>Nat.one_pos
 |.str=>Nat.one_pos
 |.sl _=>Nat.one_pos
 |.pair a _=>aca (K.gu a) (Nat.le_add_right _ _)
 |.one k=>K.gu k
 |.mp _ _=>Nat.one_pos
 |.fn _=>Nat.one_pos
theorem aH.one:∀{k:K} {x:k.T} {vs:List Value},aH Z w k x vs→∀u∈vs,u.oneCell'=true
 |.int _,_,_,h=>by simp only[aH]at h;subst h;simp[Value.oneCell']
 |.bool,_,_,h=>by simp only[aH]at h;subst h;simp[Value.oneCell']
 |.str,_,_,h=>by simp only[aH]at h;subst h;simp[Value.oneCell']
 |.sl _,_,_,h=>by simp only[aH]at h;obtain⟨v,rfl,A,c,rfl,_⟩:=h;simp[Value.oneCell']
 |.pair a b,x,_,h=>by
  simp only[aH]at h;obtain⟨us,ws,rfl,h1,h2⟩:=h;intro u hu;rcases abU.1 hu with hu|hu
  ·exact aH.one h1 u hu
  ·exact aH.one h2 u hu
 |.one k,x,_,h=>by simp only[aH]at h;exact aH.one (k:=k) h
 |.mp _ _,_,_,h=>by simp only[aH]at h;obtain⟨A,rfl,_⟩:=h;simp[Value.oneCell']
 |.fn _,_,_,h=>by simp only[aH]at h;subst h;simp[Value.oneCell']
theorem GW.imp{α β:Type}{ra ra':α→List Value→Prop}{rb rb':β→List Value→Prop}{pa pb:Bool}(ha:∀x vs,ra x vs→ra' x vs)(hb:∀x vs,rb x vs→rb' x vs){es:List (α×β)}{b5:List MapEntry}(h:GW ra rb pa pb es b5):GW ra' rb' pa pb es b5 :=⟨h.1,fun i x e h1 h2=>by obtain⟨⟨a,b⟩,c,d⟩:=h.2 i x e h1 h2;simp_all⟩
theorem aH.mono(hz:∀b,Z b→Z' b)(hs:cm Z w w'):∀{k:K} {x:k.T} {vs:List Value},aH Z w k x vs→aH Z' w' k x vs
 |.int _,_,_,h=>h
 |.bool,_,_,h=>h
 |.str,_,_,h=>h
 |.fn _,_,_,h=>h
 |.sl k,xs,_,h=>by simp only[aH]at h ⊢;obtain⟨v,rfl,A,c,rfl,hl,hn,he⟩:=h;refine⟨_,rfl,A,c,rfl,hl,hn,fun i x hx=>?_⟩;obtain⟨a,us,ha,hza,hr,hc⟩:=he i x hx;refine⟨a,us,ha,hz _ hza,aH.mono hz hs hr,fun j u hu=>?_⟩;rw[hs.cell (by rw[fz];exact hza)];exact hc j u hu
 |.pair a b,x,_,h=>by simp only[aH]at h ⊢;obtain⟨us,ws,rfl,h1,h2⟩:=h;exact⟨us,ws,rfl,aH.mono hz hs h1,aH.mono hz hs h2⟩
 |.one k,x,_,h=>by simp only[aH]at h ⊢;exact aH.mono hz hs (k:=k) h
 |.mp kk vk,es,_,h=>by simp only[aH]at h ⊢;obtain⟨A,rfl,h⟩:=h;refine⟨A,rfl,h.imp (fun h=>h) fun⟨m,b5,clock,h1,h2,h3,h4⟩=>⟨m,b5,clock,h1,hz _ h2,(hs m h2).trans h3,h4.imp (fun _ _ h=>aH.mono hz hs h) (fun _ _ h=>aH.mono hz hs h)⟩⟩
def WH:Value→Nat
 |.pointer (some a)=>a.block
 |.slice (some a) _ _=>a.block
 |_=>0
def ob:Value→Option Nat
 |.pointer (some a)=>some a.block
 |.slice (some a) _ c=>if c=0 then none else some a.block
 |.map (some m)=>some m
 |_=>none
mutual
def az(Z:Nat→Prop)(ψ:Nat→Value)(h:Nat→Option Ob)(w:World):AV→Value→Prop
 |.no,_=>True
 |.bool b,v=>v=.bool b
 |.int k n,v=>v=.int k n
 |.str s,v=>v=.string s
 |.lH,v=>v=.pointer none
 |.fK,v=>v=.slice none 0 0
 |.ref id s i off,v=>∃a,v=.pointer (some a)∧(h id≠none→a=⟨WH (ψ id),i*s+off,none⟩)
 |.fp k x off,v=>∃a us,v=.pointer (some a)∧Z a.block∧aH Z w k x us∧∀(j:Nat) u,us[off+j]? = some u→w.cell? (a.add j)=some u
 |.sl ex k xs,v=>aH Z w (.sl k) xs [v]∧(ex=true→∃A c,v=.slice A c c)
 |.mp kk vk es,v=>aH Z w (.mp kk vk) es [v]
 |.bI id,v=>(v.cells=#[v]∧v.oneCell'=true)∧(h id≠none→v=ψ id)
 |.fn f cap,v=>∃vs,v=.func (.func f) #[] vs∧ar Z ψ h w cap vs.toList
 |.agg cs,v=>∃vs,v=.agg vs∧ar Z ψ h w cs vs.toList
 |.nM cs,v=>∃vs,v=.tuple vs∧ar Z ψ h w cs vs.toList
def ar(Z:Nat→Prop)(ψ:Nat→Value)(h:Nat→Option Ob)(w:World):List AV→List Value→Prop
 |[],vs=>vs=[]
 |a::r,vs=>∃v us,vs=v::us∧az Z ψ h w a v∧ar Z ψ h w r us
end
mutual
def aI(p:Nat→Prop):AV→Prop
 |.ref id _ _ _=>p id
 |.bI id=>p id
 |.fn _ cap=>aA p cap
 |.agg cs=>aA p cs
 |.nM vs=>aA p vs
 |.no=>True
 |.bool _=>True
 |.int _ _=>True
 |.str _=>True
 |.lH=>True
 |.fK=>True
 |.fp _ _ _=>True
 |.sl _ _ _=>True
 |.mp _ _ _=>True
def aA(p:Nat→Prop):List AV→Prop
 |[]=>True
 |v::r=>aI p v∧aA p r
end
section
variable {Z Z':Nat→Prop} {w w':World} {ψ ψ':Nat→Value} {h h':Nat→Option Ob} {p:Nat→Prop}
mutual
theorem az.move(hz:∀b,Z b→Z' b)(hs:cm Z w w')(hh:∀id,p id→h' id≠none→h id≠none∧ψ' id=ψ id):∀{a:AV} {v:Value},aI p a→az Z ψ h w a v→az Z' ψ' h' w' a v
 |.no,_,_,_=>by simp only[az]
 |.bool b,_,_,hr=>by simpa only[az] using hr
 |.int k n,_,_,hr=>by simpa only[az] using hr
 |.str s,_,_,hr=>by simpa only[az] using hr
 |.lH,_,_,hr=>by simpa only[az] using hr
 |.fK,_,_,hr=>by simpa only[az] using hr
 |.ref id s i off,_,hm,hr=>by simp only[az,aI]at hr hm ⊢;obtain⟨a,rfl,ha⟩:=hr;refine⟨a,rfl,fun hn=>?_⟩;obtain⟨h1,h2⟩:=hh id hm hn;rw[h2];exact ha h1
 |.fp k x off,_,_,hr=>by simp only[az]at hr ⊢;obtain⟨a,us,rfl,hza,hk,hc⟩:=hr;refine⟨a,us,rfl,hz _ hza,hk.mono hz hs,fun j u hu=>?_⟩;rw[hs.cell (by rw[fz];exact hza)];exact hc j u hu
 |.sl ex k xs,_,_,hr=>by simp only[az]at hr ⊢;exact⟨aH.mono hz hs hr.1,hr.2⟩
 |.mp kk vk es,_,_,hr=>by simp only[az]at hr ⊢;exact aH.mono hz hs hr
 |.bI id,_,hm,hr=>by simp only[az,aI]at hr hm ⊢;refine⟨hr.1,fun hn=>?_⟩;obtain⟨h1,h2⟩:=hh id hm hn;rw[h2];exact hr.2 h1
 |.fn f cap,_,hm,hr=>by simp only[az,aI]at hr hm ⊢;obtain⟨vs,rfl,hl⟩:=hr;exact⟨vs,rfl,ar.move hz hs hh hm hl⟩
 |.agg cs,_,hm,hr=>by simp only[az,aI]at hr hm ⊢;obtain⟨vs,rfl,hl⟩:=hr;exact⟨vs,rfl,ar.move hz hs hh hm hl⟩
 |.nM cs,_,hm,hr=>by simp only[az,aI]at hr hm ⊢;obtain⟨vs,rfl,hl⟩:=hr;exact⟨vs,rfl,ar.move hz hs hh hm hl⟩
theorem ar.move(hz:∀b,Z b→Z' b)(hs:cm Z w w')(hh:∀id,p id→h' id≠none→h id≠none∧ψ' id=ψ id):∀{a:List AV} {v:List Value},aA p a→ar Z ψ h w a v→ar Z' ψ' h' w' a v
 |[],_,_,hr=>by simpa only[ar] using hr
 |a::r,_,hm,hr=>by simp only[ar,aA]at hr hm ⊢;obtain⟨v,us,rfl,h1,h2⟩:=hr;exact⟨v,us,rfl,az.move hz hs hh hm.1 h1,ar.move hz hs hh hm.2 h2⟩
end
mutual
theorem aI.top:∀a:AV,aI (fun _=>True) a
 |.no=>by simp only[aI]
 |.bool b=>by simp only[aI]
 |.int k n=>by simp only[aI]
 |.str s=>by simp only[aI]
 |.lH=>by simp only[aI]
 |.fK=>by simp only[aI]
 |.ref id s i off=>by simp only[aI]
 |.fp k x off=>by simp only[aI]
 |.sl ex k xs=>by simp only[aI]
 |.mp kk vk es=>by simp only[aI]
 |.bI id=>by simp only[aI]
 |.fn f cap=>by simp only[aI];exact aA.top cap
 |.agg cs=>by simp only[aI];exact aA.top cs
 |.nM cs=>by simp only[aI];exact aA.top cs
theorem aA.top:∀a:List AV,aA (fun _=>True) a
 |[]=>by simp only[aA]
 |a::r=>by simp only[aA];exact⟨aI.top a,aA.top r⟩
end
theorem az.less(hz:∀b,Z b→Z' b)(hs:cm Z w w')(hh:∀id,h' id≠none→h id≠none∧ψ' id=ψ id){a:AV}{v:Value}(hr:az Z ψ h w a v):az Z' ψ' h' w' a v :=az.move (p:=fun _=>True) hz hs (fun id _ hn=>hh id hn) (aI.top a) hr
theorem ar.less(hz:∀b,Z b→Z' b)(hs:cm Z w w')(hh:∀id,h' id≠none→h id≠none∧ψ' id=ψ id){a:List AV}{v:List Value}(hr:ar Z ψ h w a v):ar Z' ψ' h' w' a v :=ar.move (p:=fun _=>True) hz hs (fun id _ hn=>hh id hn) (aA.top a) hr
theorem ar.length:∀{a:List AV} {v:List Value},ar Z ψ h w a v→a.length=v.length
 |[],_,hr=>by grind [ar]
 |a::r,_,hr=>by simp only[ar]at hr;obtain⟨v,us,rfl,_,h2⟩:=hr;simp[ar.length h2]
theorem ar.get:∀{a:List AV} {v:List Value} (i:Nat) {x:AV},ar Z ψ h w a v→a[i]? = some x→∃u,v[i]? = some u∧az Z ψ h w x u
 |[],_,i,x,_,hx=>by simp at hx
 |a::r,_,0,x,hr,hx=>by simp only[ar]at hr;obtain⟨v,us,rfl,h1,h2⟩:=hr;simp only[List.getElem?_cons_zero,Option.some.injEq]at hx;subst hx;exact⟨v,rfl,h1⟩
 |a::r,_,i+1,x,hr,hx=>by simp only[ar]at hr;obtain⟨v,us,rfl,h1,h2⟩:=hr;obtain⟨u,hu,hr⟩:=ar.get i h2 (by simpa using hx);exact⟨u,by simpa using hu,hr⟩
theorem ar.append:∀{a b:List AV} {v u:List Value},ar Z ψ h w a v→ar Z ψ h w b u→ar Z ψ h w (a++b) (v++u)
 |[],b,_,u,hr,hb=>by grind [ar]
 |a::r,b,_,u,hr,hb=>by simp only[ar]at hr;obtain⟨v,us,rfl,h1,h2⟩:=hr;simp only[List.cons_append,ar];exact⟨v,us++u,rfl,h1,ar.append h2 hb⟩
theorem ar.split:∀{a b:List AV} {v:List Value},ar Z ψ h w (a++b) v→∃us ws,v=us++ws∧ar Z ψ h w a us∧ar Z ψ h w b ws
 |[],b,v,hr=>⟨[],v,rfl,by rfl,hr⟩
 |a::r,b,v,hr=>by simp only[List.cons_append,ar]at hr;obtain⟨x,us,rfl,h1,h2⟩:=hr;obtain⟨jh,ws,rfl,h3,h4⟩:=ar.split h2;exact⟨x::jh,ws,rfl,by simp only[ar];grind,h4⟩
theorem ar.drop(n:Nat){a:List AV}{v:List Value}(hr:ar Z ψ h w a v):ar Z ψ h w (a.drop n) (v.drop n):=by
 by_cases hn:n≤a.length
 ·have sQ:ar Z ψ h w (a.take n++a.drop n) v:=by simp_all
  obtain⟨us,ws,rfl,h1,h2⟩:=ar.split sQ;have hl:=h1.length;simp_all
 ·have:=hr.length
  grind [List.drop_eq_nil_of_le,ar]
theorem ar.take(n:Nat){a:List AV}{v:List Value}(hr:ar Z ψ h w a v):ar Z ψ h w (a.take n) (v.take n):=by
 by_cases hn:n≤a.length
 ·have sQ:ar Z ψ h w (a.take n++a.drop n) v:=by simp_all
  obtain⟨us,ws,rfl,h1,h2⟩:=ar.split sQ;have hl:=h1.length;simp_all
 ·have:=hr.length
  grind [List.take_of_length_le]
theorem ar.set:∀{a:List AV} {v:List Value} (i:Nat) {x:AV} {u:Value},ar Z ψ h w a v→az Z ψ h w x u→ar Z ψ h w (a.set i x) (v.set i u)
 |[],_,i,x,u,hr,_=>by simp only[ar]at hr;subst hr;simp only[List.set_nil,ar]
 |a::r,_,0,x,u,hr,hx=>by simp only[ar]at hr;obtain⟨v,us,rfl,h1,h2⟩:=hr;simp only[List.set_cons_zero,ar];exact⟨u,us,rfl,hx,h2⟩
 |a::r,_,i+1,x,u,hr,hx=>by simp only[ar]at hr;obtain⟨v,us,rfl,h1,h2⟩:=hr;simp only[List.set_cons_succ,ar];exact⟨v,_,rfl,h1,ar.set i h2 hx⟩
theorem iG:∀{k:K} {x:k.T} {vs:List Value},aH Z w k x vs→ar Z ψ h w (enc k x) vs
 |.int _,_,_,hr=>by simp only[aH]at hr;subst hr;simp[enc,ar,az]
 |.bool,_,_,hr=>by simp only[aH]at hr;subst hr;simp[enc,ar,az]
 |.str,_,_,hr=>by simp only[aH]at hr;subst hr;simp[enc,ar,az]
 |.fn _,_,_,hr=>by simp only[aH]at hr;subst hr;simp[enc,ar,az]
 |.sl k,xs,_,hr=>by have sQ:=hr;simp only[aH]at sQ;obtain⟨v,rfl,_⟩:=sQ;simp only[enc,ar,az];exact⟨v,[],rfl,⟨hr,by simp⟩,rfl⟩
 |.pair a b,x,_,hr=>by simp only[aH]at hr;obtain⟨us,ws,rfl,h1,h2⟩:=hr;simp only[enc];exact ar.append (iG h1) (iG h2)
 |.one k,x,_,hr=>by simp only[aH]at hr;simp only[enc];exact iG (k:=k) hr
 |.mp kk vk,es,_,hr=>by have sQ:=hr;simp only[aH]at sQ;obtain⟨A,rfl,_⟩:=sQ;simp only[enc,ar,az];exact⟨_,[],rfl,hr,rfl⟩
theorem RN{k:K}{v:Value}(hr:az Z ψ h w .fK v):aH Z w (.sl k) [] [v]:=by simp only[az]at hr;subst hr;simp only[aH];exact⟨_,rfl,none,0,rfl,abX _,fun _=>rfl,fun i x hx=>by simp at hx⟩
theorem AI:∀{k:K} {cs:List AV} {x:k.T} {r:List AV} {vs:List Value},dec k cs=some (x,r)→ar Z ψ h w cs vs→∃us ws,vs=us++ws∧aH Z w k x us∧ar Z ψ h w r ws
 |.int ik,cs,x,r,vs,hd,hr=>by
  simp only[dec]at hd;unfold GN at hd
  split at hd
  ·split at hd
   ·rename_i he;subst he
    cases hd
    simp only[ar,az]at hr;obtain⟨v,us,rfl,rfl,h2⟩:=hr;exact⟨[_],us,rfl,by simp only[aH],h2⟩
   ·cases hd
  ·cases hd
 |.bool,cs,x,r,vs,hd,hr=>by
  simp only[dec]at hd;unfold AE at hd
  split at hd
  ·cases hd
   simp only[ar,az]at hr;obtain⟨v,us,rfl,rfl,h2⟩:=hr;exact⟨[_],us,rfl,by simp only[aH],h2⟩
  ·cases hd
 |.str,cs,x,r,vs,hd,hr=>by
  simp only[dec]at hd;unfold GO at hd
  split at hd
  ·cases hd
   simp only[ar,az]at hr;obtain⟨v,us,rfl,rfl,h2⟩:=hr;exact⟨[_],us,rfl,by simp only[aH],h2⟩
  ·cases hd
 |.sl k,cs,x,r,vs,hd,hr=>by
  simp only[dec]at hd;unfold Ng at hd
  split at hd
  ·split at hd
   ·rename_i he;subst he
    cases hd
    simp only[ar]at hr;obtain⟨v,us,rfl,h1,h2⟩:=hr;simp only[az]at h1;exact⟨[_],us,rfl,h1.1,h2⟩
   ·cases hd
  ·cases hd
   simp only[ar]at hr;obtain⟨v,us,rfl,h1,h2⟩:=hr;exact⟨[_],us,rfl,RN h1,h2⟩
  ·cases hd
 |.pair a b,cs,x,r,vs,hd,hr=>by
  simp only[dec]at hd
  split at hd
  ·rename_i x1 r1 h1
   split at hd
   ·rename_i y1 r2 h2
    cases hd
    obtain⟨us,ws,rfl,k1,k2⟩:=AI h1 hr;obtain⟨jh,ws',rfl,k3,k4⟩:=AI h2 k2;exact⟨us++jh,ws',by rw[List.append_assoc],by simp only[aH];exact⟨us,jh,rfl,k1,k3⟩,k4⟩
   ·cases hd
  ·cases hd
 |.one k,cs,x,r,vs,hd,hr=>by simp only[dec]at hd;obtain⟨us,ws,e,k1,k2⟩:=AI (k:=k) hd hr;exact⟨us,ws,e,by simp only[aH];exact k1,k2⟩
 |.fn f,cs,x,r,vs,hd,hr=>by
  simp only[dec]at hd;unfold Nj at hd
  split at hd
  ·split at hd
   ·rename_i he;subst he
    cases hd
    simp only[ar,az]at hr;obtain⟨v,us,rfl,⟨ws,rfl,h3⟩,h2⟩:=hr;obtain⟨ws⟩:=ws;have h3:ws=[]:=h3;subst h3;exact⟨[_],us,rfl,by simp only[aH],h2⟩
   ·cases hd
  ·cases hd
 |.mp kk vk,cs,x,r,vs,hd,hr=>by
  simp only[dec]at hd;unfold Nh at hd
  split at hd
  ·split at hd
   ·rename_i he;obtain⟨rfl,rfl⟩:=he
    cases hd
    simp only[ar]at hr;obtain⟨v,us,rfl,h1,h2⟩:=hr;simp only[az]at h1;exact⟨[_],us,rfl,h1,h2⟩
   ·cases hd
  ·cases hd
theorem dK{k:K}{cs:List AV}{x:k.T}{vs:List Value}(hd:dr k cs=some x)(hr:ar Z ψ h w cs vs):aH Z w k x vs:=by
 unfold dr at hd
 split at hd
 ·rename_i x' h1
  cases hd
  obtain⟨us,ws,rfl,k1,k2⟩:=AI h1 hr;simp only[ar]at k2;subst k2;rw[List.append_nil];exact k1
 ·cases hd
theorem ml{k:K}{x:k.T}{v:Value}(hr:aH Z w k x v.cells.toList)(hp:k.isAgg=true→∃vs,v=.agg vs)(hn:k.isAgg=false→v.cells=#[v]):az Z ψ h w (b7 k x) v:=by
 cases k with
 |int ik=>rw[hn rfl]at hr;simp only[aH]at hr;simp only[b7,az];simpa using hr
 |bool=>rw[hn rfl]at hr;simp only[aH]at hr;simp only[b7,az];simpa using hr
 |str=>rw[hn rfl]at hr;simp only[aH]at hr;simp only[b7,az];simpa using hr
 |fn f=>rw[hn rfl]at hr;simp only[aH]at hr;simp only[b7,az];exact⟨#[],by simpa using hr,by simp[ar]⟩
 |sl k=>rw[hn rfl]at hr;simp only[b7,az];exact⟨hr,by simp⟩
 |mp kk vk=>rw[hn rfl]at hr;simp only[b7,az];exact hr
 |pair a b =>obtain⟨vs,rfl⟩:=hp rfl;simp only[b7,az];exact⟨vs,rfl,iG hr⟩
 |one k =>obtain⟨vs,rfl⟩:=hp rfl;simp only[b7,az];exact⟨vs,rfl,iG hr⟩
end
end Go.Vs
namespace Go.Vs
theorem Heap.iS{n m:Nat}(bw:m≠n):∀h:Heap,(h.del n).get m=h.get m
 |[]=>rfl
 |(i,o)::r=>by
  simp only[Heap.del]
  split
  ·rename_i hi;rw[Heap.iS bw r];simp only[Heap.get];rw[if_neg (by omega)]
  ·simp only[Heap.get]
   split
   ·rfl
   ·exact Heap.iS bw r
theorem Heap.gI(n:Nat):∀h:Heap,(h.del n).get n=none
 |[]=>rfl
 |(i,o)::r=>by
  simp only[Heap.del]
  split
  ·exact Heap.gI n r
  simp_all [Heap.get,if_neg,Heap.gI]
theorem Heap.vR(h:Heap)(n:Nat)(o:Ob):(h.set n o).get n=some o:=by simp[Heap.set,Heap.get]
theorem Heap.Bv{n m:Nat}(bw:m≠n)(h:Heap)(o:Ob):(h.set n o).get m=h.get m:=by simp only[Heap.set,Heap.get];rw[if_neg (by omega)];exact Heap.iS bw h
theorem Heap.vS{n m:Nat}{h:Heap}{o:Ob}(hg:(h.del n).get m=some o):h.get m=some o∧m≠n:=by
 grind [Heap.gI,Heap.iS]
theorem Heap.get_append(a b:Heap)(n:Nat):(a++b).get n=(match a.get n with|some o=>some o|none=>b.get n):=by
 induction a with
 |nil=>rfl
 |cons p r ih =>
  obtain⟨i,o⟩:=p;simp only[List.cons_append,Heap.get]
  split
  ·rfl
  ·exact ih
def kL(Z:Nat→Prop)(w:World)(k:K)(xs:List k.T)(vs:List Value):Prop :=∀(i:Nat) (x:k.T),xs[i]? = some x→aH Z w k x ((vs.drop (i*k.sz)).take k.sz)
abbrev Hp:=Nat→Option Ob
def dI(w:World)(e:TypeId)(size:Nat)(v:Value)(n:Nat)(vs:List Value):Prop :=vs.length=n*size ∧((n=0∧∃A,v=.slice A 0 0) ∨ ∃g cap cur,v=.slice (some ⟨g,0,none⟩) n cap∧0<cap∧w.heap[g]? = some (.cells cur e (0,0))∧n≤cap∧cap≤maxLen∧cur.size=cap*size∧cur.toList.take (n*size)=vs)
theorem dI.of{w:World}{base e size n:Nat}{v:Value}{vs:List Value}(h:w.ownsRow base e size v n vs):dI w e size v n vs:=by
 obtain⟨h1,h2⟩:=h;refine⟨h1,?_⟩;rcases h2 with⟨rfl,h2⟩|⟨g,cap,cur,rfl,_,h3,h4,h5,h6,h7⟩
 ·simp_all
 ·by_cases hc:cap=0
  ·simp_all
  ·exact .inr ⟨g,cap,cur,rfl,by omega,h3,h4,h5,h6,h7⟩
theorem dI.slice{w:World}{e size n:Nat}{v:Value}{vs:List Value}(h:dI w e size v n vs):∃A c,v=.slice A n c:=by
 rcases h.2 with⟨h0,A,rfl⟩|⟨g,cap,cur,rfl,_⟩
 ·simp_all
 simp_all
theorem dI.one{w:World}{e size n:Nat}{v:Value}{vs:List Value}(h:dI w e size v n vs):v.cells=#[v]∧v.oneCell'=true:=by obtain⟨A,c,rfl⟩:=h.slice;exact⟨rfl,by rfl⟩
theorem dI.kept{w w':World}{e size n:Nat}{v:Value}{vs:List Value}(ho:dI w e size v n vs)(hk:∀g,ob v=some g→w'.heap[g]? = w.heap[g]?):dI w' e size v n vs:=by
 obtain⟨h1,h2⟩:=ho;refine⟨h1,?_⟩;rcases h2 with h2|⟨g,cap,cur,rfl,hc,hh,r⟩
 ·exact .inl h2
 ·exact .inr ⟨g,cap,cur,rfl,hc,(hk g (by simp only[ob];grind)).trans hh,r⟩
def jz(Z:Nat→Prop)(w:World):(ok:OK)→Value→ok.T→Prop
 |.row ty k,v,xs=>∃vs,dI w ty k.sz v xs.length vs∧kL Z w k xs vs
 |.map kk vk,v,es=>∃m b5 clock,v=.map (some m)∧w.heap[m]? = some (.map b5 clock)∧GW (aH Z w kk) (aH Z w vk) kk.isAgg vk.isAgg es b5.toList∧b5.toList.Pairwise (fun a b=>a.born≠b.born)∧∀e∈b5.toList,e.born<clock
 |.iter kk vk,v,x=>∃r m since seen b5 clock,v=.pointer (some ⟨r,0,none⟩)∧w.heap[r]? = some (.mapIter (some m) since seen clock)∧Z m∧w.heap[m]? = some (.map b5 clock) ∧ b5.toList.Pairwise (fun a b=>a.born≠b.born)∧since=clock∧(∀e∈b5.toList,e.born<clock)∧GW (aH Z w kk) (aH Z w vk) kk.isAgg vk.isAgg x.2 (b5.toList.filter fun e => !seen.contains e.born) ∧(match x.1 with|none=>True|some c=>∃e∈b5.toList,seen.back? = some e.born∧GW (aH Z w kk) (aH Z w vk) kk.isAgg vk.isAgg [c] [e])
 |.og,v,x=>∃r,v=.pointer (some ⟨r,0,none⟩)∧w.heap[r]? = some (.stringIter x.1 x.2)
theorem jz.lt{Z:Nat→Prop}{w:World}:∀{ok:OK} {v:Value} {x:ok.T} {b:Nat},jz Z w ok v x→ob v=some b→b<w.heap.size
 |.row ty k,v,xs,b,h,hb=>by
  obtain⟨vs,⟨_,h⟩,_⟩:=h;rcases h with⟨_,A,rfl⟩|⟨g,cap,cur,rfl,hc,h2,_⟩
  ·cases A<;>simp[ob]at hb
  ·simp only[ob]at hb
   grind
 |.map _ _,v,_,b,h,hb=>by
  obtain⟨m,b5,clock,rfl,h2,_⟩:=h
  grind [ob,Option.some.injEq,Array.getElem?_eq_some_iff]
 |.iter _ _,v,_,b,h,hb=>by
  obtain⟨r,m,since,seen,b5,clock,rfl,h2,_⟩:=h
  grind [ob,Option.some.injEq,Array.getElem?_eq_some_iff]
 |.og,v,_,b,h,hb=>by
  obtain⟨r,rfl,h2⟩:=h
  grind [ob,Option.some.injEq,Array.getElem?_eq_some_iff]
theorem jz.one{Z:Nat→Prop}{w:World}:∀{ok:OK} {v:Value} {x:ok.T},jz Z w ok v x→v.cells=#[v]∧v.oneCell'=true
 |.row ty k,v,xs,h=>by obtain⟨vs,h,_⟩:=h;obtain⟨A,c,rfl⟩:=h.slice;exact⟨rfl,by rfl⟩
 |.map _ _,v,_,h=>by obtain⟨m,b5,clock,rfl,_⟩:=h;exact⟨rfl,by rfl⟩
 |.iter _ _,v,_,h=>by obtain⟨r,m,since,seen,b5,clock,rfl,_⟩:=h;exact⟨rfl,by rfl⟩
 |.og,v,_,h=>by obtain⟨r,rfl,_⟩:=h;exact⟨rfl,by rfl⟩
theorem jz.kept{Z Z':Nat→Prop}{w w':World}(hz:∀b,Z b→Z' b)(sm:cm Z w w'):∀{ok:OK} {v:Value} {x:ok.T},(∀g,ob v=some g→w'.heap[g]? = w.heap[g]?)→jz Z w ok v x→jz Z' w' ok v x
 |.row ty k,v,xs,hk,h=>by obtain⟨vs,h1,h2⟩:=h;exact⟨vs,h1.kept hk,fun i x hx=>(h2 i x hx).mono hz sm⟩
 |.map _ _,v,_,hk,h=>by obtain⟨m,b5,clock,rfl,h2,h3,h4⟩:=h;exact⟨m,b5,clock,rfl,(hk m rfl).trans h2,h3.imp (fun _ _ h=>h.mono hz sm) (fun _ _ h=>h.mono hz sm),h4⟩
 |.iter _ _,v,x,hk,h=>by
  obtain⟨r,m,since,seen,b5,clock,rfl,h2,h3,h4,h5,h6,h7,h8,h9⟩:=h;refine⟨r,m,since,seen,b5,clock,rfl,(hk r rfl).trans h2,hz _ h3,(sm m h3).trans h4,h5,h6,h7,h8.imp (fun _ _ h=>h.mono hz sm) (fun _ _ h=>h.mono hz sm),?_⟩
  split
  ·trivial
  ·rename_i c hc;rw[hc]at h9;obtain⟨e,he,pI,El⟩:=h9;exact⟨e,he,pI,El.imp (fun _ _ h=>h.mono hz sm) (fun _ _ h=>h.mono hz sm)⟩
 |.og,v,_,hk,h=>by obtain⟨r,rfl,h2⟩:=h;exact⟨r,rfl,(hk r rfl).trans h2⟩
structure Good(Z:Nat→Prop)(ψ:Nat→Value)(h:Hp)(w:World)(B0:Nat)(O:Nat→Prop):Prop where
 box:∀id ty cs,h id=some (.box ty cs)→∃g vs,ψ id=.pointer (some ⟨g,0,none⟩)∧w.heap[g]? = some (.cells vs ty (0,0))∧ar Z ψ h w cs vs.toList∧∀u∈vs.toList,u.oneCell'=true
 row:∀id ok x,h id=some (.own ok x)→jz Z w ok (ψ id) x
 live:∀id g,h id≠none→ob (ψ id)=some g→¬Z g∧(B0≤g∨O g)
 apart:∀id ov g,h id≠none→h ov≠none→ob (ψ id)=some g→ob (ψ ov)=some g→id=ov
 j7:∀b,Z b→b<w.heap.size
variable {Z Z':Nat→Prop} {ψ ψ':Nat→Value} {h h':Hp} {w w':World} {B0:Nat} {O:Nat→Prop}
theorem Good.sub(g:Good Z ψ h w B0 O)(hs:∀id o,h' id=some o→h id=some o):Good Z ψ h' w B0 O:=by
 have hn:∀id,h' id≠none→h id≠none:=fun id hn=>by obtain⟨o,ho⟩:=abQ.1 hn;simp_all
 refine⟨fun id ty cs hb=>?_,fun id ok x hb=>g.row id ok x (hs _ _ hb),fun id b h1 h2=>g.live id b (hn id h1) h2,fun id ov b h1 h2 h3 h4=>g.apart id ov b (hn _ h1) (hn _ h2) h3 h4,g.j7⟩;obtain⟨b,vs,h1,h2,h3,h4⟩:=g.box id ty cs (hs _ _ hb);exact⟨b,vs,h1,h2,ar.less (fun _ h=>h) (cm.refl _ _) (fun id bL=>⟨hn id bL,rfl⟩) h3,h4⟩
theorem Good.freeze(g:Good Z ψ h w B0 O)(hs:∀id o,h' id=some o→h id=some o)(hz:∀b,Z b→Z' b) (Bw:∀b,Z' b→Z b∨∃id,h id≠none∧h' id=none∧ob (ψ id)=some b):Good Z' ψ h' w B0 O:=by
 have hn:∀id,h' id≠none→h id≠none:=fun id hn=>by obtain⟨o,ho⟩:=abQ.1 hn;simp_all
 have lt:∀id b,h id≠none→ob (ψ id)=some b→b<w.heap.size:=by
  intro id b h1 h2;obtain⟨o,ho⟩:=abQ.1 h1
  cases o with
  |box ty cs =>
   obtain⟨gg,vs,e1,e2,_⟩:=g.box id ty cs ho
   grind [ob,Option.some.injEq,Array.getElem?_eq_some_iff]
  |own ok x=>exact(g.row id ok x ho).lt h2
 refine⟨fun id ty cs hb=>?_,fun id ok x hb=>?_,fun id b h1 h2=>⟨fun hzb=>?_,(g.live id b (hn id h1) h2).2⟩,fun id ov b h1 h2 h3 h4=>g.apart id ov b (hn _ h1) (hn _ h2) h3 h4,fun b hb=>?_⟩
 ·obtain⟨b,vs,h1,h2,h3,h4⟩:=g.box id ty cs (hs _ _ hb);exact⟨b,vs,h1,h2,ar.less hz (cm.refl _ _) (fun id bL=>⟨hn id bL,rfl⟩) h3,h4⟩
 ·exact(g.row id ok x (hs _ _ hb)).kept hz (cm.refl _ _) (fun _ _=>rfl)
 ·rcases Bw b hzb with h3|⟨ov,h3,h4,h5⟩
  ·exact(g.live id b (hn id h1) h2).1 h3
  ·have:=g.apart id ov b (hn id h1) h3 h2 h5;simp_all
 ·rcases Bw b hb with h3|⟨ov,h3,h4,h5⟩
  ·exact g.j7 b h3
  grind
theorem vT{ty:TypeId}{k:K}{xs:List k.T}{v:Value}{vs:List Value}(ho:dI w ty k.sz v xs.length vs)(hv:kL Z w k xs vs)(hz:∀b,Z b→Z' b)(hb:∀b,ob v=some b→Z' b) :
  aH Z' w (.sl k) xs [v]:=by
 simp only[aH];refine⟨v,rfl,?_⟩;obtain⟨hl,e⟩:=ho;rcases e with⟨h0,A,rfl⟩|⟨g,cap,cur,rfl,Em,hh,hc,_,hs,ahw⟩
 ·have:xs=[]:=abS h0;subst this;exact⟨A,0,rfl,abX _,fun _=>rfl,fun i x hx=>by simp at hx⟩
 ·refine⟨some ⟨g,0,none⟩,cap,rfl,hc,fun e=>(by cases e),fun i x hx=>?_⟩;have hi:i<xs.length:=(aby.1 hx).1;refine⟨⟨g,0,none⟩,_,rfl,hb g (by simp only[ob];rw[if_neg (by omega)]),(hv i x hx).mono hz (cm.refl _ _),fun j u hu=>?_⟩;rw[cy,Nat.zero_add];simp only[World.cell?,hh];rw[List.getElem?_take]at hu
  split at hu
  ·rename_i hj;rw[List.getElem?_drop]at hu;rw[←ahw,List.getElem?_take]at hu
   split at hu
   ·simpa using hu
   ·cases hu
  ·cases hu
theorem Fk{hh:Heap}{a:AV}{v:Value}(g:Good Z ψ hh.get w B0 O)(hz:∀b,Z b→Z' b)(hb:∀id b,a=.bI id→hh.get id≠none→ob (ψ id)=some b→Z' b)(hr:az Z ψ hh.get w a v):az Z' ψ hh.get w (cV hh a) v:=by
 unfold cV
 split
 ·rename_i id
  split
  ·rename_i ty k xs hg;simp only[az]at hr;have hv:=hr.2 (by rw[hg];simp);subst hv;obtain⟨vs,h1,h2⟩:=g.row id (.row ty k) xs hg;simp only[az];exact⟨vT h1 h2 hz (fun b hbb=>hb id b rfl (by rw[hg];simp) hbb),by simp⟩
  ·rename_i kk vk es hg;simp only[az]at hr;have hv:=hr.2 (by rw[hg];simp);subst hv;obtain⟨m,b5,clock,h1,h2,h3,_⟩:=g.row id (.map kk vk) es hg;simp only[az,aH];refine⟨some m,by rw[h1],.inr ⟨m,b5,clock,rfl,hb id m rfl (by rw[hg];simp) (by rw[h1];rfl),h2,h3.imp (fun _ _ h=>h.mono hz (cm.refl _ _)) (fun _ _ h=>h.mono hz (cm.refl _ _))⟩⟩
  grind [az]
 ·exact hr.less hz (cm.refl _ _) (fun id bL=>⟨bL,rfl⟩)
theorem oy{hh:Heap}(g:Good Z ψ hh.get w B0 O)(hz:∀b,Z b→Z' b):∀{cs:List AV} {vs:List Value},(∀id b,AV.bI id∈cs→hh.get id≠none→ob (ψ id)=some b→Z' b)→ar Z ψ hh.get w cs vs→ar Z' ψ hh.get w (cs.map (cV hh)) vs
 |[],_,_,hr=>by simpa only[ar,List.map_nil] using hr
 |a::r,_,hb,hr=>by simp only[ar,List.map_cons]at hr ⊢;obtain⟨v,us,rfl,h1,h2⟩:=hr;exact⟨v,us,rfl,Fk g hz (fun id b e=>hb id b (by rw[e];simp)) h1,oy g hz (fun id b e=>hb id b (abq _ e)) h2⟩
theorem Pd(hh:Heap)(a:AV):∀id o,(drop1 hh a).get id=some o→hh.get id=some o:=by
 intro id o hg;unfold drop1 at hg
 grind [Heap.vS]
theorem dW:∀(cs:List AV) (hh:Heap),∀id o,(cM hh cs).get id=some o→hh.get id=some o
 |[],_,_,_,hg=>hg
 |c::r,hh,id,o,hg=>Pd hh c id o (dW r (drop1 hh c) id o hg)
theorem Bx:∀(cs:List AV) (hh:Heap) (id:Nat),AV.bI id∈cs→(cM hh cs).get id=none
 |[],_,_,hm=>by simp at hm
 |c::r,hh,id,hm=>by
  simp only[cM];rcases abM.1 hm with rfl|hm
  ·cases hg:(cM (drop1 hh (.bI id)) r).get id with
   |none=>rfl
   |some o =>have:=dW r _ id o hg;simp only[drop1,Heap.gI]at this;cases this
  ·exact Bx r _ id hm
theorem pS:∀(cs:List AV) (hh:Heap) (id:Nat),AV.bI id∉cs→(cM hh cs).get id=hh.get id
 |[],_,_,_=>rfl
 |c::r,hh,id,hm=>by
  simp only[cM];rw[pS r _ id (fun h=>hm (List.mem_cons_of_mem _ h))];unfold drop1
  split
  ·rename_i ov;exact Heap.iS (fun e=>hm (by rw[e];simp)) hh
  ·rfl
def rk(Z:Nat→Prop)(ψ:Nat→Value)(h:Hp)(cs:List AV):Nat→Prop:=fun b=>Z b∨∃id,AV.bI id∈cs∧h id≠none∧ob (ψ id)=some b
theorem iU{hh:Heap}(g:Good Z ψ hh.get w B0 O)(cs:List AV):Good (rk Z ψ hh.get cs) ψ (cM hh cs).get w B0 O :=g.freeze (dW cs hh) (fun _ hb=>.inl hb) (fun b hb=>by
  rcases hb with hb|⟨id,h1,h2,h3⟩
  ·exact .inl hb
  grind [id,Bx])
end Go.Vs
namespace Go.Vs
def Own(ψ:Nat→Value)(h:Hp)(b:Nat):Prop:=∃id,h id≠none∧ob (ψ id)=some b
structure cO(ψ:Nat→Value)(h:Hp)(w w':World):Prop where
 os:w'.os=w.os
 tape:w'.tape=w.tape
 output:w'.output=w.output
 size:w.heap.size≤w'.heap.size
 block:∀b,b<w.heap.size→¬Own ψ h b→w'.heap[b]? = w.heap[b]?
structure Next(Z:Nat→Prop)(ψ:Nat→Value)(h:Hp)(w:World)(B0:Nat)(O:Nat→Prop)(N:Nat→Prop)(Z':Nat→Prop)(ψ':Nat→Value)(h':Hp)(w':World):Prop where
 fX:∀b,Z b→Z' b
 eO:∀b,Z' b→Z b∨Own ψ h b∨w.heap.size≤b
 keep:cO ψ h w w'
 ids:∀id,h' id≠none→(h id≠none∧ψ' id=ψ id)∨N id
 dn:Good Z' ψ' h' w' B0 O
variable {Z Z':Nat→Prop} {ψ ψ':Nat→Value} {h h':Hp} {w w':World} {B0:Nat} {O:Nat→Prop} {N:Nat→Prop}
theorem cO.refl(ψ:Nat→Value)(h:Hp)(w:World):cO ψ h w w:=⟨rfl,rfl,rfl,abX _,fun _ _ _=>rfl⟩
theorem cO.same(k:cO ψ h w w')(g:Good Z ψ h w B0 O):cm Z w w':=fun b hb=>k.block b (g.j7 b hb) (fun⟨id,h1,h2⟩=>(g.live id b h1 h2).1 hb)
theorem Next.same(n:Next Z ψ h w B0 O N Z' ψ' h' w')(g:Good Z ψ h w B0 O):cm Z w w':=n.keep.same g
theorem Next.refl(g:Good Z ψ h w B0 O):Next Z ψ h w B0 O N Z ψ h w :=⟨fun _ h=>h,fun _ h=>.inl h,cO.refl _ _ _,fun _ bL=>.inl ⟨bL,rfl⟩,g⟩
theorem Next.rep(n:Next Z ψ h w B0 O N Z' ψ' h' w')(g:Good Z ψ h w B0 O){a:AV}{v:Value}(hm:aI (fun id=>¬N id) a)(hr:az Z ψ h w a v):az Z' ψ' h' w' a v :=hr.move n.fX (n.same g) (fun id hp bL=>(n.ids id bL).resolve_right hp) hm
theorem Good.bO(g:Good Z ψ h w B0 O){b:Nat}(ho:Own ψ h b):b<w.heap.size:=by
 obtain⟨id,h1,h2⟩:=ho;obtain⟨o,ho⟩:=abQ.1 h1
 cases o with
 |box ty cs =>
  obtain⟨gg,vs,e1,e2,_⟩:=g.box id ty cs ho
  grind [ob,Option.some.injEq,Array.getElem?_eq_some_iff]
 |own ok x=>exact(g.row id ok x ho).lt h2
theorem Good.more(g:Good Z ψ h w B0 O)(k:cO ψ h w w')(uf:∀b,Own ψ h b→w'.heap[b]? = w.heap[b]?) (hold:∀id,¬N id→h' id=h id∧ψ' id=ψ id) (bm:∀id ty cs,h id=some (.box ty cs)→aA (fun i=>¬N i) cs) (ZX:∀id ty cs,N id→h' id=some (.box ty cs)→∃g vs,ψ' id=.pointer (some ⟨g,0,none⟩)∧w'.heap[g]? = some (.cells vs ty (0,0))∧ar Z ψ' h' w' cs vs.toList∧∀u∈vs.toList,u.oneCell'=true) (oz:∀id ok x,N id→h' id=some (.own ok x)→jz Z w' ok (ψ' id) x) (Fl:∀id b,N id→h' id≠none→ob (ψ' id)=some b→w.heap.size≤b) (ZY:∀id ov b,N id→N ov→h' id≠none→h' ov≠none→ob (ψ' id)=some b→ob (ψ' ov)=some b→id=ov) (hB:B0≤w.heap.size) :
  Next Z ψ h w B0 O N Z ψ' h' w':=by
 have xS:∀id,h' id≠none→(h id≠none∧ψ' id=ψ id)∨N id:=fun id bL=>by
  grind
 have sm:cm Z w w':=k.same g;have Fm:∀id b,¬N id→h' id≠none→ob (ψ' id)=some b→Own ψ h b:=fun id b hn h1 h2=>by obtain⟨e1,e2⟩:=hold id hn;exact⟨id,by rwa [e1]at h1,by rwa [e2]at h2⟩
 refine⟨fun _ h=>h,fun _ h=>.inl h,k,xS,⟨fun id ty cs hb=>?_,fun id ok x hb=>?_,fun id b h1 h2=>?_,fun id ov b h1 h2 h3 h4=>?_,fun b hb=>aca (g.j7 b hb) k.size⟩⟩
 ·by_cases hn:N id
  ·grind
  ·obtain⟨e1,e2⟩:=hold id hn;rw[e1]at hb;obtain⟨gg,vs,h1,h2,h3,h4⟩:=g.box id ty cs hb;have ho:Own ψ h gg:=⟨id,by rw[hb];simp,by rw[h1];rfl⟩;exact⟨gg,vs,by rw[e2,h1],(uf gg ho).trans h2,h3.move (fun _ h=>h) sm (fun i hp bL=>(xS i bL).resolve_right hp) (bm id ty cs hb),h4⟩
 ·by_cases hn:N id
  ·simp_all
  ·obtain⟨e1,e2⟩:=hold id hn;rw[e1]at hb;rw[e2];exact(g.row id ok x hb).kept (fun _ h=>h) sm (fun gg Pe=>uf gg ⟨id,by rw[hb];simp,Pe⟩)
 ·by_cases hn:N id
  ·have:=Fl id b hn h1 h2;exact⟨fun hz=>by have:=g.j7 b hz;omega,.inl (by omega)⟩
  ·obtain⟨e1,e2⟩:=hold id hn;rw[e1]at h1;rw[e2]at h2;exact g.live id b h1 h2
 ·by_cases hn:N id<;>by_cases Pf:N ov
  ·grind
  ·have:=Fl id b hn h1 h3;have:=g.bO (Fm ov b Pf h2 h4);omega
  ·have:=Fl ov b Pf h2 h4;have:=g.bO (Fm id b hn h1 h3);omega
  ·obtain⟨e1,e2⟩:=hold id hn;obtain⟨e3,e4⟩:=hold ov Pf;rw[e1]at h1;rw[e2]at h3;rw[e3]at h2;rw[e4]at h4;exact g.apart id ov b h1 h2 h3 h4
end Go.Vs
namespace Go.Vs
variable {P:Program} {Z Z':Nat→Prop} {ψ ψ':Nat→Value} {h h':Hp} {w w':World} {B0:Nat} {O:Nat→Prop} {N:Nat→Prop}
theorem sR{α:Type}:∀(vs cs:List α) (off:Nat),off+vs.length≤cs.length→dU cs off vs=cs.take off++vs++cs.drop (off+vs.length)
 |[],cs,off,_=>by simp[dU]
 |v::r,cs,off,hl=>by
  simp only[List.length_cons]at hl;simp only[dU];rw[sR r (cs.set off v) (off+1) (by rw[List.length_set];omega)];have h1:(cs.set off v).take (off+1)=cs.take off++[v]:=by rw[List.take_set,List.take_succ_eq_append_getElem (by omega),List.set_append_right _ _ (by rw[List.length_take];omega)];rw[List.length_take,Nat.min_eq_left (by omega)];simp
  have h2:(cs.set off v).drop (off+1+r.length)=cs.drop (off+(r.length+1)):=by rw[List.drop_set_of_lt (by omega)];congr 1;omega
  rw[h1,h2,List.append_assoc,List.append_assoc,List.append_assoc];rfl
theorem gx{t:TypeId}{b:Bool}(hb:Ff P t=some b):(isAgg t).run P w=.ok b w:=by
 unfold Ff at hb;obtain⟨d,hd,rfl⟩:=ab5.1 hb;simp only[isAgg,Sem.run_bind,run_underlying hd,Result.andThen_ok]
 cases d<;>rfl
theorem ug{t:TypeId}{d:TypeDesc}(hd:P.underlying t=some d):∃i,P.info? t=some i:=by
 grind [Program.underlying]
theorem dx{t:TypeId}{i:TypeInfo}(hi:P.info? t=some i):(sizeOf t).run P w=.ok (P.cellsOf t) w:=by simp[sizeOf,typeInfo,hi,Program.cellsOf]
theorem zo{t:TypeId}{b:Bool}(hb:Ff P t=some b):∃i,P.info? t=some i:=by unfold Ff at hb;obtain⟨d,hd,rfl⟩:=ab5.1 hb;exact ug hd
theorem j8{t:TypeId}{cs:List AV}{us:List Value}{a:Addr}{x:AV}(hr:ar Z ψ h w cs us)(hc:∀(j:Nat) u,us[j]? = some u→w.cell? (a.add j)=some u)(hx:dV P t cs=some x) :
  ∃V,(Instr.loadAt t (.pointer (some a))).run P w=.ok V w∧az Z ψ h w x V:=by
 unfold dV at hx;have hlen:=hr.length
 split at hx
 ·rename_i hb
  split at hx
  ·rename_i hl
   cases hx
   obtain⟨i,hi⟩:=zo hb;refine⟨.agg (us.take (P.cellsOf t)).toArray,?_,by simp only[az];exact⟨_,rfl,by simpa using hr.take (P.cellsOf t)⟩⟩;have aK:(us.take (P.cellsOf t)).length=P.cellsOf t:=by simp_all
   have hld:=run_loadCells_list (P:=P) w a (us.take (P.cellsOf t)) (fun j v hv=>hc j v (by
    grind))
   simp_all [Instr.loadAt,Instr.sureAddr,loadVar,gx,dx]
  ·cases hx
 ·rename_i hb
  split at hx
  ·rename_i c r
   cases hx
   simp only[ar]at hr;obtain⟨v,jh,rfl,h1,h2⟩:=hr;refine⟨v,?_,h1⟩;have:=hc 0 v rfl;simp_all [Fj,Instr.loadAt,Instr.sureAddr,loadVar,gx]
  ·cases hx
 ·cases hx
theorem lz{t:TypeId}{i:TypeInfo}(hi:P.info? t=some i)(g off:Nat)(V:Value)(cur:Array Value)(ty:TypeId)(hg:w.heap[g]? = some (.cells cur ty (0,0)))(hs:V.cells.size=P.cellsOf t) (hl:off+V.cells.size≤cur.size) (h1:∀v∈V.cells.toList,v.oneCell'=true) :
  (Instr.storeAt t (.pointer (some ⟨g,off,none⟩)) V).run P w=.ok () (w.setRow g (cur.toList.take off++V.cells.toList++cur.toList.drop (off+V.cells.size)).toArray):=by
 have zp:=run_storeCells_at P g off ty V.cells.toList 0 cur w hg (by simpa using hl) h1;simp_all [Nat.add_zero,Array.length_toList,Instr.storeAt,Instr.sureAddr,storeVar,dx]
def dS{α:Type}(f:Nat→α)(i:Nat)(v:α):Nat→α:=fun j=>if j=i then v else f j
theorem ba{α:Type}(f:Nat→α)(i:Nat)(v:α):dS f i v i=v:=by simp[dS]
theorem di{α:Type}(f:Nat→α){i j:Nat}(v:α)(bw:j≠i):dS f i v j=f j:=by simp[dS,bw]
theorem cO.alloc(ψ:Nat→Value)(h:Hp)(w:World)(o:Obj):cO ψ h w (w.alloc o) :=⟨rfl,rfl,rfl,by simp_all,fun b hb _=>heap_alloc_old w o hb⟩
theorem By(g:Good Z ψ h w B0 O)(hB:B0≤w.heap.size)(id:Nat)(ty:TypeId){cs:List AV}{vs:Array Value}(hN:N id)(hr:ar Z ψ h w cs vs.toList)(h1:∀u∈vs.toList,u.oneCell'=true) (bm:∀i ty cs,h i=some (.box ty cs)→aA (fun i=>i≠id) cs) (hm:aA (fun i=>i≠id) cs) :
  Next Z ψ h w B0 O N Z (dS ψ id (.pointer (some ⟨w.heap.size,0,none⟩))) (dS h id (some (.box ty cs))) (w.alloc (.cells vs ty)):=by
 have n:Next Z ψ h w B0 O (·=id) Z (dS ψ id (.pointer (some ⟨w.heap.size,0,none⟩))) (dS h id (some (.box ty cs))) (w.alloc (.cells vs ty)):=by
  refine g.more (cO.alloc _ _ _ _) (fun b hb=>heap_alloc_old w _ (g.bO hb)) (fun i hi=>⟨di _ _ hi,di _ _ hi⟩) (fun i It cs' hb=>?_) (fun i It cs' hi hb=>?_) (fun i ok x hi hb=>?_) (fun i b hi bw hb=>?_) (fun i i' b hi xy _ _ _ _=>by omega) hB
  ·grind
  ·subst hi;rw[ba]at hb;cases hb;refine⟨w.heap.size,vs,ba _ _ _,heap_alloc_new _ _,?_,h1⟩;refine hr.move (fun _ h=>h) ((cO.alloc ψ h w _).same g) (fun j hj bw=>?_) hm
   grind [di]
  ·grind [ba]
  grind [ba,ob,Option.some.injEq]
 exact⟨n.fX,n.eO,n.keep,fun i hi=>(n.ids i hi).imp (fun h=>h) (fun e=>by simp_all),n.dn⟩
theorem RO{h:Hp}{id:Nat}{o:Ob}(bL:h id≠none):∀i,dS h id (some o) i≠none→h i≠none:=fun i hi=>by
 grind [id,di]
theorem Good.write(g:Good Z ψ h w B0 O)(id:Nat)(bL:h id≠none)(k:cO ψ h w w')(RP:∀b,ob (ψ id)≠some b→b<w.heap.size→w'.heap[b]? = w.heap[b]?)(o':Ob) (ZX:∀ty cs,o'=.box ty cs→∃gg vs,ψ id=.pointer (some ⟨gg,0,none⟩)∧w'.heap[gg]? = some (.cells vs ty (0,0))∧ar Z ψ h w' cs vs.toList∧∀u∈vs.toList,u.oneCell'=true) (oz:∀ok x,o'=.own ok x→jz Z w' ok (ψ id) x) :
  Next Z ψ h w B0 O N Z ψ (dS h id (some o')) w':=by
 have hs:=RO (o:=o') bL;have sm:=k.same g;refine⟨fun _ h=>h,fun _ h=>.inl h,k,fun i hi=>.inl ⟨hs i hi,rfl⟩,⟨fun i ty cs hb=>?_,fun i ok x hb=>?_,fun i b h1 h2=>g.live i b (hs i h1) h2,fun i i' b h1 h2 h3 h4=>g.apart i i' b (hs i h1) (hs i' h2) h3 h4,fun b hb=>aca (g.j7 b hb) k.size⟩⟩
 ·by_cases e:i=id
  ·subst e;rw[ba]at hb;cases hb;obtain⟨gg,vs,h1,h2,h3,h4⟩:=ZX _ _ rfl;exact⟨gg,vs,h1,h2,h3.less (fun _ h=>h) (cm.refl _ _) (fun j hj=>⟨hs j hj,rfl⟩),h4⟩
  ·rw[di _ _ e]at hb;obtain⟨gg,vs,h1,h2,h3,h4⟩:=g.box i ty cs hb;refine⟨gg,vs,h1,?_,h3.less (fun _ h=>h) sm (fun j hj=>⟨hs j hj,rfl⟩),h4⟩;rw[RP gg (fun hh=>e (g.apart i id gg (by rw[hb];simp) bL (by rw[h1];rfl) hh)) (Array.getElem?_eq_some_iff.1 h2).1];exact h2
 ·by_cases e:i=id
  ·subst e;rw[ba]at hb;cases hb;exact oz _ _ rfl
  ·rw[di _ _ e]at hb;exact(g.row i ok x hb).kept (fun _ h=>h) sm (fun gg Pe=>RP gg (fun hh=>e (g.apart i id gg (by rw[hb];simp) bL Pe hh)) (g.bO ⟨i,by rw[hb];simp,Pe⟩))
theorem cO.setRow{gg:Nat}(ho:Own ψ h gg)(arr:Array Value):cO ψ h w (w.setRow gg arr) :=⟨rfl,rfl,rfl,by simp[World.setRow],fun b _ hb=>by have:gg≠b:=fun e=>hb (e▸ho);simp[World.setRow,Array.getElem?_modify,this]⟩
theorem setRow_other{gg b:Nat}(arr:Array Value)(bw:gg≠b):(w.setRow gg arr).heap[b]? = w.heap[b]? := by simp[World.setRow,Array.getElem?_modify,bw]
theorem Bz(g:Good Z ψ h w B0 O){id:Nat}{ty:TypeId}{cs vs:List AV}(hb:h id=some (.box ty cs)){t:TypeId}{i:TypeInfo}(hi:P.info? t=some i){off:Nat}{V:Value} (hv:ar Z ψ h w vs V.cells.toList) (h1:∀u∈V.cells.toList,u.oneCell'=true) (hs:V.cells.size=P.cellsOf t) (hl:off+vs.length≤cs.length) {a:Addr} (ha:a=⟨WH (ψ id),off,none⟩) :
  ∃w',(Instr.storeAt t (.pointer (some a)) V).run P w=.ok () w'∧Next Z ψ h w B0 O N Z ψ (dS h id (some (.box ty (dU cs off vs)))) w':=by
 obtain⟨gg,arr,e1,e2,e3,e4⟩:=g.box id ty cs hb;have hlen:=hv.length;have RQ:=e3.length;simp only[Array.length_toList]at hlen RQ;have bL:h id≠none:=by rw[hb];simp
 have ho:Own ψ h gg:=⟨id,bL,by rw[e1];rfl⟩;rw[e1]at ha;simp only[WH]at ha;subst ha;refine⟨_,lz hi gg off V arr ty e2 hs (by omega) h1,?_⟩;have kk:=cO.setRow (w:=w) ho ((arr.toList.take off++V.cells.toList++arr.toList.drop (off+V.cells.size)).toArray);refine g.write id bL kk (fun b hb _=>setRow_other _ (fun e=>hb (by grind [ob]))) _ (fun It cs' he=>?_) (fun _ _ he=>by cases he)
 cases he
 refine⟨gg,_,e1,setRow_heap w gg arr _ ty _ e2,?_,?_⟩
 ·rw[sR _ _ _ hl];have h5:ar Z ψ h w (cs.take off++vs++cs.drop (off+vs.length)) (arr.toList.take off++V.cells.toList++arr.toList.drop (off+V.cells.size)):=by rw[←hlen];exact((e3.take off).append hv).append (e3.drop (off+vs.length))
  exact h5.less (fun _ h=>h) (kk.same g) (fun j hj=>⟨hj,rfl⟩)
 grind
theorem ZZ{α:Type}(cur V:List α)(m off sz L:Nat)(h:off+V.length≤sz)(h1:m+sz≤L)(h2:L≤cur.length) :
  ((cur.take (m+off)++V++cur.drop (m+off+V.length)).take L |>.drop m |>.take sz)=((cur.drop m).take sz).take off++V++((cur.drop m).take sz).drop (off+V.length):=by
 apply acm;intro q;simp only[List.getElem?_take,List.getElem?_drop,List.getElem?_append,List.length_append,List.length_take,List.length_drop]
 grind
theorem WI{α:Type}(cur V:List α)(m off sz L p:Nat)(h:off+V.length≤sz)(h1:m+sz≤L)(h2:L≤cur.length)(h3:p+sz≤L)(h4:p+sz≤m∨m+sz≤p) :
  ((cur.take (m+off)++V++cur.drop (m+off+V.length)).take L |>.drop p |>.take sz)=(cur.drop p).take sz:=by
 apply acm;intro q;simp only[List.getElem?_take,List.getElem?_drop,List.getElem?_append,List.length_append,List.length_take]
 grind
theorem aH.oC{k:K}{x:k.T}{vs us:List Value}(e:vs=us)(hr:aH Z w k x vs):aH Z w k x us:=e▸hr
theorem BA(g:Good Z ψ h w B0 O){id:Nat}{ty:TypeId}{kk:K}{xs:List kk.T}(hb:h id=some (.own (.row ty kk) xs)){t:TypeId}{i:TypeInfo}(hi:P.info? t=some i){n off:Nat}{x y:kk.T}{V:Value} (hx:xs[n]? = some x) (hs:V.cells.size=P.cellsOf t) (hl:off+V.cells.size≤kk.sz) {a:Addr} (ha:a=⟨WH (ψ id),n*kk.sz+off,none⟩) (hy:∀us,aH Z w kk x us→aH Z w kk y (us.take off++V.cells.toList++us.drop (off+V.cells.size))) (h1:∀u∈V.cells.toList,u.oneCell'=true) :
  ∃w',(Instr.storeAt t (.pointer (some a)) V).run P w=.ok () w'∧Next Z ψ h w B0 O N Z ψ (dS h id (some (.own (.row ty kk) (xs.set n y)))) w':=by
 obtain⟨vs,ho,hv⟩:=g.row id (.row ty kk) xs hb;have bL:h id≠none:=by rw[hb];simp
 have hn:n<xs.length:=(aby.1 hx).1;have Em:=kk.gu;have hmul:n*kk.sz+kk.sz≤xs.length*kk.sz:=by rw[←Nat.succ_mul];exact abV _ hn
 obtain⟨hl1,e⟩:=ho;rcases e with⟨h0,_⟩|⟨gg,cap,cur,e1,e2,e3,e4,e5,e6,e7⟩
 ·omega
 have RR:xs.length*kk.sz≤cap*kk.sz:=abV _ e4;have oa:ob (ψ id)=some gg:=by rw[e1];simp only[ob];rw[if_neg (by omega)]
 have ho:Own ψ h gg:=⟨id,bL,oa⟩;have IN:a=⟨gg,n*kk.sz+off,none⟩:=by rw[ha,e1];rfl
 subst IN;refine⟨_,lz hi gg (n*kk.sz+off) V cur ty e3 hs (by omega) h1,?_⟩;have hk:=cO.setRow (w:=w) ho ((cur.toList.take (n*kk.sz+off)++V.cells.toList++cur.toList.drop (n*kk.sz+off+V.cells.size)).toArray);have sm:=hk.same g;refine g.write id bL hk (fun b hb _=>setRow_other _ (fun e=>hb (by rw[oa,e]))) _ (fun _ _ he=>by cases he) (fun WD x' he=>?_)
 cases he
 have uW:cur.toList.length=cap*kk.sz:=by rw[Array.length_toList];exact e6
 have hVl:V.cells.toList.length=V.cells.size:=Array.length_toList
 let gk:=cur.toList.take (n*kk.sz+off)++V.cells.toList++cur.toList.drop (n*kk.sz+off+V.cells.size)
 have En:gk.length=cap*kk.sz:=by simp only[gk,List.length_append,List.length_take,List.length_drop,uW,hVl];omega
 have WJ:(xs.set n y).length=xs.length:=List.length_set;have sS:vs=cur.toList.take (xs.length*kk.sz):=e7.symm;refine⟨gk.take (xs.length*kk.sz),⟨by rw[List.length_take,En,WJ];omega,.inr ⟨gg,cap,gk.toArray,by rw[WJ];exact e1,e2,setRow_heap w gg cur _ ty _ e3,by rw[WJ];exact e4,e5,by simpa using En,by rw[WJ]⟩⟩,fun j z hz=>?_⟩;have hj:j<xs.length:=by have:=(aby.1 hz).1;rwa [WJ]at this
 have hmj:j*kk.sz+kk.sz≤xs.length*kk.sz:=by rw[←Nat.succ_mul];exact abV _ hj
 have WK:∀p,p+kk.sz≤xs.length*kk.sz→(vs.drop p).take kk.sz=(cur.toList.drop p).take kk.sz:=fun p hp=>by rw[sS,List.drop_take,List.take_take,Nat.min_eq_left (by omega)]
 by_cases Rt:j=n
 ·subst Rt;rw[List.getElem?_set_self hn]at hz;cases hz;have hu:=hy _ (hv j x hx);rw[WK _ hmj,←hVl]at hu;refine aH.mono (fun _ h=>h) sm (aH.oC ?_ hu);have:=ZZ cur.toList V.cells.toList (j*kk.sz) off kk.sz (xs.length*kk.sz) (by omega) hmj (by omega);rw[←this,hVl]
 ·rw[List.getElem?_set_ne (fun e=>Rt e.symm)]at hz;have hu:=hv j z hz;rw[WK _ hmj]at hu;refine aH.mono (fun _ h=>h) sm (aH.oC ?_ hu);have h4:j*kk.sz+kk.sz≤n*kk.sz∨n*kk.sz+kk.sz≤j*kk.sz:=by
   rcases Nat.lt_or_ge j n with h|h
   ·left;rw[←Nat.succ_mul];exact abV _ h
   ·right;rw[←Nat.succ_mul];exact abV _ (by omega)
  have:=WI cur.toList V.cells.toList (n*kk.sz) off kk.sz (xs.length*kk.sz) (j*kk.sz) (by omega) hmul (by omega) hmj h4;rw[←this,hVl]
theorem uX{k:K}{ys:List k.T}{u:Value}(hr:aH Z w (.sl k) ys [u]) :
  (u=.slice none 0 0∧ys=[])∨∃a c news,u=.slice (some a) ys.length c∧ys.length≤c∧news.length=ys.length*k.sz∧(∀(j:Nat) q,news[j]? = some q→w.cell? (a.add j)=some q)∧(∀q∈news,q.oneCell'=true)∧kL Z w k ys news:=by
 simp only[aH]at hr;obtain⟨v,hv,A,c,rfl,hl,hn,he⟩:=hr
 cases hv
 cases A with
 |none =>simp_all
 |some a =>
  right;have Nm:∀i (hi:i<ys.length),∃us,aH Z w k ys[i] us∧∀(j:Nat) u,us[j]? = some u→w.cell? (a.add (i*k.sz+j))=some u:=fun i hi=>by simp_all
  have Em:=k.gu
  let news:=(List.range (ys.length*k.sz)).map fun j=>(w.cell? (a.add j)).getD default
  have YC:∀j,j<ys.length*k.sz→∃q,w.cell? (a.add j)=some q∧q.oneCell'=true:=fun j hj=>by
   have hi:j / k.sz<ys.length:=Nat.div_lt_of_lt_mul (by grind);obtain⟨us,h3,h4⟩:=Nm (j / k.sz) hi;have hm:j%k.sz<us.length:=by rw[h3.len];exact acV _ Em
   refine⟨us[j%k.sz],?_,h3.one _ (ab4 hm)⟩
   grind [List.getElem?_eq_getElem,Nat.mul_comm,Nat.div_add_mod]
  have vU:∀j,j<ys.length*k.sz→∃q,news[j]? = some q∧w.cell? (a.add j)=some q:=fun j hj=>by
   grind
  have hlen:news.length=ys.length*k.sz:=by simp[news]
  refine⟨a,c,news,rfl,hl,hlen,fun j q hq=>?_,fun q hq=>?_,fun i x hx=>?_⟩
  ·grind
  ·grind
  ·have hi:i<ys.length:=(aby.1 hx).1;obtain⟨us,h3,h4⟩:=Nm i hi;rw[List.getElem?_eq_getElem hi]at hx;cases hx;refine aH.oC ?_ h3;have hul:=h3.len;have hmul:i*k.sz+k.sz≤ys.length*k.sz:=by rw[←Nat.succ_mul];exact abV _ hi
   apply acm
   grind
theorem Pg{hh:Heap}(g:Good Z ψ hh.get w B0 O){x:AV}{u:Value}{k:K}{ys:List k.T}(hx:rowOf hh x k=some ys)(hr:az Z ψ hh.get w x u) :
  (u=.slice none 0 0∧ys=[])∨∃a c news,u=.slice (some a) ys.length c∧ys.length≤c∧news.length=ys.length*k.sz∧(∀(j:Nat) q,news[j]? = some q→w.cell? (a.add j)=some q)∧(∀q∈news,q.oneCell'=true)∧kL Z w k ys news:=by
 unfold rowOf at hx
 split at hx
 ·rename_i ex k' xs heq
  split at hx
  ·rename_i e;subst e
   cases hx
   cases x with
   |sl ex' k'' xs' =>
    simp only[cV]at heq
    cases heq
    simp only[az]at hr;exact uX hr.1
   |bI id =>
    simp only[cV]at heq
    split at heq
    ·rename_i ty kk zs hg
     cases heq
     simp only[az]at hr;have hv:=hr.2 (by rw[hg];simp);subst hv;obtain⟨vs,ho,hv⟩:=g.row id (.row ty _) _ hg;have h1:=uX (vT (Z':=fun b=>Z b∨ob (ψ id)=some b) ho hv (fun b hb=>.inl hb) (fun b hb=>.inr hb));rcases h1 with h1|⟨a,c,news,h1,h2,h3,h4,h5,_⟩
     ·exact .inl h1
     ·right;refine⟨a,c,news,h1,h2,h3,h4,h5,?_⟩;have Nn:news=vs:=by
       obtain⟨hl,e⟩:=ho;rcases e with⟨e,_⟩|⟨gg,cap,cur,e,_,e3,_,_,_,e7⟩
       ·rw[e,Nat.zero_mul]at h3 hl;rw[List.eq_nil_of_length_eq_zero h3,List.eq_nil_of_length_eq_zero hl]
       ·rw[e]at h1;cases h1;apply acm;intro j;by_cases hj:j<xs.length*k'.sz
        ·have hn:=h4 j _ (abk (by omega));rw[cy,Nat.zero_add]at hn;simp only[World.cell?,e3]at hn;have AJ:vs[j]? = cur.toList[j]? := by rw[←e7,List.getElem?_take,if_pos hj]
         rw[AJ,List.getElem?_eq_getElem (by omega)];simpa using hn.symm
        ·rw[List.getElem?_eq_none (by omega),List.getElem?_eq_none (by omega)]
      rw[Nn];exact hv
    ·cases heq
    ·cases heq
   |_=>simp only[cV]at heq<;>cases heq
  ·cases hx
 ·rename_i heq
  cases hx
  cases x with
  |fK=>simp only[az]at hr;exact .inl ⟨hr,rfl⟩
  |bI id=>simp only[cV]at heq;split at heq<;>cases heq
  |_=>simp only[cV]at heq<;>cases heq
 ·cases hx
structure nP(P:Program)(e:TypeId)(k:K)(i:TypeInfo)(z:Value):Prop where
 info:P.info? e=some i
 zero:i.zero=some z
 size:i.size=k.sz
 vW:z.cells.size=k.sz
 bytes:i.bytes≤65536
theorem cd{e:TypeId}{k:K}(he:xI P e k=true):∃i z,nP P e k i z:=by
 unfold xI at he
 split at he
 ·rename_i i hi
  split at he
  ·rename_i z hz;simp only[Bool.and_eq_true,decide_eq_true_eq]at he;exact⟨i,z,hi,hz,he.1,he.2.1,he.2.2⟩
  ·cases he
 ·cases he
theorem kL.append{k:K}{xs ys:List k.T}{vs us:List Value}(h1:kL Z w k xs vs)(h2:kL Z w k ys us)(hl:vs.length=xs.length*k.sz):kL Z w k (xs++ys) (vs++us):=fun i x hx=>by
 by_cases hi:i<xs.length
 ·rw[List.getElem?_append_left hi]at hx;have hm:i*k.sz+k.sz≤xs.length*k.sz:=by rw[←Nat.succ_mul];exact abV _ hi
  have h3:=h1 i x hx;rw[List.drop_append_of_le_length (by omega),List.take_append_of_le_length (by rw[List.length_drop];omega)];exact h3
 ·rw[List.getElem?_append_right (by omega)]at hx;have h3:=h2 (i-xs.length) x hx;have e:i*k.sz=vs.length+(i-xs.length)*k.sz:=by rw[hl,←Nat.add_mul];congr 1;omega
  rw[e,List.drop_append,List.drop_eq_nil_of_le (by omega),List.nil_append,Nat.add_sub_cancel_left];exact h3
theorem kL.BB{k:K}{xs:List k.T}{vs:List Value}(h:kL Z w k xs vs)(sm:cm Z w w'):kL Z w' k xs vs:=fun i x hx=>(h i x hx).mono (fun _ h=>h) sm
theorem IP(g:Good Z ψ h w B0 O)(hB:B0≤w.heap.size)(id:Nat)(hN:N id){ok:OK}{x:ok.T}{v:Value}(kk:cO ψ h w w')(uf:∀b,Own ψ h b→w'.heap[b]? = w.heap[b]?) (ho:jz Z w' ok v x) (hb:∀b,ob v=some b→w.heap.size≤b) (bm:∀i ty cs,h i=some (.box ty cs)→aA (fun i=>i≠id) cs) :
  Next Z ψ h w B0 O N Z (dS ψ id v) (dS h id (some (.own ok x))) w':=by
 have n:Next Z ψ h w B0 O (·=id) Z (dS ψ id v) (dS h id (some (.own ok x))) w':=by
  refine g.more kk uf (fun i hi=>⟨di _ _ hi,di _ _ hi⟩) (fun i It cs' hb=>bm i It cs' hb) (fun i It cs' hi hb=>?_) (fun i ok x hi hb=>?_) (fun i b hi bw hbb=>?_) (fun i i' b hi xy _ _ _ _=>by omega) hB
  ·grind [ba]
  ·grind [ba]
  grind [ba]
 exact⟨n.fX,n.eO,n.keep,fun i hi=>(n.ids i hi).imp (fun h=>h) (fun e=>by simp_all),n.dn⟩
theorem oD(g:Good Z ψ h w B0 O)(hB:B0≤w.heap.size)(id:Nat)(ty:TypeId)(hN:N id){k:K}{xs:List k.T}{vs:List Value}{v:Value}(kk:cO ψ h w w')(uf:∀b,Own ψ h b→w'.heap[b]? = w.heap[b]?) (ho:dI w' ty k.sz v xs.length vs) (hv:kL Z w' k xs vs) (hb:∀b,ob v=some b→w.heap.size≤b) (bm:∀i ty cs,h i=some (.box ty cs)→aA (fun i=>i≠id) cs) :
  Next Z ψ h w B0 O N Z (dS ψ id v) (dS h id (some (.own (.row ty k) xs))) w':=IP g hB id hN (ok:=.row ty k) kk uf ⟨vs,ho,hv⟩ hb bm
theorem cO.grown{row:Option Nat}(hg:w.grownBy w' row)(hr:∀b,row=some b→Own ψ h b):cO ψ h w w' :=⟨hg.os,hg.tape,hg.output,hg.size,fun b hb hn=>hg.block b hb (fun e=>hn (hr b e.symm))⟩
theorem nk(g:Good Z ψ h w B0 O)(hB:B0≤w.heap.size)(id cC:Nat)(hN:N id){ok:OK}{x y:ok.T}(ho:h cC=some (.own ok x))(bw:cC≠id) (hg:w.grownBy w' (ob (ψ cC))) {v:Value} (hv:jz Z w' ok v y) (hb:ob v=ob (ψ cC)∨∀b,ob v=some b→w.heap.size≤b) (bm:∀i ty cs,h i=some (.box ty cs)→aA (fun i=>i≠id) cs) :
  Next Z ψ h w B0 O N Z (dS ψ id v) (dS (dS h cC none) id (some (.own ok y))) w':=by
 have hold:h cC≠none:=by rw[ho];simp
 have oa:∀b,ob (ψ cC)=some b→ob (ψ cC)=some b:=fun _ h=>h;have kk:cO ψ h w w':=cO.grown hg (fun b e=>⟨cC,hold,oa b e⟩);have sm:=kk.same g;have other:∀i b,h i≠none→i≠cC→ob (ψ i)=some b→w'.heap[b]? = w.heap[b]? := fun i b h1 h2 h3 =>hg.block b (g.bO ⟨i,h1,h3⟩) (fun e=>h2 (g.apart i cC b h1 hold h3 (oa b e.symm)));have at_:∀i,i≠id→dS (dS h cC none) id (some (.own ok y)) i≠none→h i≠none∧i≠cC:=fun i hi h1=>by
  rw[di _ _ hi]at h1;by_cases e:i=cC
  ·subst e;rw[ba]at h1;exact absurd rfl h1
  ·rw[di _ _ e]at h1;exact⟨h1,e⟩
 have ids:∀i,dS (dS h cC none) id (some (.own ok y)) i≠none→(h i≠none∧dS ψ id v i=ψ i)∨i=id:=fun i h1=>by
  by_cases e:i=id
  ·exact .inr e
  ·exact .inl ⟨(at_ i e h1).1,di _ _ e⟩
 have vob:∀b,ob v=some b→ob (ψ cC)=some b∨w.heap.size≤b:=fun b hbb=>by
  rcases hb with hb|hb
  ·left;rw[←hb];exact hbb
  ·right;exact hb b hbb
 refine⟨fun _ h=>h,fun _ h=>.inl h,kk,fun i h1=>(ids i h1).imp (fun h=>h) (fun e=>by subst e;exact hN),⟨fun i It cs q7=>?_,fun i WD z q7=>?_,fun i b h1 h2=>?_,fun i i' b h1 h2 h3 h4=>?_,fun b hz=>aca (g.j7 b hz) kk.size⟩⟩
 ·by_cases e:i=id
  ·subst e;rw[ba]at q7;cases q7
  ·have GX:=at_ i e (by rw[q7];simp);rw[di _ _ e,di _ _ GX.2]at q7;obtain⟨gg,us,h1,h2,h3,h4⟩:=g.box i It cs q7;refine⟨gg,us,by rw[di _ _ e];exact h1,(other i gg GX.1 GX.2 (by rw[h1];rfl)).trans h2,?_,h4⟩;exact h3.move (fun _ h=>h) sm (fun j hj hn=>(ids j hn).resolve_right hj) (bm i It cs q7)
 ·by_cases e:i=id
  ·subst e;rw[ba]at q7;cases q7;rw[ba];exact hv
  ·have GX:=at_ i e (by rw[q7];simp);rw[di _ _ e,di _ _ GX.2]at q7;rw[di _ _ e];exact(g.row i WD z q7).kept (fun _ h=>h) sm (fun gg Pe=>other i gg GX.1 GX.2 Pe)
 ·by_cases e:i=id
  ·subst e;rw[ba]at h2;rcases vob b h2 with h3|h3
   ·exact g.live cC b hold h3
   ·exact⟨fun hz=>by have:=g.j7 b hz;omega,.inl (by omega)⟩
  ·rw[di _ _ e]at h2;exact g.live i b (at_ i e h1).1 h2
 ·have key:∀j,j≠id→dS (dS h cC none) id (some (.own ok y)) j≠none→ob (ψ j)=some b→ob v=some b→False:=fun j hj h5 h6 h7=>by
   obtain⟨h8,h9⟩:=at_ j hj h5;rcases vob b h7 with pI|pI
   ·exact h9 (g.apart j cC b h8 hold h6 pI)
   ·have:=g.bO ⟨j,h8,h6⟩;omega
  by_cases e:i=id<;>by_cases e':i'=id
  ·rw[e,e']
  ·subst e;rw[ba]at h3;rw[di _ _ e']at h4;exact(key i' e' h2 h4 h3).elim
  ·subst e';rw[ba]at h4;rw[di _ _ e]at h3;exact(key i e h1 h3 h4).elim
  ·rw[di _ _ e]at h3;rw[di _ _ e']at h4;exact g.apart i i' b (at_ i e h1).1 (at_ i' e' h2).1 h3 h4
def WL(w:World)(sz:Nat)(u:Value)(m:Nat)(news:List Value):Prop :=news.length=m*sz∧(∀q∈news,q.oneCell'=true)∧((u=.slice none 0 0∧m=0)∨∃a c,u=.slice (some a) m c∧∀(j:Nat) q,news[j]? = some q→w.cell? (a.add j)=some q)
theorem vX{hh:Heap}(g:Good Z ψ hh.get w B0 O){x:AV}{u:Value}{k:K}{ys:List k.T}(hx:rowOf hh x k=some ys)(hr:az Z ψ hh.get w x u):∃news,WL w k.sz u ys.length news∧kL Z w k ys news:=by
 rcases Pg g hx hr with⟨rfl,rfl⟩|⟨a,c,news,h1,_,h2,h3,h4,h5⟩
 ·exact⟨[],⟨by simp,by simp,.inl ⟨rfl,rfl⟩⟩,fun i x hx=>by simp at hx⟩
 ·exact⟨news,⟨h2,h4,.inr ⟨a,c,h1,h3⟩⟩,h5⟩
theorem fB{t ty e:TypeId}{i:TypeInfo}(ht:P.underlying t=some (.slice e))(hi:P.info? e=some i)(A:Option Addr)(n c:Nat)(hc:n≤c)(A':Option Addr)(c':Nat) :
  (Builtin.append_ #[t,t] ty #[.slice A n c,.slice A' 0 c']).run P w=.ok (.slice A n c) w:=by
 cases A<;>cases A'<;>simp[Builtin.append_,run_underlying ht,sizeOf,typeInfo,hi,Builtin.lenOf,Builtin.firstCells,hc,storeCells,loadCells,loadCellsFrom]
theorem dL{t ty e:TypeId}{k:K}{i:TypeInfo}{z:Value}(ht:P.underlying t=some (.slice e))(he:nP P e k i z){v:Value}{n:Nat}{xs:List Value}(ho:dI w e k.sz v n xs) {u:Value} {m:Nat} {news:List Value} (hu:WL w k.sz u m news) (hm:n+m≤eW) :
  ∃v' w',(Builtin.append_ #[t,t] ty #[v,u]).run P w=.ok v' w'∧dI w' e k.sz v' (n+m) (xs++news)∧w.grownBy w' (ob v)∧(ob v'=ob v∨∀b,ob v'=some b→w.heap.size≤b):=by
 obtain⟨h1,h3,hu⟩:=hu;obtain⟨A0,c0,YD⟩:=ho.slice;by_cases hm0:m=0
 ·subst hm0;have acp:news=[]:=abS (by omega);subst acp;have zq:n≤c0:=by
   rcases ho.2 with⟨h0,A,e⟩|⟨g,cap,cur,e,hc,h2,h3,_⟩
   ·omega
   simp_all
  refine⟨v,w,?_,by simpa using ho,World.grownBy.refl w _,.inl rfl⟩;subst YD;rcases hu with⟨rfl,_⟩|⟨a,c,rfl,_⟩<;>exact fB ht he.info A0 n c0 zq _ _
 ·rcases hu with⟨_,h0⟩|⟨a,c,rfl,h2⟩
  ·omega
  have hb:=he.bytes;unfold eW at hm;have rI:(n+m)*i.bytes≤140737488355328:=ab0 (aeg hm hb) (by decide);have new:∀v',w.heap.size≤w.heap.size→∀(w':World),w'.ownsRow w.heap.size e k.sz v' (n+m) (xs++news)→∀b,ob v'=some b→w.heap.size≤b:=fun v' _ w' rl b hb=>by
   rcases rl.2 with⟨rfl,_⟩|⟨g,cap,cur,rfl,h5,_⟩
   ·omega
   grind [ob]
  rcases ho.2 with⟨rfl,A,rfl⟩|⟨g,cap,cur,rfl,RR,h4,h5,h6,h7,h8⟩
  ·have BC:xs=[]:=abS (by rw[ho.1,Nat.zero_mul]);subst BC;have oa:ob (.slice A 0 0)=none:=by cases A<;>simp[ob]
   cases A with
   |none =>obtain⟨v',w',hr,h4,h5,_,h6⟩:=run_append_own_at (P:=P) w w.heap.size t ty e i z k.sz i.bytes ht he.info he.zero he.size rfl he.vW k.gu (.slice none 0 0) 0 [] ⟨by simp,.inl ⟨rfl,rfl⟩⟩ a m c news h1 h2 h3 (by grind [maxLen]) rI (abX _);exact⟨v',w',hr,dI.of h4,by rw[oa];exact h5,.inr (new v' (abX _) w' h4)⟩
   |some b0 =>obtain⟨v',w',hr,h4,h5⟩:=run_append_arg_grows (P:=P) w t ty e i z k.sz i.bytes ht he.info he.zero he.size rfl he.vW k.gu b0 0 0 [] (by simp) (by simp) a m c news h1 h2 (by omega) (by grind [maxLen]) rI;exact⟨v',w',hr,dI.of h4,by simp_all,.inr (new v' (abX _) w' h4)⟩
  ·have q8:w.ownsRow 0 e k.sz (.slice (some ⟨g,0,none⟩) n cap) n xs:=⟨ho.1,.inr ⟨g,cap,cur,rfl,acg _,h4,h5,h6,h7,h8⟩⟩;have oa:ob (.slice (some ⟨g,0,none⟩) n cap)=some g:=by simp only[ob];grind
   obtain⟨v',w',hr,h4,h5,_,h6⟩:=run_append_own_at (P:=P) w 0 t ty e i z k.sz i.bytes ht he.info he.zero he.size rfl he.vW k.gu _ n xs q8 a m c news h1 h2 h3 (by grind [maxLen]) rI (acg _);refine⟨v',w',hr,dI.of h4,by rw[oa];exact h5,?_⟩;rw[oa];rcases h4.2 with⟨rfl,h0⟩|⟨g',ahy,gk,rfl,_,_,h9,_⟩
   ·omega
   ·have acq:ob (.slice (some ⟨g',0,none⟩) (n+m) ahy)=some g':=by simp only[ob];grind
    grind [Value.ownBlock,Option.some.injEq]
theorem az.nQ{h h':Hp}(hs:∀id o,h' id=some o→h id=some o){a:AV}{v:Value}(hr:az Z ψ h w a v):az Z ψ h' w a v :=hr.less (fun _ h=>h) (cm.refl _ _) (fun id bL=>by obtain⟨o,ho⟩:=abQ.1 bL;simp_all)
theorem ar.nQ{h h':Hp}(hs:∀id o,h' id=some o→h id=some o){a:List AV}{v:List Value}(hr:ar Z ψ h w a v):ar Z ψ h' w a v :=hr.less (fun _ h=>h) (cm.refl _ _) (fun id bL=>by obtain⟨o,ho⟩:=abQ.1 bL;simp_all)
theorem qK{hh:Heap}(g:Good Z ψ h w B0 O)(bz:∀id o,hh.get id=some o→h id=some o)(hB:B0≤w.heap.size){id:Nat}(hN:N id){t ty e:TypeId}{k:K}{i:TypeInfo}{z:Value}(ht:P.underlying t=some (.slice e))(he:nP P e k i z) {x:AV} {u:Value} {ys:List k.T} (hx:rowOf hh x k=some ys) (hr:az Z ψ h w x u) (hm:ys.length≤eW) (bm:∀i ty cs,h i=some (.box ty cs)→aA (fun i=>i≠id) cs) :
  ∃v' w',(Builtin.append_ #[t,t] ty #[.slice none 0 0,u]).run P w=.ok v' w'∧Next Z ψ h w B0 O N Z (dS ψ id v') (dS h id (some (.own (.row e k) ys))) w'∧v'.cells=#[v']∧v'.oneCell'=true:=by
 obtain⟨news,xT,hv⟩:=vX (g.sub bz) hx (hr.nQ bz);have LF:dI w e k.sz (.slice none 0 0) 0 []:=⟨by simp,.inl ⟨rfl,none,rfl⟩⟩;obtain⟨v',w',c9,h4,h5,h6⟩:=dL (ty:=ty) ht he LF xT (by omega);have hg:w.grownBy w' none:=h5;have kk:cO ψ h w w':=cO.grown hg (fun b e=>by cases e);have sm:=kk.same g;refine⟨v',w',c9,oD g hB id e hN (vs:=news) kk (fun b hb=>hg.block b (g.bO hb) (by simp)) (by simpa using h4) (fun i x hx=>(hv i x hx).mono (fun _ h=>h) sm) (fun b hb=>?_) bm,h4.one⟩
 grind [ob]
theorem Ap{hh:Heap}(g:Good Z ψ h w B0 O)(bz:∀id o,hh.get id=some o→h id=some o)(hB:B0≤w.heap.size){id cC:Nat}(hN:N id)(bw:cC≠id){t ty e:TypeId}{k:K}{i:TypeInfo}{z:Value}(ht:P.underlying t=some (.slice e))(he:nP P e k i z) {xs:List k.T} (ho:h cC=some (.own (.row e k) xs)) {x:AV} {u:Value} {ys:List k.T} (hx:rowOf hh x k=some ys) (hr:az Z ψ h w x u) (hm:xs.length+ys.length≤eW) (bm:∀i ty cs,h i=some (.box ty cs)→aA (fun i=>i≠id) cs) :
  ∃v' w',(Builtin.append_ #[t,t] ty #[ψ cC,u]).run P w=.ok v' w'∧Next Z ψ h w B0 O N Z (dS ψ id v') (dS (dS h cC none) id (some (.own (.row e k) (xs++ys)))) w'∧v'.cells=#[v']∧v'.oneCell'=true:=by
 obtain⟨news,xT,hv⟩:=vX (g.sub bz) hx (hr.nQ bz);obtain⟨vs,WM,YD⟩:=g.row cC (.row e k) xs ho;obtain⟨v',w',c9,h4,h5,h6⟩:=dL (ty:=ty) ht he WM xT hm;have hold:h cC≠none:=by rw[ho];simp
 have kk:cO ψ h w w':=cO.grown h5 (fun b e=>⟨cC,hold,e⟩);have sm:=kk.same g;refine⟨v',w',c9,nk g hB id cC hN ho bw h5 (ok:=.row e k) (y:=xs++ys) ⟨_,by simp_all,(YD.append hv WM.1).BB sm⟩ h6 bm,h4.one⟩
theorem BD{hh:Heap}(g:Good Z ψ h w B0 O)(bz:∀id o,hh.get id=some o→h id=some o)(hB:B0≤w.heap.size){id:Nat}(hN:N id){t ty e:TypeId}{k:K}{i:TypeInfo}{z:Value}(ht:P.underlying t=some (.slice e))(he:nP P e k i z) {xs:List k.T} {v:Value} (hd:az Z ψ h w (.sl true k xs) v) {x:AV} {u:Value} {ys:List k.T} (hx:rowOf hh x k=some ys) (hr:az Z ψ h w x u) (Em:0<ys.length∨xs=[]) (hm:xs.length+ys.length≤eW) (bm:∀i ty cs,h i=some (.box ty cs)→aA (fun i=>i≠id) cs) :
  ∃v' w',(Builtin.append_ #[t,t] ty #[v,u]).run P w=.ok v' w'∧Next Z ψ h w B0 O N Z (dS ψ id v') (dS h id (some (.own (.row e k) (xs++ys)))) w'∧v'.cells=#[v']∧v'.oneCell'=true:=by
 simp only[az]at hd;obtain⟨hd,hex⟩:=hd;obtain⟨A,c,Ru⟩:=hex trivial;rcases uX hd with⟨rfl,rfl⟩|⟨a,c',acr,h1,_,h2,h3,h4,h5⟩
 ·have:=qK (ty:=ty) (N:=N) g bz hB hN ht he hx hr (by omega) bm;simp_all
 ·rw[h1]at Ru;cases Ru;obtain⟨news,⟨h6,h7,hu⟩,hv⟩:=vX (g.sub bz) hx (hr.nQ bz);by_cases hy0:ys.length=0
  ·have hy:ys=[]:=abS hy0;have BC:xs=[]:=Em.resolve_left (by omega);subst BC;have LF:dI w e k.sz (.slice (some a) 0 0) 0 []:=⟨by simp,.inl ⟨rfl,_,rfl⟩⟩;refine⟨v,w,?_,oD g hB id e hN (vs:=[]) (cO.refl _ _ _) (fun _ _=>rfl) (by simp_all) (fun i x hx=>by simp_all) (fun b hb=>by grind [ob]) bm,by rw[h1];exact LF.one⟩;rw[h1];rw[hy0]at hu;rcases hu with⟨rfl,_⟩|⟨b,cu,rfl,_⟩<;>exact fB ht he.info _ _ _ (abX _) _ _
  rcases hu with⟨_,h0⟩|⟨b,cu,rfl,h8⟩
  ·omega
  ·have hb:=he.bytes;unfold eW at hm;have rI:(xs.length+ys.length)*i.bytes≤140737488355328:=ab0 (aeg hm hb) (by decide);obtain⟨v',w',c9,h9,pI⟩:=run_append_arg_grows (P:=P) w t ty e i z k.sz i.bytes ht he.info he.zero he.size rfl he.vW k.gu a xs.length xs.length acr h2 h3 b ys.length cu news h6 h8 (by omega) (by grind [maxLen]) rI;have kk:cO ψ h w w':=cO.grown pI (fun b e=>by cases e);have sm:=kk.same g;have h9':dI w' e k.sz v' (xs++ys).length (acr++news):=by rw[List.length_append];exact dI.of h9
   subst h1;refine⟨v',w',c9,oD g hB id e hN kk (fun b hb=>pI.block b (g.bO hb) (by simp)) h9' ((h5.append hv h2).BB sm) (fun b hb=>?_) bm,h9'.one⟩;rcases h9.2 with⟨e1,_⟩|⟨gg,cap,cur,e1,e2,_⟩
   ·omega
   grind [ob]
theorem vY:∀(vs:List Value) (k off:Nat) (cells:Array Value),(vs.zipIdx k).foldl (fun cs (p:Value×Nat)=>cs.setIfInBounds (off+p.2) p.1) cells=(dU cells.toList (off+k) vs).toArray
 |[],k,off,cells=>by simp[dU]
 |v::r,k,off,cells=>by simp only[List.zipIdx_cons,List.foldl_cons,dU];rw[vY r (k+1) off];simp[Nat.add_assoc]
theorem zr(V:Array Value)(off:Nat)(cells:Array Value) :
  V.zipIdx.foldl (fun cs (p:Value×Nat)=>cs.setIfInBounds (off+p.2) p.1) cells=(dU cells.toList off V.toList).toArray:=by
 rw[←Array.foldl_toList,Array.toList_zipIdx];simp_all [vY]
theorem uh{α:Type}:∀(vs cs:List α) (off:Nat),(dU cs off vs).length=cs.length
 |[],_,_=>rfl
 |v::r,cs,off=>by simp only[dU];rw[uh r];simp
theorem ar.dU:∀{vs cs:List AV} {us ds:List Value} (off:Nat),ar Z ψ h w vs us→ar Z ψ h w cs ds→ar Z ψ h w (dU cs off vs) (dU ds off us)
 |[],cs,us,ds,off,h1,h2=>by simp only[ar]at h1;subst h1;exact h2
 |v::r,cs,us,ds,off,h1,h2=>by simp only[ar]at h1;obtain⟨u,jh,rfl,h3,h4⟩:=h1;simp only[Vs.dU];exact ar.dU (off+1) h4 (h2.set off h3)
theorem az.cells{a:AV}{v:Value}(hk:a≠.no)(hr:az Z ψ h w a v):ar Z ψ h w a.cells v.cells.toList:=by
 cases a with
 |no=>exact absurd rfl hk
 |agg cs=>simp only[az]at hr;obtain⟨vs,rfl,hr⟩:=hr;simpa[AV.cells,Value.cells] using hr
 |bool b=>simp only[az]at hr;subst hr;simp[AV.cells,Value.cells,ar,az]
 |int k n=>simp only[az]at hr;subst hr;simp[AV.cells,Value.cells,ar,az]
 |str s=>simp only[az]at hr;subst hr;simp[AV.cells,Value.cells,ar,az]
 |lH=>simp only[az]at hr;subst hr;simp[AV.cells,Value.cells,ar,az]
 |fK=>simp only[az]at hr;subst hr;simp[AV.cells,Value.cells,ar,az]
 |ref id s i off=>obtain⟨a,rfl,h2⟩:=(by simpa only[az] using hr:∃a,v=.pointer (some a)∧_);simp only[AV.cells,Value.cells,ar];exact⟨_,[],by simp,hr,rfl⟩
 |fp k x off=>obtain⟨a,us,rfl,h2⟩:=(by simpa only[az] using hr:∃a us,v=.pointer (some a)∧_);simp only[AV.cells,Value.cells,ar];exact⟨_,[],by simp,hr,rfl⟩
 |sl ex k xs =>
  have sQ:=hr;simp only[az,aH]at sQ;obtain⟨⟨v',hv,A,c,rfl,_⟩,_⟩:=sQ
  cases hv
  simp only[AV.cells,Value.cells,ar];exact⟨_,[],by simp,hr,rfl⟩
 |bI id =>have sQ:=hr;simp only[az]at sQ;obtain⟨⟨hc,_⟩,_⟩:=sQ;simp only[AV.cells,ar,hc];exact⟨_,[],by simp,hr,rfl⟩
 |mp kk vk es =>
  have sQ:=hr;simp only[az,aH]at sQ;obtain⟨A,hv,_⟩:=sQ
  cases hv
  simp only[AV.cells,Value.cells,ar];exact⟨_,[],by simp,hr,rfl⟩
 |fn f cap =>have sQ:=hr;simp only[az]at sQ;obtain⟨vs,rfl,_⟩:=sQ;simp only[AV.cells,Value.cells,ar];exact⟨_,[],by simp,hr,rfl⟩
 |nM vs =>have sQ:=hr;simp only[az]at sQ;obtain⟨us,rfl,_⟩:=sQ;simp only[AV.cells,Value.cells,ar];exact⟨_,[],by simp,hr,rfl⟩
def uj(Z:Nat→Prop)(ψ:Nat→Value)(h:Hp)(w:World):List (Nat×AV)→List (Nat×Value)→Prop
 |[],[]=>True
 |p::r,q::s=>p.1=q.1∧p.2≠.no∧az Z ψ h w p.2 q.2∧uj Z ψ h w r s
 |_,_=>False
theorem IQ{place:Nat→Option (Nat×Nat)}:∀{ps:List (Nat×AV)} {qs:List (Nat×Value)} {cs cs':List AV} {cells:Array Value},uj Z ψ h w ps qs→ar Z ψ h w cs cells.toList→Fg place cs ps=some cs' → ∃fY,Instr.fill place cells qs=some fY∧ar Z ψ h w cs' fY.toList
 |[],[],cs,cs',cells,_,hr,hf=>by simp only[Fg]at hf;cases hf;exact⟨cells,rfl,hr⟩
 |[],_::_,_,_,_,hp,_,_=>hp.elim
 |_::_,[],_,_,_,hp,_,_=>hp.elim
 |(i,a)::ps,(j,v)::qs,cs,cs',cells,hp,hr,hf=>by
  obtain⟨rfl,uY,hv,hp⟩:=hp;simp only[Fg]at hf;simp only at uY hv;have Ru:=hv.cells uY;have hl:=Ru.length;have Aq:=hr.length;simp only[Array.length_toList]at hl Aq;simp only[Instr.fill]
  split at hf
  ·cases hf
  ·rename_i off size Wc;simp only[Wc]
   split at hf
   ·cases hf
   ·rename_i hc;have hc1:a.cells.length=size:=Decidable.not_not.1 (fun e=>hc (.inl e));have oE:¬off+a.cells.length>cs.length:=fun e=>hc (.inr e);rw[if_neg (by simp_all)];refine IQ hp ?_ hf;rw[zr,List.toList_toArray];exact Ru.dU off hr
theorem RS(fs:Array Field)(hi:∀f∈fs.toList,∃i,P.info? f.type=some i):(fs.mapM fun f=>do pure (f.offset,←sizeOf f.type):Sem (Array (Nat×Nat))).run P w=.ok (fs.map fun f=>(f.offset,P.cellsOf f.type)) w:=by
 rw[←Array.toArray_toList (xs:=fs)];generalize fs.toList=l at hi;have key:∀(l:List Field) (acc:Array (Nat×Nat)),(∀f∈l,∃i,P.info? f.type=some i) →(l.foldlM (fun(bs:Array (Nat×Nat)) f=>do let y ←(do pure (f.offset,←sizeOf f.type):Sem (Nat×Nat));pure (bs.push y)) acc:Sem (Array (Nat×Nat))).run P w=.ok (acc++(l.map fun f=>(f.offset,P.cellsOf f.type)).toArray) w:=by
  intro l
  induction l with
  |nil=>simp_all
  |cons f r ih =>simp_all [List.foldlM_cons,Sem.run_bind,dx,Result.andThen_ok,Sem.run_pure,List.mem_cons_of_mem]
 simp_all [Array.mapM_eq_foldlM,List.size_toArray,List.foldlM_toArray']
theorem GY(v:Value):az Z ψ h w (xH v) v:=by
 cases v with
 |bool b=>simp only[xH,az]
 |int k n=>simp only[xH,az]
 |string s=>simp only[xH,az]
 |pointer a =>
  simp only[xH];split
  ·rename_i e;subst e;simp only[az]
  ·simp only[az]
 |slice a n c =>
  simp only[xH];split
  ·rename_i e;obtain⟨rfl,rfl,rfl⟩:=e;simp only[az]
  ·simp only[az]
 |func fn first cap =>
  cases fn with
  |func f =>
   simp only[xH];split
   ·rename_i e;have h1:first=#[]:=ac2 e.1
    have h2:cap=#[]:=ac2 e.2;subst h1;subst h2;simp only[az];exact⟨#[],rfl,by simp[ar]⟩
   ·simp only[az]
  |_=>simp only[xH,az]
 |_=>simp only[xH,az]
theorem BE:∀vs:List Value,ar Z ψ h w (vs.map xH) vs
 |[]=>by simp[ar]
 |v::r=>by simp only[List.map_cons,ar];exact⟨v,r,rfl,GY v,BE r⟩
theorem IS(v:Value):az Z ψ h w (uO v) v:=by
 cases v with
 |agg cs=>simp only[uO,az];exact⟨cs,rfl,BE _⟩
 |_=>simp only[uO];exact GY _
theorem Fp(v:Value):(xH v).cells=[xH v]:=by
 cases v with
 |pointer a=>simp only[xH];split<;>rfl
 |slice a n c=>simp only[xH];split<;>rfl
 |func fn first cap =>
  cases fn with
  |func f=>simp only[xH];split<;>rfl
  |_=>rfl
 |_=>rfl
theorem BF(v:Value):ar Z ψ h w (uO v).cells v.cells.toList:=by
 cases v with
 |agg cs=>grind [uO,AV.cells,Value.cells,BE]
 |_ =>simp only[uO];rw[Fp];simp only[ar];exact⟨_,[],rfl,GY _,rfl⟩
theorem pT{t:TypeId}{zs:List AV}(hz:Bi P t=some zs):∃i z,P.info? t=some i∧i.zero=some z∧zs=(uO z).cells∧∀u∈z.cells.toList,u.oneCell'=true:=by
 unfold Bi at hz;obtain⟨i,hi,zt⟩:=ab6.1 hz;obtain⟨z,Ee,Ph⟩:=ab6.1 zt
 grind
theorem rJ{t:TypeId}{i:TypeInfo}{z:Value}(hi:P.info? t=some i)(hz:i.zero=some z):(zeroValue t).run P w=.ok z w:=by simp[zeroValue,typeInfo,hi,hz]
theorem Pj{t:TypeId}{fs:Array Field}{zs cs:List AV}{ps:List (Nat×AV)}{qs:Array (Nat×Value)}(hz:Bi P t=some zs)(ht:P.underlying t=some (.struct fs))(jA:fs.toList.all (fun f=>(P.info? f.type).isSome)=true) (hp:uj Z ψ h w ps qs.toList) (hf:Fg (fun i=>(fs[i]?).map fun f=>(f.offset,P.cellsOf f.type)) zs ps=some cs) :
  ∃V,(Instr.build t qs).run P w=.ok V w∧az Z ψ h w (.agg cs) V:=by
 obtain⟨i,z,hi,hzz,rfl,_⟩:=pT hz;obtain⟨fY,h1,h2⟩:=IQ hp (BF z) hf;have Wc:=RS (P:=P) (w:=w) fs (fun f hf=>abY.1 (ab7.1 jA f hf));refine⟨.agg fY,?_,by simp only[az];exact⟨_,rfl,h2⟩⟩;have We:Instr.fill (fun x=>(fs.map fun f=>(f.offset,P.cellsOf f.type))[x]?) z.cells qs.toList=some fY:=by rw[←h1];congr 1;funext x;simp
 simp only[Instr.build,Sem.run_bind,rJ hi hzz,run_underlying ht,Result.andThen_ok,Wc,We];rfl
theorem LG:∀(k:K) (cs:List AV) (x:k.T) (r:List AV),dec k cs=some (x,r)→cs.head?≠some .no
 |.int ik,cs,x,r,h,hc=>by
  cases cs with
  |nil=>simp at hc
  |cons a s=>simp at hc;subst hc;simp[dec,GN]at h
 |.bool,cs,x,r,h,hc=>by
  cases cs with
  |nil=>simp at hc
  |cons a s=>simp at hc;subst hc;simp[dec,AE]at h
 |.str,cs,x,r,h,hc=>by
  cases cs with
  |nil=>simp at hc
  |cons a s=>simp at hc;subst hc;simp[dec,GO]at h
 |.sl k,cs,x,r,h,hc=>by
  cases cs with
  |nil=>simp at hc
  |cons a s=>simp at hc;subst hc;simp[dec,Ng]at h
 |.pair a b,cs,x,r,h,hc=>by
  simp only[dec]at h
  split at h
  ·rename_i x1 r1 h1;exact LG a cs x1 r1 h1 hc
  ·cases h
 |.one k,cs,x,r,h,hc=>by simp only[dec]at h;exact LG k cs x r h hc
 |.mp kk vk,cs,x,r,h,hc=>by
  cases cs with
  |nil=>simp at hc
  |cons a s=>simp at hc;subst hc;simp[dec,Nh]at h
 |.fn f,cs,x,r,h,hc=>by
  cases cs with
  |nil=>simp at hc
  |cons a s=>simp at hc;subst hc;simp[dec,Nj]at h
theorem Fq{k:K}{hh:Heap}{a:AV}{x:k.T}(h:dr k (a.cells.map (cV hh))=some x):a≠.no:=by
 rintro rfl;unfold dr at h
 split at h
 ·rename_i x' h1;exact LG k _ _ _ h1 (by rfl)
 ·cases h
theorem IT{k:K}{hh:Heap}(g:Good Z ψ hh.get w B0 O)(hz:∀b,Z b→Z' b):∀{ps:List (Nat×AV)} {qs:List (Nat×Value)} {xs:List k.T} {i:Nat} {cells:Array Value},(∀p∈ps,∀id b,AV.bI id∈p.2.cells→hh.get id≠none→ob (ψ id)=some b→Z' b)→uj Z ψ hh.get w ps qs→rC k hh i ps=some xs→(i+ps.length)*k.sz≤cells.size → ∃fY flat,Instr.fill (fun i=>some (i*k.sz,k.sz)) cells qs=some fY∧fY.toList=cells.toList.take (i*k.sz)++flat++cells.toList.drop ((i+ps.length)*k.sz)∧flat.length=ps.length*k.sz∧kL Z' w k xs flat∧(∀q∈flat,q.oneCell'=true)∧xs.length=ps.length
 |[],[],xs,i,cells,_,_,hl,_=>by simp only[rC]at hl;cases hl;exact⟨cells,[],rfl,by simp,by simp,fun i x hx=>by simp at hx,by simp,rfl⟩
 |[],_::_,_,_,_,_,hp,_,_=>hp.elim
 |_::_,[],_,_,_,_,hp,_,_=>hp.elim
 |(j,a)::ps,(j',v)::qs,xs,i,cells,hb,hp,hl,hs=>by
  obtain⟨hjj,uY,hv,hp⟩:=hp;simp only at hjj uY hv;subst hjj;simp only[rC]at hl
  split at hl
  ·rename_i e;subst e
   split at hl
   ·rename_i y ys h1 h2
    cases hl
    simp only[List.length_cons]at hs;have Ru:=hv.cells uY;have hvw:=oy g hz (hb (j,a) (by simp)) Ru;have hk:=dK h1 hvw;have Wg:=hk.len;rw[Array.length_toList]at Wg;have iH:j*k.sz+k.sz≤cells.size:=by have:(j+1)*k.sz≤(j+(ps.length+1))*k.sz:=abV _ (by omega);rw[Nat.succ_mul]at this;omega
    simp only[Instr.fill];rw[if_neg (by simp only[Bool.or_eq_true,decide_eq_true_eq];omega),zr];obtain⟨fY,flat,h3,h4,h5,h6,h7,h8⟩:=IT g hz (ps:=ps) (qs:=qs) (xs:=ys) (i:=j+1) (cells:=(dU cells.toList (j*k.sz) v.cells.toList).toArray) (fun p hp=>hb p (abq _ hp)) hp h2 (by rw[List.size_toArray,uh];have e9:cells.toList.length=cells.size:=Array.length_toList;rw[e9,show j+1+ps.length=j+(ps.length+1) by omega];exact hs);refine⟨fY,v.cells.toList++flat,h3,?_,?_,?_,?_,by simp[h8]⟩
    ·rw[h4,List.toList_toArray,sR _ _ _ (by rw[Array.length_toList,Array.length_toList];omega)];have e1:(j+1)*k.sz=j*k.sz+k.sz:=aee _ _;have e2:(j+1+ps.length)*k.sz=(j+(ps.length+1))*k.sz:=by congr 1;omega
     rw[List.length_cons,e1,e2];have l1:(cells.toList.take (j*k.sz)++v.cells.toList).length=j*k.sz+k.sz:=by rw[List.length_append,List.length_take,Array.length_toList,Array.length_toList];omega
     rw[←l1,List.take_left];have l2:(j+(ps.length+1))*k.sz=(cells.toList.take (j*k.sz)++v.cells.toList).length+(ps.length*k.sz):=by rw[l1,Nat.add_mul,Nat.add_mul];omega
     have hd:(cells.toList.take (j*k.sz)++v.cells.toList++cells.toList.drop (j*k.sz+v.cells.toList.length)).drop ((j+(ps.length+1))*k.sz)=cells.toList.drop ((j+(ps.length+1))*k.sz):=by rw[l2,List.drop_append,List.drop_eq_nil_of_le (by omega),List.nil_append,Nat.add_sub_cancel_left,List.drop_drop];congr 1;rw[l1,Array.length_toList];omega
     rw[hd];simp[List.append_assoc]
    ·rw[List.length_append,h5,Array.length_toList,Wg,List.length_cons,Nat.succ_mul];omega
    ·intro n x hx
     cases n with
     |zero =>
      simp only[List.getElem?_cons_zero,Option.some.injEq]at hx;subst hx;have aab:v.cells.toList.length=k.sz:=by rw[Array.length_toList];exact Wg
      rw[Nat.zero_mul,List.drop_zero,←aab,List.take_left];exact hk
     |succ n =>
      have:=h6 n x (by simpa using hx);have aab:v.cells.toList.length=k.sz:=by rw[Array.length_toList];exact Wg
      have e:(n+1)*k.sz=v.cells.toList.length+n*k.sz:=by rw[aab,Nat.succ_mul];omega
      rw[e,List.drop_append,List.drop_eq_nil_of_le (by omega),List.nil_append,Nat.add_sub_cancel_left];exact this
    ·intro q hq;rcases abU.1 hq with hq|hq
     ·exact hk.one q hq
     ·exact h7 q hq
   ·cases hl
  ·cases hl
theorem Next.drop{Z1:Nat→Prop}{h1:Hp}(n:Next Z1 ψ h1 w B0 O N Z' ψ' h' w')(hz:∀b,Z b→Z1 b)(zt:∀b,Z1 b→Z b∨Own ψ h b)(bz:∀id o,h1 id=some o→h id=some o):Next Z ψ h w B0 O N Z' ψ' h' w':=by
 have hn:∀id,h1 id≠none→h id≠none:=fun id hn=>by obtain⟨o,ho⟩:=abQ.1 hn;simp_all
 have ho:∀b,Own ψ h1 b→Own ψ h b:=fun b ⟨id,h2,h3⟩=>⟨id,hn id h2,h3⟩;refine⟨fun b hb=>n.fX b (hz b hb),fun b hb=>?_,⟨n.keep.os,n.keep.tape,n.keep.output,n.keep.size,fun b hb uY=>n.keep.block b hb (fun h=>uY (ho b h))⟩,fun id bL=>(n.ids id bL).imp (fun⟨h2,h3⟩=>⟨hn id h2,h3⟩) (fun h=>h),n.dn⟩;rcases n.eO b hb with h2|h2|h2
 ·grind
 ·simp_all
 omega
theorem uj.nQ{h h':Hp}(hs:∀id o,h' id=some o→h id=some o):∀{ps:List (Nat×AV)} {qs:List (Nat×Value)},uj Z ψ h w ps qs→uj Z ψ h' w ps qs:=by
 intro ps
 induction ps with
 |nil=>intro qs hp;cases qs with
  |nil=>trivial
  |cons q r=>exact hp.elim
 |cons p r ih=>intro qs hp;cases qs with
  |nil=>exact hp.elim
  |cons q s=>exact⟨hp.1,hp.2.1,hp.2.2.1.nQ hs,ih hp.2.2.2⟩
theorem IU{hh:Heap}{Z1:Nat→Prop}(g:Good Z1 ψ h w B0 O)(g0:Good Z ψ hh.get w B0 O)(hz:∀b,Z b→Z1 b)(hB:B0≤w.heap.size){id:Nat}(hN:N id){t e:TypeId}{k:K}{i:TypeInfo}{z:Value}(ht:P.underlying t=some (.slice e))(he:nP P e k i z) {ps:List (Nat×AV)} {qs:Array (Nat×Value)} {xs:List k.T} (hos:∀p∈ps,∀id b,AV.bI id∈p.2.cells→hh.get id≠none→ob (ψ id)=some b→Z1 b) (hp:uj Z ψ hh.get w ps qs.toList) (hl:rC k hh 0 ps=some xs) (hn:ps.length*k.sz≤1048576) (bm:∀i ty cs,h i=some (.box ty cs)→aA (fun i=>i≠id) cs) :
  ∃v' w',(Instr.buildSlice t ps.length qs).run P w=.ok v' w'∧Next Z1 ψ h w B0 O N Z1 (dS ψ id v') (dS h id (some (.own (.row e k) xs))) w'∧(v'.cells=#[v']∧v'.oneCell'=true)∧(∀b,Own ψ h b→w'.heap[b]? = w.heap[b]?)∧(∀b,ob v'=some b→w.heap.size≤b)∧∃A c,v'=.slice A c c:=by
 let No:Array Value:=(Array.range (ps.length*k.sz)).map (z.cells[· % z.cells.size]!)
 have Iu:No.size=ps.length*k.sz:=by simp[No]
 obtain⟨fY,flat,h1,h2,h3,h4,h5,h6⟩:=IT (Z':=Z1) g0 hz (ps:=ps) (qs:=qs.toList) (xs:=xs) (i:=0) (cells:=No) hos hp hl (by simp_all);have alZ:fY.toList=flat:=by simp_all
 have LH:fY.size=ps.length*k.sz:=by grind
 have Em:=k.gu;have hlen:ps.length≤1048576:=ab0 (Nat.le_mul_of_pos_right _ Em) hn;have q8:(w.alloc (.cells fY e)).ownsRow 0 e k.sz (.slice (some ⟨w.heap.size,0,none⟩) ps.length ps.length) xs.length flat:=by have:=World.ownsRow_lit (base:=0) (e:=e) (size:=k.sz) w fY ps.length (acg _) (by grind [maxLen]) LH;simp_all
 refine⟨.slice (some ⟨w.heap.size,0,none⟩) ps.length ps.length,w.alloc (.cells fY e),?_,oD g hB id e hN (vs:=flat) (cO.alloc _ _ _ _) (fun b hb=>heap_alloc_old w _ (g.bO hb)) (dI.of q8) (h4.BB ((cO.alloc ψ h w _).same g)) (fun b hb=>by simp_all [ob,Nat.le_refl]) bm,(dI.of q8).one,fun b hb=>heap_alloc_old w _ (g.bO hb),fun b hb=>by simp_all [ob,Nat.le_refl],_,_,rfl⟩
 ·show _=Result.ok (Value.slice (some ⟨w.heap.size,0,none⟩) ps.length ps.length) _;have BG:¬ps.length*k.sz>2 ^ 24:=by omega
  have hc:P.cellsOf e=k.sz:=by simp[Program.cellsOf,he.info,he.size]
  simp only[Instr.buildSlice,Sem.run_bind,run_underlying ht,Result.andThen_ok,dx he.info,hc];rw[if_neg BG];have BH:(newRow e fY).run P w=.ok ⟨w.heap.size,0,none⟩ (w.alloc (.cells fY e)):=rfl;by_cases h0:ps.length*k.sz=0
  ·simp_all [Array.eq_empty_of_size_eq_zero,Array.range,if_pos,Sem.run_pure,Result.andThen_ok,Sem.run_bind]
  ·rw[if_neg h0];simp only[Sem.run_bind,rJ he.info he.zero,Result.andThen_ok,Sem.run_pure];rw[show(Array.range (ps.length*k.sz)).map (fun x=>z.cells[x%z.cells.size]!)=No from rfl,h1];rfl
theorem RT(g:Good Z ψ h w B0 O)(hB:B0≤w.heap.size){id:Nat}{e:TypeId}{k:K}{xs:List k.T}{v':Value}(n:Next Z ψ h w B0 O N Z (dS ψ id v') (dS h id (some (.own (.row e k) xs))) w') (uf:∀b,Own ψ h b→w'.heap[b]? = w.heap[b]?) (BH:∀b,ob v'=some b→w.heap.size≤b) (hex:∃A c,v'=.slice A c c) :
  Next Z ψ h w B0 O N (fun b=>Z b∨ob v'=some b) ψ h w'∧az (fun b=>Z b∨ob v'=some b) ψ h w' (.sl true k xs) v':=by
 have oz:jz Z w' (.row e k) v' xs:=by
  have:=n.dn.row id (.row e k) xs (ba _ _ _)
  rwa [ba]at this
 obtain⟨vs,ho,hv⟩:=oz;have m:Next Z ψ h w B0 O (fun _=>False) Z ψ h w':=g.more n.keep uf (fun _ _=>⟨rfl,rfl⟩) (fun i ty cs hb=>by
  grind [aA.top]) (fun _ _ _ h=>h.elim) (fun _ _ _ h=>h.elim) (fun _ _ h=>h.elim) (fun _ _ _ h=>h.elim) hB
 have hz:∀b,Z b→Z b∨ob v'=some b:=fun b h=>.inl h;refine⟨⟨hz,fun b hb=>hb.imp (fun h=>h) fun h=>.inr (BH b h),m.keep,fun i hi=>.inl ((m.ids i hi).resolve_right (fun h=>h)),⟨fun i ty cs hb=>?_,fun i ok x hb=>?_,fun i b h1 h2=>?_,m.dn.apart,fun b hb=>?_⟩⟩,?_⟩
 ·obtain⟨gg,vs,f1,f2,f3,f4⟩:=m.dn.box i ty cs hb;exact⟨gg,vs,f1,f2,ar.less hz (cm.refl _ _) (fun _ h=>⟨h,rfl⟩) f3,f4⟩
 ·exact(m.dn.row i ok x hb).kept hz (cm.refl _ _) (fun _ _=>rfl)
 ·obtain⟨k1,k2⟩:=m.dn.live i b h1 h2;refine⟨fun hb=>hb.elim k1 fun hb=>?_,k2⟩;have:=g.bO ⟨i,h1,h2⟩
  grind
 ·rcases hb with hb|hb
  ·exact m.dn.j7 b hb
  ·exact jz.lt (ok:=.row e k) ⟨vs,ho,hv⟩ hb
 grind [az,vT]
end Go.Vs
