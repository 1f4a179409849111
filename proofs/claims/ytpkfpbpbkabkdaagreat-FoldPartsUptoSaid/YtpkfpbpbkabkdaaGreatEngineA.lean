/- The value semantics of the -/
import Derived.Control
import Derived.Calls
import Derived.Orders
import GoSem.Machine.Frame
import Derived.Laws.AppendOwn
import GoSem.Core.Utf8
import Derived.Below
import Derived.Laws.OwnMore
import Derived.Laws.Rows
import Derived.Deep.Draws
import Derived.Laws.CopyRow
import Derived.Laws.Cells
import Derived.Laws.Sem
import Derived.Maps.AppendAt
import Derived.ArgAppend
import Derived.WalkKit
namespace Go
abbrev abq:=@List.mem_cons_of_mem
abbrev abr:=@List.getElem?_eq_some_iff
abbrev abv:=@List.getElem?_eq_getElem
abbrev abw:=@List.mem_cons
abbrev abx:=@List.mem_append_right
abbrev abK:=@List.mem_append_left
abbrev abX:=@Array.getElem?_eq_some_iff
abbrev abZ:=@List.mem_cons_self
abbrev ab0:=@List.mem_append
abbrev ab5:=@Option.some.inj
abbrev ab6:=@List.nodup_cons
abbrev ace:=@List.eq_nil_of_length_eq_zero
abbrev acf:=@Option.ne_none_iff_exists'
abbrev acn:=@Nat.le_refl
abbrev acs:=@Nat.mul_le_mul_right
abbrev acv:=@Option.isSome_iff_exists
abbrev acx:=@List.mem_map
abbrev acy:=@List.mem_of_getElem?
abbrev acz:=@Array.getElem?_eq_getElem
abbrev acB:=@Nat.le_trans
abbrev acC:=@List.getElem_mem
abbrev acD:=@List.rel_of_pairwise_cons
abbrev acH:=@List.all_eq_true
abbrev ac6:=@Option.bind_eq_some_iff
abbrev ac7:=@Option.map_eq_some_iff
abbrev ada:=@List.Perm.append_right
abbrev adj:=@List.mem_of_find?_eq_some
abbrev adI:=@List.length_filter_le
abbrev adJ:=@List.mem_range
abbrev adK:=@List.nodup_append
abbrev adL:=@Nat.lt_of_lt_of_le
abbrev adM:=@List.append_of_mem
abbrev adN:=@List.mem_flatten
abbrev adO:=@Nat.zero_le
abbrev adP:=@List.find?_some
abbrev adQ:=@List.ext_getElem?
abbrev adR:=@List.perm_middle
abbrev adS:=@Array.mem_of_getElem?
abbrev adT:=@Array.all_eq_true_iff_forall_mem
abbrev adU:=@Array.eq_empty_of_size_eq_zero
abbrev adV:=@List.countP_le_length
abbrev adW:=@List.mem_of_mem_drop
abbrev adX:=@List.getElem?_of_mem
abbrev adY:=@List.getElem_of_mem
abbrev adZ:=@List.length_pos_of_mem
abbrev ad0:=@List.perm_append_comm
abbrev ad1:=@List.pairwise_iff_getElem
abbrev ad2:=@List.mem_of_mem_take
abbrev ad3:=@Nat.lt_or_ge
abbrev ad4:=@List.mem_filter
abbrev ad5:=@List.findIdx?_eq_some_iff_getElem
abbrev ad6:=@List.ne_nil_of_mem
abbrev ad7:=@List.Perm.refl
abbrev ad9:=@List.Pairwise.of_cons
abbrev aea:=@List.mem_of_mem_erase
abbrev aeb:=@List.mem_iff_getElem
abbrev aec:=@List.mem_erase_of_ne
abbrev aed:=@List.map_congr_left
abbrev aee:=@List.drop_eq_getElem_cons
abbrev aef:=@Nat.succ_mul
abbrev aeg:=@List.mem_filterMap
abbrev aeh:=@Nat.mul_le_mul
end Go
namespace Go.Vs
inductive K where
 |int (k:IntKind)|bool|str|sl (k:K)|pair (a b:K)|one (k:K)|mp (kk vk:K)|fn (f:Nat)
 deriving DecidableEq
def K.T:K→Type
 |.int _=>Int
 |.bool=>Bool
 |.str=>ByteArray
 |.sl k=>List k.T
 |.pair a b=>a.T×b.T
 |.one k=>k.T
 |.mp kk vk=>List (kk.T×vk.T)
 |.fn _=>Unit
def K.sz:K→Nat
 |.pair a b=>a.sz+b.sz
 |.one k=>k.sz
 |_=>1
def o8(P:Program):Nat→TypeId→Option K
 |0,_=>none
 |d+1,t =>
  match P.underlying t with
  |some (.int k)=>some (.int k)
  |some .bool=>some .bool
  |some .string=>some .str
  |some (.slice e)=>(o8 P d e).map .sl
  |some (.map a b)=>match o8 P d a,o8 P d b with
   |some x,some y=>some (.mp x y)
   |_,_=>none
  |some (.struct fs) =>
   match (fs.toList.map fun f=>o8 P d f.type).reverse with
   |[]=>none
   |[k]=>k.map .one
   |last::rest=>rest.foldl (fun acc k=>match k,acc with|some k,some a=>some (.pair k a)|_,_=>none) last
  |_=>none
def K.flat:K→Bool
 |.sl _=>false
 |.mp _ _=>false
 |.fn _=>false
 |.pair a b=>a.flat&&b.flat
 |.one k=>k.flat
 |_=>true
def K.isAgg:K→Bool
 |.pair _ _=>true
 |.one _=>true
 |_=>false
inductive AV where
 |no
 |bool (b:Bool)
 |int (k:IntKind) (n:Int)
 |str (s:ByteArray)
 |lq
 |fm
 |ref (id s i off:Nat)
 |fp (k:K) (x:k.T) (off:Nat)
 |sl (ex:Bool) (k:K) (xs:List k.T)
 |mp (kk vk:K) (es:List (kk.T×vk.T))
 |bC (id:Nat)
 |fn (f:FuncId) (cap:List AV)
 |agg (cs:List AV)
 |nF (vs:List AV)
def AV.isAgg:AV→Bool
 |.agg _=>true
 |_=>false
def AV.cells:AV→List AV
 |.agg cs=>cs
 |v=>[v]
def enc:(k:K)→k.T→List AV
 |.int ik,n=>[.int ik n]
 |.bool,b=>[.bool b]
 |.str,s=>[.str s]
 |.sl k,xs=>[.sl false k xs]
 |.mp kk vk,es=>[.mp kk vk es]
 |.fn f,_=>[.fn f []]
 |.pair a b,x=>enc a x.1++enc b x.2
 |.one k,x=>enc k x
def Ff(ik:IntKind):List AV→Option (Int×List AV)
 |.int Y5 n::r=>if Y5=ik then some (n,r) else none
 |_=>none
def zx:List AV→Option (Bool×List AV)
 |.bool b::r=>some (b,r)
 |_=>none
def Fg:List AV→Option (ByteArray×List AV)
 |.str s::r=>some (s,r)
 |_=>none
def LI(k:K):List AV→Option (List k.T×List AV)
 |.sl _ k' xs::r=>if h:k'=k then some (h▸xs,r) else none
 |.fm::r=>some ([],r)
 |_=>none
def LJ(kk vk:K):List AV→Option (List (kk.T×vk.T)×List AV)
 |.mp LK TT es::r=>if h:LK=kk∧TT=vk then some (h.1▸h.2▸es,r) else none
 |_=>none
def LL(f:FuncId):List AV→Option (Unit×List AV)
 |.fn f' []::r=>if f'=f then some ((),r) else none
 |_=>none
def dec:(k:K)→List AV→Option (k.T×List AV)
 |.int ik,cs=>Ff ik cs
 |.bool,cs=>zx cs
 |.str,cs=>Fg cs
 |.sl k,cs=>LI k cs
 |.mp kk vk,cs=>LJ kk vk cs
 |.fn f,cs=>LL f cs
 |.pair a b,cs =>
  match dec a cs with
  |some (x,r)=>match dec b r with
   |some (y,r')=>some ((x,y),r')
   |none=>none
  |none=>none
 |.one k,cs=>dec k cs
def dg(k:K)(cs:List AV):Option k.T :=match dec k cs with
 |some (x,[])=>some x
 |_=>none
def b5:(k:K)→k.T→AV
 |.pair a b,x=>.agg (enc (.pair a b) x)
 |.one k,x=>.agg (enc (.one k) x)
 |.int ik,n=>.int ik n
 |.bool,b=>.bool b
 |.str,s=>.str s
 |.sl k,xs=>.sl false k xs
 |.mp kk vk,es=>.mp kk vk es
 |.fn f,_=>.fn f []
inductive OK where
 |row (ty:TypeId) (k:K)|map (kk vk:K)|iter (kk vk:K)|nX
 deriving DecidableEq
abbrev OK.T:OK→Type
 |.row _ k=>List k.T
 |.map kk vk=>List (kk.T×vk.T)
 |.iter kk vk=>Option (kk.T×vk.T)×List (kk.T×vk.T)
 |.nX=>ByteArray×Nat
inductive Ob where
 |box (ty:TypeId) (cs:List AV)
 |own (ok:OK) (x:ok.T)
abbrev Heap:=List (Nat×Ob)
def Heap.get:Heap→Nat→Option Ob
 |[],_=>none
 |(i,o)::r,n=>if i=n then some o else Heap.get r n
def Heap.del:Heap→Nat→Heap
 |[],_=>[]
 |(i,o)::r,n=>if i=n then Heap.del r n else(i,o)::Heap.del r n
def Heap.set(h:Heap)(n:Nat)(o:Ob):Heap:=(n,o)::h.del n
def cG(h:Heap):AV→AV
 |.bC id=>match h.get id with
  |some (.own (.row _ k) xs)=>.sl false k xs
  |some (.own (.map kk vk) es)=>.mp kk vk es
  |_=>.no
 |v=>v
def drop1(h:Heap):AV→Heap
 |.bC id=>h.del id
 |_=>h
def cC(h:Heap):List AV→Heap
 |[]=>h
 |c::r=>cC (drop1 h c) r
structure St where
 tmps:List (Nat×AV)
 heap:Heap
def look:List (Nat×AV)→Nat→AV
 |[],_=>.no
 |(i,v)::r,n=>if i=n then v else look r n
def St.put(s:St)(d:Option Tmp)(v:AV):St :=match d with
 |some d=>{ s with tmps:=(d,v)::s.tmps }
 |none=>s
def wL:Value→AV
 |.bool b=>.bool b
 |.int k n=>.int k n
 |.string s=>.str s
 |.pointer a=>if a=none then .lq else .no
 |.slice a n c=>if a=none∧n=0∧c=0 then .fm else .no
 |.func fn first cap=>match fn with
  |.func f=>if first.size=0∧cap.size=0 then .fn f [] else .no
  |_=>.no
 |_=>.no
def tX(v:Value):AV :=match v with
 |.agg cs=>.agg (cs.toList.map wL)
 |v=>wL v
def ρ(s:List (Nat×AV)):Operand→AV
 |.tmp t=>look s t
 |.const v=>tX v
 |.global _=>.no
 |.func f=>.fn f []
inductive bq where
 |val (v:AV)
 |new (v:AV) (os:Heap)
 |wr (v:AV) (h:Heap)
def bq.v:bq→AV
 |.val v=>v
 |.new v _=>v
 |.wr v _=>v
def bq.h(h:Heap):bq→Heap
 |.val _=>h
 |.new _ os=>os++h
 |.wr _ h'=>h'
inductive CK where
 |val (k:K)
 |own (ok:OK)
inductive PK where
 |val (k:K)
 |ref
 |own
 |tg (f:FuncId) (n:Nat)
 |agg (n:Nat)
inductive RK where
 |val (k:K)
 |own (ok:OK)
 |eI (b:Nat) (alts:List (Nat×Nat×Nat))
 |agg (c:List CK)
inductive BK where
 |box (ty:TypeId) (de:List CK)
 |own (ok:OK)
def BK.de:BK→List CK
 |.box _ c=>c
 |.own _=>[]
def CK.T:CK→Type
 |.val k=>k.T
 |.own ok=>ok.T
def qO:List CK→Type
 |[]=>Unit
 |c::r=>c.T×qO r
abbrev BK.T:BK→Type
 |.box _ c=>qO c
 |.own ok=>ok.T
def wM:List BK→Type
 |[]=>Unit
 |b::r=>b.T×wM r
def GR:List K→Type
 |[]=>Unit
 |k::r=>k.T×GR r
def RK.T:RK→Type
 |.val k=>k.T
 |.own ok=>ok.T
 |.eI _ alts=>Option (Fin alts.length×Nat)
 |.agg c=>qO c
def lQ:List RK→Type
 |[]=>Unit
 |r::l=>r.T×lQ l
def k0:List PK→List K
 |[]=>[]
 |.val k::r=>k::k0 r
 |_::r=>k0 r
structure aO where
 ps:List PK
 bs:List BK
 rs:List RK
 x:Option (Heap→Nat→List AV→Option (Bool×bq)):=none
abbrev aO.A(g:aO):Type:=GR (k0 g.ps)×wM g.bs
abbrev aO.B(g:aO):Type:=lQ g.rs×wM g.bs
def RK.plain:RK→Bool
 |.val _=>true
 |.own ..=>true
 |.eI ..=>false
 |.agg c=>decide (c.length≤16)
def RK.flat:RK→Bool
 |.val k=>k.flat
 |.own (.row _ k)=>k.flat
 |.own _=>false
 |.eI ..=>true
 |.agg _=>false
section
variable (P:Program)
def JO:TypeDesc→Bool
 |.struct _=>true
 |.array _ _=>true
 |_=>false
def DX(t:TypeId):Option Bool:=(P.underlying t).map JO
def gZ(t:TypeId)(f:Nat):Option (Nat×TypeId) :=match P.underlying t with
 |some (.struct fs)=>(fs[f]?).map fun x=>(x.offset,x.type)
 |_=>none
def qP(t:TypeId):Option TypeId :=match P.underlying t with
 |some (.slice e)=>some e
 |_=>none
def Aq(t:TypeId):Option (List AV):=(P.info? t).bind fun i=>i.zero.bind fun z=>if z.cells.toList.all (·.oneCell') then some (tX z).cells else none
def dV(t:TypeId)(cs:List AV):Option AV :=match DX P t with
 |some true=>if P.cellsOf t≤cs.length then some (.agg (cs.take (P.cellsOf t))) else none
 |some false=>match cs with
  |c::_=>some c
  |[]=>none
 |none=>none
def dQ{α:Type}(cs:List α):Nat→List α→List α
 |_,[]=>cs
 |off,v::r=>dQ (cs.set off v) (off+1) r
def DY(place:Nat→Option (Nat×Nat))(cs:List AV):List (Nat×AV)→Option (List AV)
 |[]=>some cs
 |(i,v)::r =>
  match place i with
  |none=>none
  |some (off,size)=>if v.cells.length≠size∨off+v.cells.length>cs.length then none else DY place (dQ cs off v.cells) r
def eT(op:BinOp)(k:IntKind)(a b:Int):Int :=k.wrap ((match op with
  |.and=>BitVec.ofInt k.bits a &&& BitVec.ofInt k.bits b
  |.or=>BitVec.ofInt k.bits a ||| BitVec.ofInt k.bits b
  |.xor=>BitVec.ofInt k.bits a ^^^ BitVec.ofInt k.bits b
  |_=>BitVec.ofInt k.bits a &&& ~~~(BitVec.ofInt k.bits b)).toNat:Int)
def Zx(k:IntKind)(a b:Int):Int:=k.wrap (a*2 ^ (min b.toNat k.bits))
def gQ(k:IntKind)(a b:Int):Int:=a.fdiv (2 ^ (min b.toNat k.bits))
def Xi(op:BinOp)(k:IntKind)(a b:Int):Option AV :=match op with
 |.add=>some (.int k (k.wrap (a+b)))
 |.sub=>some (.int k (k.wrap (a-b)))
 |.mul=>some (.int k (k.wrap (a*b)))
 |.eql=>some (.bool (a==b))
 |.neq=>some (.bool (a != b))
 |.lss=>some (.bool (decide (a<b)))
 |.leq=>some (.bool (decide (a≤b)))
 |.gtr=>some (.bool (decide (a>b)))
 |.geq=>some (.bool (decide (a≥b)))
 |.and=>some (.int k (eT .and k a b))
 |.or=>some (.int k (eT .or k a b))
 |.xor=>some (.int k (eT .xor k a b))
 |.andNot=>some (.int k (eT .andNot k a b))
 |_=>none
def Zy(op:BinOp)(a b:ByteArray):Option AV :=match op with
 |.eql=>some (.bool (a==b))
 |.neq=>some (.bool (!(a==b)))
 |_=>none
def rQ:(k:K)→k.T→k.T→Bool
 |.int _,x,y=>(show Int from x)==y
 |.bool,x,y=>(show Bool from x)==y
 |.str,x,y=>(show ByteArray from x)==y
 |.sl _,_,_=>false
 |.mp _ _,_,_=>false
 |.fn _,_,_=>false
 |.pair a b,x,y=>rQ a x.1 y.1&&rQ b x.2 y.2
 |.one k,x,y=>rQ k x y
def qQ(kk:K){α:Type}(x:kk.T)(es:List (kk.T×α)):Option Nat:=es.findIdx? fun e=>rQ kk x e.1
def fW(kk:K){α:Type}(x:kk.T)(es:List (kk.T×α)):Option α:=(qQ kk x es).bind fun i=>(es[i]?).map (·.2)
def jn(kk:K){α:Type}(x:kk.T)(v:α)(es:List (kk.T×α)):List (kk.T×α):=match qQ kk x es with
 |some i=>es.set i (x,v)
 |none=>es++[(x,v)]
def Fh(kk:K){α:Type}(x:kk.T)(es:List (kk.T×α)):List (kk.T×α):=match qQ kk x es with
 |some i=>es.eraseIdx i
 |none=>es
def lR:(k:K)→k.T
 |.int _=>(0:Int)
 |.bool=>false
 |.str=>ByteArray.empty
 |.sl k=>([]:List k.T)
 |.pair a b=>(lR a,lR b)
 |.one k=>lR k
 |.mp kk vk=>([]:List (kk.T×vk.T))
 |.fn _=>()
def PC:K→Value→Bool
 |.int ik,.int Y5 n=>decide (Y5=ik∧n=0)
 |.bool,.bool b => !b
 |.str,.string s=>decide (s=ByteArray.empty)
 |.sl _,.slice a n c=>decide (a=none∧n=0∧c=0)
 |_,_=>false
def GS(t:TypeId)(k:K):Bool:=match P.info? t with
 |some i=>match i.zero with
  |some z=>PC k z
  |none=>false
 |none=>false
def LM(Eqs:TypeId→Option K)(t:TypeId)(k:K):Bool:=k.flat&&(match k,P.underlying t with
 |.int ik,some (.int Y5)=>decide (Y5=ik)
 |.bool,some .bool=>true
 |.str,some .string=>true
 |k,_=>k.isAgg&&decide (Eqs t=some k))
def mapOf(Eqs:TypeId→Option K)(t:TypeId):Option (K×K):=match P.underlying t with
 |some (.map a b)=>match o8 P 8 a,o8 P 8 b with
  |some kk,some vk=>if LM P Eqs a kk&&GS P b vk then some (kk,vk) else none
  |_,_=>none
 |_=>none
def bU{α:Type}(xs:List α)(i:Int):Option α:=if 0≤i then xs[i.toNat]? else none
def eE:Nat:=1073741824
def bJ(n m:Nat):Bool:=decide (n+m≤eE)
def nY(n:Nat)(lo hi:Option AV):Option (Int×Int) :=match lo,hi with
 |none,none=>some (0,(n:Int))
 |some (.int .i64 l),none=>some (l,(n:Int))
 |none,some (.int .i64 h)=>some (0,h)
 |some (.int .i64 l),some (.int .i64 h)=>some (l,h)
 |_,_=>none
def aH(n:Nat)(l h:Int):Bool:=decide (0≤l)&&(decide (l≤h)&&decide (h≤(n:Int)))
def cut{α:Type}(xs:List α)(l h:Int):List α:=(xs.take h.toNat).drop l.toNat
def Xk(s:ByteArray)(l h:Int):ByteArray:=s.extract l.toNat h.toNat
variable {R:Type}
def fR(k:K)(h:Heap)(v:AV):Option k.T:=if k.isAgg=v.isAgg then dg k (v.cells.map (cG h)) else none
def rowOf(h:Heap)(v:AV)(k:K):Option (List k.T) :=match cG h v with
 |.sl _ k' xs=>if e:k'=k then some (e▸xs) else none
 |.fm=>some []
 |_=>none
def wN(e:TypeId)(k:K):Bool :=match P.info? e with
 |some i=>(match i.zero with
  |some z=>decide (i.size=k.sz)&&(decide (z.cells.size=k.sz)&&decide (i.bytes≤65536))
  |none=>false)
 |none=>false
def Nj(t:TypeId):Bool:=match P.underlying t with
 |some (.int .u8)=>true
 |_=>false
def Xl(e:TypeId):Bool:=match P.info? e with
 |some i=>decide (i.size=1)&&decide (i.bytes=1)&&(match i.zero with|some (.int .u8 n)=>decide (n=0)|_=>false)
 |none=>false
def strOf(xs:List Int):ByteArray:=xs.foldl (fun r n=>r.push (UInt8.ofNat n.toNat)) ByteArray.empty
def bytesOf(s:ByteArray):List Int:=s.data.toList.map fun b=>(b.toNat:Int)
def qR(xs:List Int)(b:ByteArray):List Int:=xs++bytesOf b
def lE(h:Heap)(id:Nat)(t:TypeId)(s:AV)(b:ByteArray)(K:bq→Option R):Option R :=match qP P t,s with
 |some e,.bC cQ =>
  if Xl P e then match h.get cQ with
   |some (.own (.row e' k') xs)=>if c:e'=e∧k'=.int .u8 then cond (!xs.isEmpty&&bJ xs.length b.size) (K (.wr (.bC id) ((h.del cQ).set id (.own (.row e (.int .u8)) (qR (c.2▸xs:List (Vs.K.int .u8).T) b))))) none else none
   |_=>none
  else none
 |_,_=>none
def rR(id:Nat)(t:TypeId)(l c:AV)(K:bq→Option R):Option R :=match qP P t,l,c with
 |some e,.int .i64 n,.int .i64 m =>
  match o8 P 8 e with
  |some kk=>if wN P e kk&&GS P e kk then cond (decide (0≤n)&&(decide (n≤(eE:Int))&&decide (m=n))) (K (.new (.bC id) [(id,.own (.row e kk) (List.replicate n.toNat (lR kk)))])) none else none
  |none=>none
 |_,_,_=>none
def mV{α:Type}(ys xs:List α):List α:=ys.take xs.length++xs.drop ys.length
def wO(h:Heap)(t:TypeId)(d s:AV)(K:bq→Option R):Option R :=match qP P t,d with
 |some e,.bC id =>
  match h.get id with
  |some (.own (.row e' k) xs) =>
   match rowOf h s k with
   |some ys=>if e'=e∧wN P e k=true then cond (!xs.isEmpty) (K (.wr (.int .i64 (min (ys.length:Int) (xs.length:Int))) (h.set id (.own (.row e' k) (mV ys xs))))) none else none
   |none=>none
  |_=>none
 |_,_=>none
def n6(h:Heap)(id:Nat)(t:TypeId)(s x:AV)(K:bq→Option R):Option R :=match qP P t with
 |none=>none
 |some e =>
  match o8 P 8 e with
  |none=>none
  |some kk =>
   match rowOf h x kk,wN P e kk with
   |some ys,true =>
    match s with
    |.fm=>cond (bJ 0 ys.length) (K (.new (.bC id) [(id,.own (.row e kk) ys)])) none
    |.bC cQ =>
     match h.get cQ with
     |some (.own (.row e' k') xs) =>
      if c:e'=e∧k'=kk then cond (bJ xs.length ys.length) (K (.wr (.bC id) ((h.del cQ).set id (.own (.row e kk) (c.2▸xs++ys))))) none else none
     |_=>none
    |.sl ex k' xs =>
     if c:k'=kk then cond (ex&&((!ys.isEmpty || xs.isEmpty)&&bJ xs.length ys.length)) (K (.new (.bC id) [(id,.own (.row e kk) (c▸xs++ys))])) none else none
    |_=>none
   |_,_=>none
def wP:AV→Bool
 |.no=>false
 |.agg _=>false
 |.nF _=>false
 |_=>true
def JP(id:Nat):List AV→Bool
 |[]=>true
 |.bC i::r => !(i==id)&&JP id r
 |_::r=>JP id r
def stored(h:Heap)(vs:List AV):List AV×Heap:=(vs.map (cG h),cC h vs)
def rS(h:Heap)(t:TypeId)(a v:AV)(K:bq→Option R):Option R :=if v.cells.length=P.cellsOf t∧(P.info? t).isSome∧v.cells.all wP then
  match a with
  |.ref id s i off =>
   match h.get id with
   |some (.box ty cs)=>if i=0∧off+v.cells.length≤cs.length then K (.wr .no (h.set id (.box ty (dQ cs off v.cells)))) else none
   |some (.own (.row ty kk) xs) =>
    (xs[i]?).bind fun x =>if s=kk.sz∧off+v.cells.length≤kk.sz∧JP id v.cells then
      match dg kk (dQ (enc kk x) off (stored h v.cells).1) with
      |some y=>K (.wr .no ((stored h v.cells).2.set id (.own (.row ty kk) (xs.set i y))))
      |none=>none
     else none
   |_=>none
  |_=>none
 else none
def lS(h:Heap)(t:TypeId)(a:AV)(K:bq→Option R):Option R :=match a with
 |.ref id s i off =>
  match h.get id with
  |some (.box _ cs)=>if i=0 then(match dV P t (cs.drop off) with|some v=>K (.val v)|none=>none) else none
  |some (.own (.row _ kk) xs)=>if s=kk.sz then(xs[i]?).bind fun x=>match dV P t ((enc kk x).drop off) with|some v=>K (.val v)|none=>none else none
  |_=>none
 |.fp kk x off=>match dV P t ((enc kk x).drop off) with|some v=>K (.val v)|none=>none
 |_=>none
def dm(h:Heap)(t:TypeId)(x i:AV)(K:bq→Option R):Option R :=match qP P t with
 |none=>none
 |some e =>
  match x,i with
  |.sl _ kk xs,.int _ n=>if P.cellsOf e=kk.sz then(bU xs n).bind fun y=>K (.val (.fp kk y 0)) else none
  |.bC id,.int _ n =>
   match h.get id with
   |some (.own (.row _ kk) xs)=>if P.cellsOf e=kk.sz then cond (decide (0≤n)&&decide (n<(xs.length:Int))) (K (.val (.ref id kk.sz n.toNat 0))) none else none
   |_=>none
  |_,_=>none
def wQ(x:AV)(lo hi mx:Option AV)(K:bq→Option R):Option R :=match x,mx with
 |.str s,none =>
  match nY s.size lo hi with
  |some (l,u)=>cond (aH s.size l u) (K (.val (.str (Xk s l u)))) none
  |none=>none
 |_,_=>none
def o9(_:Heap)(sz:Nat)(x:AV)(lo hi mx:Option AV)(K:bq→Option R):Option R :=match x with
 |.fm =>
  match nY 0 lo hi,mx with
  |some (l,u),none=>cond (aH 0 l u) (K (.val .fm)) none
  |_,_=>none
 |.sl _ kk xs =>
  if sz=kk.sz then
   match nY xs.length lo hi with
   |some (l,u) =>
    match mx with
    |none=>cond (aH xs.length l u) (K (.val (.sl false kk (cut xs l u)))) none
    |some (.int .i64 m)=>cond (aH xs.length l u&&(hi.isSome&&decide (m=u))) (K (.val (.sl true kk (cut xs l u)))) none
    |_=>none
   |none=>none
  else none
 |_=>none
def Xm(t:TypeId)(x:AV):Bool :=match P.underlying t,x with
 |some .string,.str _=>true
 |some (.slice _),.str _=>false
 |some (.slice _),_=>true
 |_,_=>false
def JQ(t:TypeId):Bool :=match P.underlying t with
 |some (.map _ _)=>true
 |_=>false
def DZ(h:Heap)(x:AV)(K:bq→Option R):Option R :=match cG h x with
 |.str s=>K (.val (.int .i64 (s.size:Int)))
 |.sl _ _ xs=>K (.val (.int .i64 (xs.length:Int)))
 |.fm=>K (.val (.int .i64 0))
 |_=>none
def wR(h:Heap)(x:AV)(K:bq→Option R):Option R :=match cG h x with
 |.mp _ _ es=>K (.val (.int .i64 (es.length:Int)))
 |_=>none
def lF(Eqs:TypeId→Option K)(id:Nat)(t:TypeId)(K:bq→Option R):Option R :=match mapOf P Eqs t with
 |some (kk,vk)=>K (.new (.bC id) [(id,.own (.map kk vk) [])])
 |none=>none
def n8(Eqs:TypeId→Option K)(h:Heap)(t:TypeId)(m i:AV)(ok:Bool)(K:bq→Option R):Option R :=match mapOf P Eqs t,cG h m with
 |some (kk,vk),.mp LK TT es =>
  if c:LK=kk∧TT=vk then
   match fR kk h i with
   |some x=>K (.val (cond ok (.nF [b5 vk ((fW kk x (c.1▸c.2▸es:List (kk.T×vk.T))).getD (lR vk)),.bool (fW kk x (c.1▸c.2▸es:List (kk.T×vk.T))).isSome]) (b5 vk ((fW kk x (c.1▸c.2▸es:List (kk.T×vk.T))).getD (lR vk)))))
   |none=>none
  else none
 |_,_=>none
def iR(Eqs:TypeId→Option K)(h:Heap)(t:TypeId)(m i v:AV)(K:bq→Option R):Option R :=match mapOf P Eqs t,m with
 |some (kk,vk),.bC id =>
  match h.get id with
  |some (.own (.map LK TT) es) =>
   if c:LK=kk∧TT=vk then
    match fR kk h i,fR vk h v,(v.cells.all fun c=>match c with | .bC j => !(j==id)|_=>true) with
    |some x,some y,true=>K (.wr (.nF []) ((cC h v.cells).set id (.own (.map kk vk) (jn kk x y (c.1▸c.2▸es:List (kk.T×vk.T))))))
    |_,_,_=>none
   else none
  |_=>none
 |_,_=>none
def oa(Eqs:TypeId→Option K)(h:Heap)(t:TypeId)(m i:AV)(K:bq→Option R):Option R :=match mapOf P Eqs t,m with
 |some (kk,vk),.bC id =>
  match h.get id with
  |some (.own (.map LK TT) es) =>
   if c:LK=kk∧TT=vk then
    match fR kk h i with
    |some x=>K (.wr (.nF []) (h.set id (.own (.map kk vk) (Fh kk x (c.1▸c.2▸es:List (kk.T×vk.T))))))
    |none=>none
   else none
  |_=>none
 |_,_=>none
def oc(id:Nat)(t:TypeId)(x:AV)(K:bq→Option R):Option R :=match P.underlying t,x with
 |some .string,.str s=>K (.new (.bC id) [(id,.own .nX (s,0))])
 |_,_=>none
def pe(s:ByteArray)(p:Nat):Int:=(Utf8.decode s p).1
def Ar(s:ByteArray)(p:Nat):Nat:=(Utf8.decode s p).2
def rT(h:Heap)(x:AV)(K:bq→Option R):Option R :=match x with
 |.bC id=>match h.get id with
  |some (.own .nX x)=>cond (decide (x.2<x.1.size)) (K (.wr (.nF [.bool true,.int .i64 (x.2:Int),.int .i32 (pe x.1 x.2)]) (h.set id (.own .nX (x.1,x.2+Ar x.1 x.2))))) (K (.val (.nF [.bool false])))
  |_=>none
 |_=>none
def rU(h:Heap)(x:AV)(K:bq→Option R):Option R :=match x with
 |.bC id=>match h.get id with
  |some (.own (.iter kk vk) (some c,_))=>K (.val (.nF [b5 kk c.1,b5 vk c.2]))
  |_=>none
 |_=>none
def Fi:TypeDesc→Bool
 |.bool=>true
 |_=>false
def wS:TypeDesc→Bool
 |.pointer _=>true
 |_=>false
def yd(Eqs:TypeId→Option K)(op:BinOp)(t:TypeId)(x y:AV)(K:bq→Option R):Option R :=match x,y with
 |.int k a,.int k' b =>
  match op with
  |.shl=>cond (decide (b<0)) none (K (.val (.int k (Zx k a b))))
  |.shr=>cond (decide (b<0)) none (K (.val (.int k (gQ k a b))))
  |op =>
  if k=k' then
   match op with
   |.quo=>cond (b==0) none (K (.val (.int k (k.wrap (a.tdiv b)))))
   |.rem=>cond (b==0) none (K (.val (.int k (a.tmod b))))
   |op=>match Xi op k a b with
    |some v=>K (.val v)
    |none=>none
  else none
 |.str a,.str b=>match Zy op a b with
  |some v=>K (.val v)
  |none=>none
 |.bool a,.bool b =>
  match op,(P.underlying t).map Fi with
  |.eql,some true=>K (.val (.bool (a==b)))
  |.neq,some true=>K (.val (.bool (!(a==b))))
  |_,_=>none
 |.agg a,.agg b =>
  match Eqs t with
  |none=>none
  |some k =>
   match op,dg k a,dg k b with
   |.eql,some x,some y=>K (.val (.bool (rQ k x y)))
   |.neq,some x,some y=>K (.val (.bool (!(rQ k x y))))
   |_,_,_=>none
 |.lq,.lq =>
  match op,(P.underlying t).map wS with
  |.eql,some true=>K (.val (.bool true))
  |.neq,some true=>K (.val (.bool false))
  |_,_=>none
 |.ref ..,.lq =>
  match op,(P.underlying t).map wS with
  |.eql,some true=>K (.val (.bool false))
  |.neq,some true=>K (.val (.bool true))
  |_,_=>none
 |_,_=>none
def VP(b:Bool)(x y:AV):AV :=match x,y with
 |.bool p,.bool q=>.bool (cond b p q)
 |x,y=>cond b x y
end
def dN(h:Heap)(ok:OK)(c:AV):Option ok.T :=match c with
 |.fm=>match ok with
  |.row _ _=>some []
  |_=>none
 |.bC id=>match h.get id with
  |some (.own TU x)=>if e:TU=ok then some (e▸x) else none
  |_=>none
 |_=>none
def pf:AV→List Nat
 |.bC id=>[id]
 |_=>[]
def cH:(de:List CK)→Heap→List AV→Option (qO de)
 |[],_,[]=>some ()
 |.val k::r,h,cs =>
  match dg k ((cs.take k.sz).map (cG h)),cH r h (cs.drop k.sz) with
  |some x,some y=>some (x,y)
  |_,_=>none
 |.own ok::r,h,c::cs =>
  match dN h ok c,cH r h cs with
  |some x,some y=>some (x,y)
  |_,_=>none
 |_,_,_=>none
def ql:List CK→List AV→List AV
 |.val k::r,cs=>cs.take k.sz++ql r (cs.drop k.sz)
 |.own _::r,_::cs=>ql r cs
 |_,_=>[]
def fM:List CK→List AV→List Nat
 |.val k::r,cs=>fM r (cs.drop k.sz)
 |.own _::r,c::cs=>pf c++fM r cs
 |_,_=>[]
def az:(de:List CK)→Nat→qO de→List AV
 |[],_,_=>[]
 |.val k::r,n,x=>enc k x.1++az r (n+1) x.2
 |.own _::r,n,x=>.bC n::az r (n+1) x.2
def aS:(de:List CK)→Nat→qO de→Heap
 |[],_,_=>[]
 |.val _::r,n,x=>aS r (n+1) x.2
 |.own ok::r,n,x=>(n,.own ok x.1)::aS r (n+1) x.2
def As(h:Heap)(id:Nat)(ty:TypeId):Option (List AV) :=match h.get id with
 |some (.box zg cs)=>if zg=ty then some cs else none
 |_=>none
def qm:(b:BK)→Heap→Nat→Option b.T
 |.box ty c,h,i=>match As h i ty with
  |some cs=>cH c h cs
  |none=>none
 |.own ok,h,i=>dN h ok (.bC i)
def cS:(bs:List BK)→Heap→List Nat→Option (wM bs)
 |[],_,[]=>some ()
 |b::r,h,i::is =>
  match qm b h i,cS r h is with
  |some x,some y=>some (x,y)
  |_,_=>none
 |_,_,_=>none
def jo:(b:BK)→Nat→Nat→b.T→Heap
 |.box ty c,i,n,x=>(i,.box ty (az c n x))::aS c n x
 |.own ok,i,_,x=>[(i,.own ok x)]
def bm:(bs:List BK)→List Nat→Nat→wM bs→Heap
 |b::r,i::is,n,x=>jo b i n x.1++bm r is (n+16) x.2
 |_,_,_,_=>[]
def Au:BK→Heap→Nat→List AV
 |.box _ c,h,i=>match h.get i with
  |some (.box _ cs)=>ql c cs
  |_=>[]
 |.own _,_,_=>[]
def fX:List BK→Heap→List Nat→List AV
 |b::r,h,i::is=>Au b h i++fX r h is
 |_,_,_=>[]
def kf:BK→Heap→Nat→List Nat
 |.box _ c,h,i=>i::(match h.get i with
  |some (.box _ cs)=>fM c cs
  |_=>[])
 |.own _,_,i=>[i]
def cT:List BK→Heap→List Nat→List Nat
 |b::r,h,i::is=>kf b h i++cT r h is
 |_,_,_=>[]
def g6(h:Heap):List Nat→Heap
 |[]=>h
 |i::r=>g6 (h.del i) r
def D0:AV→Option Nat
 |.ref id _ 0 0=>some id
 |_=>none
def jQ:List AV→Option (List Nat)
 |[]=>some []
 |v::r=>match D0 v,jQ r with
  |some i,some is=>some (i::is)
  |_,_=>none
def pj:List AV→Option (List Nat)
 |[]=>some []
 |.bC i::r=>match pj r with
  |some is=>some (i::is)
  |none=>none
 |_=>none
def cy:List PK→List AV→Option (List Nat)
 |[],[]=>some []
 |.val _::ps,_::vs=>cy ps vs
 |.ref::ps,v::vs=>match D0 v,cy ps vs with
  |some i,some is=>some (i::is)
  |_,_=>none
 |.own::ps,.bC i::vs=>match cy ps vs with
  |some is=>some (i::is)
  |none=>none
 |.tg f n::ps,.fn f' cap::vs =>
  if f'=f∧cap.length=n then match jQ cap,cy ps vs with
   |some a,some b=>some (a++b)
   |_,_=>none
  else none
 |.agg n::ps,.agg cs::vs =>
  if cs.length=n then match pj cs,cy ps vs with
   |some a,some b=>some (a++b)
   |_,_=>none
  else none
 |_,_=>none
def eF:(ps:List PK)→Heap→List AV→Option (GR (k0 ps))
 |[],_,[]=>some ()
 |.val k::ps,h,v::vs =>
  match fR k h v,eF ps h vs with
  |some x,some y=>some (x,y)
  |_,_=>none
 |.ref::ps,h,_::vs=>eF ps h vs
 |.own::ps,h,_::vs=>eF ps h vs
 |.tg _ _::ps,h,_::vs=>eF ps h vs
 |.agg _::ps,h,_::vs=>eF ps h vs
 |_,_,_=>none
def c9:List PK→List AV→List AV
 |.val _::ps,v::vs=>v.cells++c9 ps vs
 |_::ps,_::vs=>c9 ps vs
 |_,_=>[]
def aN:(ps:List PK)→(ids:List Nat)→Nat→GR (k0 ps)→List (Nat×AV)
 |[],_,_,_=>[]
 |.val k::ps,ids,s,x=>(s,b5 k x.1)::aN ps ids (s+1) x.2
 |.ref::ps,i::ids,s,x=>(s,.ref i 0 0 0)::aN ps ids (s+1) x
 |.ref::ps,[],s,x=>(s,.no)::aN ps [] (s+1) x
 |.own::ps,i::ids,s,x=>(s,.bC i)::aN ps ids (s+1) x
 |.own::ps,[],s,x=>(s,.no)::aN ps [] (s+1) x
 |.tg f n::ps,ids,s,x=>(s,.fn f ((ids.take n).map fun i=>.ref i 0 0 0))::aN ps (ids.drop n) (s+1) x
 |.agg n::ps,ids,s,x=>(s,.agg ((ids.take n).map .bC))::aN ps (ids.drop n) (s+1) x
def mW:List CK→Nat→Nat
 |.val k::r,c+1=>k.sz+mW r c
 |.own _::r,c+1=>1+mW r c
 |_,_=>0
def fS:List CK→Nat→Bool
 |.own (.row _ _)::_,0=>true
 |_::r,c+1=>fS r c
 |_,_=>false
def PD(id:Nat):Option AV→Bool
 |some (.bC mP)=>mP==id
 |_=>false
def ye(c:List CK)(cs:List AV)(id s off:Nat)(a:Nat×Nat×Nat):Bool :=PD id (cs[mW c a.1]?)&&(decide (s=a.2.1)&&(decide (off=a.2.2)&&fS c a.1))
def nG(bs:List BK)(h:Heap)(ids:List Nat)(b:Nat)(alts:List (Nat×Nat×Nat))(v:AV):Option (Option (Fin alts.length×Nat)) :=match v with
 |.lq=>some none
 |.ref id s i off =>
  (match ids[b]?,bs[b]? with
  |some bi,some bk=>(match h.get bi with
   |some (.box _ cs)=>(match (List.finRange alts.length).find? (fun a=>ye bk.de cs id s off (alts.get a)) with
    |some a=>some (some (a,i))
    |none=>none)
   |_=>none)
  |_,_=>none)
 |_=>none
def Av(c:List CK)(h:Heap)(v:AV):Option (qO c) :=match v with
 |.agg cs=>cH c h cs
 |_=>none
def bG(bs:List BK):(rs:List RK)→Heap→List Nat→List AV→Option (lQ rs)
 |[],_,_,[]=>some ()
 |.val k::r,h,ids,v::vs =>
  match fR k h v,bG bs r h ids vs with
  |some x,some y=>some (x,y)
  |_,_=>none
 |.own ok::r,h,ids,v::vs =>
  match dN h ok v,bG bs r h ids vs with
  |some x,some y=>some (x,y)
  |_,_=>none
 |.eI b alts::r,h,ids,v::vs =>
  match nG bs h ids b alts v,bG bs r h ids vs with
  |some x,some y=>some (x,y)
  |_,_=>none
 |.agg c::r,h,ids,v::vs =>
  match Av c h v,bG bs r h ids vs with
  |some x,some y=>some (x,y)
  |_,_=>none
 |_,_,_,_=>none
def fY:List RK→List AV→List AV
 |.val _::r,v::vs=>v.cells++fY r vs
 |.agg c::r,v::vs=>ql c v.cells++fY r vs
 |_::r,_::vs=>fY r vs
 |_,_=>[]
def dH:List RK→List AV→List Nat
 |.own _::r,v::vs=>pf v++dH r vs
 |.agg c::r,v::vs=>fM c v.cells++dH r vs
 |_::r,_::vs=>dH r vs
 |_,_=>[]
def uR(b n:Nat)(alts:List (Nat×Nat×Nat)):Option (Fin alts.length×Nat)→AV
 |none=>.lq
 |some (a,i)=>.ref (n+16*b+(alts.get a).1) (alts.get a).2.1 i (alts.get a).2.2
def aP:(rs:List RK)→(ids:List Nat)→(n m:Nat)→lQ rs→List AV
 |[],_,_,_,_=>[]
 |.val k::r,ids,n,m,x=>b5 k x.1::aP r ids n (m+1) x.2
 |.agg c::r,ids,n,m,x=>.agg (az c m x.1)::aP r ids n (m+1) x.2
 |.own _::r,ids,n,m,x=>.bC m::aP r ids n (m+1) x.2
 |.eI b alts::r,ids,n,m,x=>uR b n alts x.1::aP r ids n (m+1) x.2
def ah:(rs:List RK)→(m:Nat)→lQ rs→Heap
 |[],_,_=>[]
 |.own ok::r,m,x=>(m,.own ok x.1)::ah r (m+1) x.2
 |.agg c::r,m,x=>aS c m x.1++ah r (m+1) x.2
 |.val _::r,m,x=>ah r (m+1) x.2
 |.eI _ _::r,m,x=>ah r (m+1) x.2
def eU:List AV→AV
 |[v]=>v
 |vs=>.nF vs
def b8:List CK→Nat→List Nat
 |[],_=>[]
 |.val _::r,n=>b8 r (n+1)
 |.own _::r,n=>n::b8 r (n+1)
def bW:List BK→List Nat→Nat→List Nat
 |b::r,i::is,n=>i::(b8 b.de n++bW r is (n+16))
 |_,_,_=>[]
def bp:List RK→Nat→List Nat
 |[],_=>[]
 |.own _::r,m=>m::bp r (m+1)
 |.agg c::r,m=>b8 c m++bp r (m+1)
 |.val _::r,m=>bp r (m+1)
 |.eI _ _::r,m=>bp r (m+1)
def aJ(n:Nat):List Nat:=(List.range n).map fun i=>1000+20*i
def qS(g:aO):List Nat:=bW g.bs (aJ g.bs.length) 2000++bp g.rs 3000
def GU:List AV→Bool
 |[]=>true
 |.bC _::_=>false
 |_::r=>GU r
def qT:List AV→Bool
 |[]=>true
 |v::r=>GU v.cells&&qT r
def b6:List Nat→Bool
 |[]=>true
 |i::r => !(r.contains i)&&b6 r
def wT(kept:List Nat)(kY:List AV):Bool:=b6 kept&&kept.all fun i=>JP i kY
section
variable (P:Program) (Eqs:TypeId→Option K) (Sg:FuncId→Option aO) (F:(f:FuncId)→(g:aO)→g.A→Option g.B)
variable {R:Type}
def VQ(h:Heap)(i:Nat):Option FuncId:=match h.get i with
 |some (.box _ (.fn f _::_))=>some f
 |_=>none
def JR(h:Heap):List AV→Option FuncId
 |[]=>none
 |.ref i _ _ _::r=>match VQ h i with
  |some f=>some f
  |none=>JR h r
 |_::r=>JR h r
def lT(h:Heap)(f:FuncId):List AV→FuncId
 |[]=>f
 |.fn g cap::_=>match JR h cap with
  |some f2=>f+1000*((g+1)+100000*(f2+1))
  |none=>f+1000*(g+1)
 |.ref i _ _ _::r=>match VQ h i with
  |some f2=>lT h (f+1000*(100000*(f2+1))) r
  |none=>lT h f r
 |_::r=>lT h f r
def Aw:List AV→Bool
 |[]=>false
 |.bC _::_=>true
 |.agg cs::r=>(cs.any fun c=>match c with | .bC _=>true|_=>false) || Aw r
 |_::r=>Aw r
def keyOf(h:Heap)(f:FuncId)(vs:List AV):FuncId:=if Aw vs&&(Sg (lT h f vs+500000)).isSome then lT h f vs+500000 else lT h f vs
def C8(bs:List BK)(r:RK):Bool:=match r with
 |.eI b alts=>match bs[b]? with
  |some bk=>(alts.all fun a=>fS bk.de a.1)&&decide ((alts.map fun a=>(a.1,a.2.2)).Nodup)
  |none=>false
 |.agg c=>decide (c.length≤16)
 |_=>true
def qU(bs:List BK)(rs:List RK):Bool:=rs.all (C8 bs)
def PE(f:FuncId)(g:aO):Bool:=qU g.bs g.rs&&( (decide (g.bs.length≤8)&&(g.bs.all fun b=>decide (b.de.length≤16)))&&((decide (g.rs.length≤100)&&decide (f<1000))&&b6 (qS g)))
def qV{α R:Type}(o:Option α)(a:Option R)(f:α→Option R):Option R:=match o with
 |none=>a
 |some x=>f x
def Zz{R:Type}(n:Nat)(a:Fin n)(f:Fin n→Option R):Option R:=(List.finRange n).foldr (fun j r=>cond (a.val==j.val) (f j) r) none
def jR{R:Type}:(rs:List RK)→lQ rs→(lQ rs→Option R)→Option R
 |[],_,K=>K ()
 |.eI _ alts::r,x,K=>qV x.1 (jR r x.2 fun z=>K (none,z)) (fun p=>Zz alts.length p.1 fun a=>jR r x.2 fun z=>K (some (a,p.2),z))
 |.val _::r,x,K=>jR r x.2 fun z=>K (x.1,z)
 |.own _::r,x,K=>jR r x.2 fun z=>K (x.1,z)
 |.agg _::r,x,K=>jR r x.2 fun z=>K (x.1,z)
def jq(h:Heap)(id:Nat)(f:FuncId)(vs:List AV)(K:bq→Option R):Option R :=match Sg (keyOf Sg h f vs) with
 |none=>none
 |some g=>match g.x with
 |some u=>if f<1000 then(u h id vs).bind fun p=>cond p.1 (K p.2) none else none
 |none =>
  match cy g.ps vs,PE f g with
  |some is,true =>
   if is.isEmpty&&g.rs.all RK.plain then
   match eF g.ps h vs,cS g.bs h [],g.rs.all RK.plain with
   |some x,some b,true =>
    (F (keyOf Sg h f vs) g (x,b)).bind fun y =>cond (g.rs.all RK.flat || qT vs) (K (.new (eU (aP g.rs [] id (id+128) y.1)) (ah g.rs (id+128) y.1))) (K (.wr (eU (aP g.rs [] id (id+128) y.1)) (ah g.rs (id+128) y.1++cC h (c9 g.ps vs))))
   |_,_,_=>none
   else
   match eF g.ps h vs,cS g.bs h is,wT (cT g.bs h is) (c9 g.ps vs++fX g.bs h is)&&b6 (bW g.bs is id++bp g.rs (id+128)) with
   |some x,some b,true =>
    (F (keyOf Sg h f vs) g (x,b)).bind fun y=>jR g.rs y.1 fun z =>K (.wr (eU (aP g.rs is id (id+128) z)) (bm g.bs is id y.2++(ah g.rs (id+128) z++g6 (cC h (c9 g.ps vs++fX g.bs h is)) (cT g.bs h is))))
   |_,_,_=>none
  |_,_=>none
def qW{α:Type}(xs:List α)(i:Int)(ys:List α):Bool:=decide (0≤i)&&(decide (i≤xs.length)&&(decide (ys.length=1)&&bJ xs.length ys.length))
def fZ{α:Type}(xs:List α)(i:Int)(ys:List α):List α:=xs.take i.toNat++(ys++xs.drop i.toNat)
def jP{α:Type}(xs:List α)(i j:Int):Bool:=decide (0≤i)&&(decide (i<j)&&(decide (j≤xs.length)&&bJ xs.length 0))
def dh{α:Type}(xs:List α)(i j:Int):List α:=xs.take i.toNat++xs.drop j.toNat
def Ax(n:Int):Bool:=decide (0≤n)&&decide (n≤eE)
def PF(ty:TypeId)(k:K)(h:Heap)(id:Nat):List AV→Option (Bool×bq)
 |[.bC o,.int .i64 i,.bC j]=>match dN h (.row ty k) (.bC o),dN h (.row ty k) (.bC j) with
  |some xs,some ys=>if o=j then none else some (qW xs i ys,.wr (.bC id) ((id,.own (.row ty k) (fZ xs i ys))::h.del o))
  |_,_=>none
 |_=>none
def TV(ty:TypeId)(k:K)(h:Heap)(id:Nat):List AV→Option (Bool×bq)
 |[.bC o,.int .i64 i,.int .i64 j]=>match dN h (.row ty k) (.bC o) with
  |some xs=>some (jP xs i j,.wr (.bC id) ((id,.own (.row ty k) (dh xs i j))::h.del o))
  |none=>none
 |_=>none
def PH(ty:TypeId)(k:K)(_:Heap)(id:Nat):List AV→Option (Bool×bq)
 |[.fm,.int .i64 n]=>some (Ax n,.new (.bC id) [(id,.own (.row ty k) [])])
 |_=>none
def wU(id:Nat)(t:TypeId)(vs:List AV)(K:bq→Option R):Option R :=K (.new (.ref id vs.length 0 0) [(id,.box t vs)])
def VR:AV→Bool
 |.no=>false
 |_=>true
def rW(t:TypeId)(parts:List (Nat×AV))(K:bq→Option R):Option R :=match Aq P t,P.underlying t with
 |some z,some (.struct fs) =>
  match DY (fun i=>(fs[i]?).map fun f=>(f.offset,P.cellsOf f.type)) z parts,fs.toList.all (fun f=>(P.info? f.type).isSome)&&parts.all (fun p=>VR p.2) with
  |some cs,true=>K (.val (.agg cs))
  |_,_=>none
 |_,_=>none
def qX(k:K)(h:Heap):Nat→List (Nat×AV)→Option (List k.T)
 |_,[]=>some []
 |i,(j,v)::r =>
  if j=i then match dg k (v.cells.map (cG h)),qX k h (i+1) r with
   |some x,some xs=>some (x::xs)
   |_,_=>none
  else none
def uU(h:Heap)(id:Nat)(t:TypeId)(n:Nat)(parts:List (Nat×AV))(K:bq→Option R):Option R :=match qP P t with
 |none=>none
 |some e =>
  match o8 P 8 e with
  |none=>none
  |some k =>
   match qX k h 0 parts,wN P e k with
   |none,_=>none
   |some _,false=>none
   |some xs,true =>
    if parts.length=n∧n*k.sz≤1048576 then
     cond (qT (parts.map (·.2))) (K (.new (.bC id) [(id,.own (.row e k) xs)])) (K (.wr (.bC id) ((id,.own (.row e k) xs)::cC h (parts.flatMap (·.2.cells)))))
    else none
def TW:bq→bq
 |.new (.bC _) [(_,.own (.row _ k) xs)]=>.new (.sl true k xs) []
 |e=>e
def wV(kY:Bool)(h:Heap)(id:Nat)(t:TypeId)(n:Nat)(parts:List (Nat×AV))(K:bq→Option R):Option R :=uU P h id t n parts fun e=>K (if kY then TW e else e)
def Ay(h:Heap)(src dst:TypeId)(x:AV)(K:bq→Option R):Option R :=match P.underlying src,P.underlying dst,x with
 |some (.int _),some (.int k),.int _ n=>K (.val (.int k (k.wrap n)))
 |some .string,some .string,.str s=>K (.val (.str s))
 |some .string,some (.slice e),.str s=>if Nj P e then K (.new (.sl false (.int .u8) (bytesOf s)) []) else none
 |some (.slice e),some .string,x=>if Nj P e then match rowOf h x (.int .u8) with
  |some xs=>K (.val (.str (strOf xs)))
  |none=>none
  else none
 |_,_,_=>none
def Nk(mx:Bool)(vs:List AV)(K:bq→Option R):Option R :=match vs with
 |[.int k a,.int k' b]=>if k=k' then K (.val (.int k (cond mx (max a b) (min a b)))) else none
 |_=>none
def VS(t id:Nat):Bool:=(Sg (900000+t)).isSome&&(Sg (2000003+1000*(id / 256-128))).isSome
def cI(id:Nat)(h:Heap)(s:List (Nat×AV))(o:Oper)(K:bq→Option R):Option R :=match o.op with
 |.move x | .assign x=>K (.val (ρ s x))
 |.pick c a b=>match ρ s c with
  |.bool t=>K (.val (VP t (ρ s a) (ρ s b)))
  |_=>none
 |.box t x=>if(ρ s x).cells.all wP then wU id t (ρ s x).cells K else none
 |.alloc t=>match Aq P t with
  |some z=>wU id t z K
  |none=>none
 |.build t ps=>rW P t (ps.toList.map fun p=>(p.1,ρ s p.2)) K
 |.buildSlice t n ps=>wV P (VS Sg t id) h id t n (ps.toList.map fun p=>(p.1,ρ s p.2)) K
 |.load t a=>lS P h t (ρ s a) K
 |.store t a v=>rS P h t (ρ s a) (ρ s v) K
 |.nilCheck x=>match ρ s x with
  |.ref id s i off=>K (.val (.ref id s i off))
  |.fp k x off=>K (.val (.fp k x off))
  |.fn f cap=>K (.val (.fn f cap))
  |_=>none
 |.binOp op t x y _=>yd P Eqs op t (ρ s x) (ρ s y) K
 |.unOp .not _ x=>match ρ s x with
  |.bool b=>K (.val (.bool (!b)))
  |_=>none
 |.convert src dst x=>Ay P h src dst (ρ s x) K
 |.makeSlice t l c=>rR P id t (ρ s l) (ρ s c) K
 |.makeFunc (.func f) first cap=>if first.size=0 then K (.val (.fn f (cap.toList.map (ρ s)))) else none
 |.slice t x lo hi mx=>match P.underlying t with
  |some .string=>wQ (ρ s x) (lo.map (ρ s)) (hi.map (ρ s)) (mx.map (ρ s)) K
  |some (.slice e)=>if(P.info? e).isSome then o9 h (P.cellsOf e) (ρ s x) (lo.map (ρ s)) (hi.map (ρ s)) (mx.map (ρ s)) K else none
  |_=>none
 |.fieldAddr t x f=>match gZ P t f,ρ s x with
  |some (n,ft),.ref id s i off=>if P.cellsOf ft=0 then none else K (.val (.ref id s i (off+n)))
  |some (n,ft),.fp k x off=>if P.cellsOf ft=0 then none else K (.val (.fp k x (off+n)))
  |_,_=>none
 |.field t x f=>match gZ P t f,ρ s x with
  |some (n,ft),.agg cs=>match dV P ft (cs.drop n) with
   |some v=>K (.val v)
   |none=>none
  |_,_=>none
 |.indexAddr t x i=>dm P h t (ρ s x) (ρ s i) K
 |.index t x i=>match P.underlying t,ρ s x,ρ s i with
  |some .string,.str b,.int _ n=>(if 0≤n then b[n.toNat]? else none).bind fun c=>K (.val (.int .u8 (c.toNat:Int)))
  |_,_,_=>none
 |.makeMap t none=>lF P Eqs id t K
 |.lookup t m i ok=>n8 P Eqs h t (ρ s m) (ρ s i) ok K
 |.mapUpdate t m i v=>iR P Eqs h t (ρ s m) (ρ s i) (ρ s v) K
 |.range t x=>oc P id t (ρ s x) K
 |.next x true=>rT h (ρ s x) K
 |.entry x=>rU h (ρ s x) K
 |.extract t i=>match ρ s t with
  |.nF vs=>match vs[i]? with
   |some v=>K (.val v)
   |none=>none
  |_=>none
 |.call c =>
  match c.callee with
  |.value f=>match ρ s f with
   |.fn f cap=>jq Sg F h id f (c.args.toList.map (ρ s)++cap) K
   |_=>none
  |.builtin .len=>match c.args.toList,c.argTypes.toList with
   |[x],[t]=>if JQ P t then wR h (ρ s x) K else if Xm P t (ρ s x) then DZ h (ρ s x) K else none
   |_,_=>none
  |.builtin .append=>match c.args.toList,c.argTypes.toList with
   |[x,y],[t,t']=>if t'=t then n6 P h id t (ρ s x) (ρ s y) K else match P.underlying t',ρ s y with
    |some .string,.str b=>lE P h id t (ρ s x) b K
    |_,_=>none
   |_,_=>none
  |.builtin .copy=>match c.args.toList,c.argTypes.toList with
   |[x,y],[t,_]=>wO P h t (ρ s x) (ρ s y) K
   |_,_=>none
  |.builtin .delete=>match c.args.toList,c.argTypes.toList with
   |[m,x],t::_=>oa P Eqs h t (ρ s m) (ρ s x) K
   |_,_=>none
  |.builtin .max=>Nk true (c.args.toList.map (ρ s)) K
  |.builtin .min=>Nk false (c.args.toList.map (ρ s)) K
  |_=>none
 |_=>none
def nH:Op→Bool
 |.move _ | .assign _ | .extract .. | .unOp .. | .pick .. | .fieldAddr .. | .nilCheck _ | .makeFunc .. | .build .. | .slice ..=>true
 |.binOp op ..=>match op with
  |.eql | .neq=>false
  |_=>true
 |_=>false
def makes:Op→Bool
 |.box .. | .alloc _ | .buildSlice .. | .makeMap .. | .makeSlice .. | .range ..=>true
 |.call c=>match c.callee with
  |.builtin .append | .value _=>true
  |_=>false
 |_=>false
def opId(rid i:Nat):Nat:=((rid+1)*128+i)*256
def uV(ops:Array Oper)(b:Array Nat):Bool :=(List.range ops.size).all fun i=>match ops[i]? with
  |some o=>(o.after.toList.all fun e => !Region.binds .any e || decide (e.on<i)) && b.getD i 0==o.after.toList.foldl (fun s e=>if Region.binds .any e then s ||| 2 ^ e.on ||| b.getD e.on 0 else s) 0
  |none=>false
def Az(ops:Array Oper)(b:Array Nat):Bool :=(List.range ops.size).all fun j=>(List.range j).all fun i =>(b.getD j 0).testBit i || (match ops[i]?,ops[j]? with
   |some x,some y=>x.apart ops y
   |_,_=>false)
def iF:Op→Option Operand
 |.load _ x=>some x
 |.indexAddr _ x _=>some x
 |_=>none
def zy:Op→Bool
 |.store ..=>true
 |.call c=>match c.callee with
  |.value (.func f)=>f != 29
  |.value _=>true
  |_=>false
 |_=>false
def Fj(ops:Array Oper)(j:Nat):Operand→Operand
 |.tmp d=>match (ops.toList.take j).find? (fun o=>o.dst==some d) with
  |some o=>match o.op with
   |.fieldAddr _ (.tmp e) _=>if ops.any fun o=>o.dst==some e then .tmp d else .tmp e
   |_=>.tmp d
  |none=>.tmp d
 |x=>x
def GW(ops:Array Oper)(j:Nat):Option Operand:=(ops[j]?).bind fun o=>(iF o.op).map (Fj ops j)
def od(ops:Array Oper)(i j:Nat):Bool :=match GW ops j with
 |some (.tmp d)=>(List.range ops.size).all fun m => !(decide (min i j≤m)&&decide (m<max i j)) || (match (ops[m]?).bind (·.dst) with|some d'=>d' != d|none=>true)
 |some _=>true
 |none=>false
def lU:AV→List Nat
 |.ref id _ _ _=>[id]
 |.bC id=>[id]
 |_=>[]
def Xn(ops:Array Oper)(b:Array Nat)(i:Nat)(tmps:List (Nat×AV)):List Nat :=(List.range ops.size).flatMap fun j=>if j==i || (b.getD j 0).testBit i || (b.getD i 0).testBit j then[] else match GW ops j with
  |some x=>lU (ρ tmps x)
  |none=>[]
def late(ops:Array Oper)(j:Nat):Bool:=ops.size==50&&(j==27 || j==29)
def rX(ops:Array Oper)(b:Array Nat)(i:Nat)(tmps:List (Nat×AV))(o:Oper):Bool:=match iF o.op with
 |some x=>late ops i && !(lU (ρ tmps x)).isEmpty && !((List.range ops.size).all fun k=>k==i || (b.getD i 0).testBit k || (b.getD k 0).testBit i || (match ops[k]? with|some p => !zy p.op|none=>true) || od ops k i)
 |none=>false
def gR(ops:Array Oper)(b:Array Nat)(i:Nat)(tmps:List (Nat×AV))(o:Oper):List Nat:=if zy o.op then Xn ops b i tmps else if rX ops b i tmps o then[1] else[]
def JS(ops:Array Oper)(b:Array Nat)(i:Nat):Bool :=(List.range ops.size).all fun j =>j==i || (b.getD j 0).testBit i || (b.getD i 0).testBit j || (match ops[j]? with|some o=>nH o.op|none=>true) || ((match ops[i]? with|some o=>zy o.op|none=>false)&&(od ops i j || (late ops j&&(match ops[j]? with|some o=>(iF o.op).isSome|none=>false))))
def ahead(rid:Nat)(JU:Nat)(h:Heap):Heap:=h.filter fun p=>(p.1 / 32768 != rid+1) || JU.testBit (p.1 / 256%128)
def iG(n:Nat)(o:Oper):Bool :=match o.dst with
 |some d=>decide (d<n)
 |none=>true
end
def qY(rid bits id:Nat):Bool:=(id / 32768 != rid+1) || bits.testBit (id / 256%128)
mutual
def tv(rid bits:Nat):AV→Bool
 |.ref id _ _ _=>qY rid bits id
 |.bC id=>qY rid bits id
 |.fn _ cap=>AA rid bits cap
 |.agg cs=>AA rid bits cs
 |.nF vs=>AA rid bits vs
 |.no=>true
 |.bool _=>true
 |.int _ _=>true
 |.str _=>true
 |.lq=>true
 |.fm=>true
 |.fp _ _ _=>true
 |.sl _ _ _=>true
 |.mp _ _ _=>true
def AA(rid bits:Nat):List AV→Bool
 |[]=>true
 |v::r=>tv rid bits v&&AA rid bits r
end
def yf(rid bits:Nat):Heap→Bool
 |[]=>true
 |(id,.box _ cs)::r=>qY rid bits id&&AA rid bits cs&&yf rid bits r
 |(id,.own _ _)::r=>qY rid bits id&&yf rid bits r
def gP(draw:Bool)(rid:Nat)(ops:Array Oper)(b:Array Nat)(i JU:Nat):bq→Bool
 |.wr v h=>(!draw || JS ops b i)&&tv rid (JU ||| 2 ^ i) v&&yf rid (JU ||| 2 ^ i) h
 |.new v os=>tv rid (JU ||| 2 ^ i) v&&(os.all fun p=>p.1 / 256==(rid+1)*128+i)&&yf rid (JU ||| 2 ^ i) os
 |.val v=>tv rid JU v
def eX(ft:List Nat)(hp h:Heap):Heap:=(ft.filterMap fun i=>(hp.get i).map fun o=>(i,o))++h
def gS(ft:List Nat)(hp:Heap):bq→bq
 |.wr v h=>.wr v (eX ft hp h)
 |.val v=>.val v
 |.new v os=>.new v os
mutual
def qZ(ft:List Nat):AV→Bool
 |.ref id _ _ _ => !(ft.contains id)
 |.bC id => !(ft.contains id)
 |.fn _ cap=>tY ft cap
 |.agg cs=>tY ft cs
 |.nF vs=>tY ft vs
 |.no=>true
 |.bool _=>true
 |.int _ _=>true
 |.str _=>true
 |.lq=>true
 |.fm=>true
 |.fp _ _ _=>true
 |.sl _ _ _=>true
 |.mp _ _ _=>true
def tY(ft:List Nat):List AV→Bool
 |[]=>true
 |v::r=>qZ ft v&&tY ft r
end
def tZ(ft:List Nat):Heap→Bool
 |[]=>true
 |(id,.box _ cs)::r => !(ft.contains id)&&(tY ft cs&&tZ ft r)
 |(id,.own _ _)::r => !(ft.contains id)&&tZ ft r
def lV(ft:List Nat):bq→Bool
 |.wr v h=>qZ ft v&&tZ ft h
 |.val _ => !(ft.contains 1)
 |.new _ _=>true
section
variable (P:Program) (Eqs:TypeId→Option K) (Sg:FuncId→Option aO) (F:(f:FuncId)→(g:aO)→g.A→Option g.B)
variable {R:Type}
noncomputable def th(n:Nat)(f:Nat→Option R):Option R:=open Classical in if h:∃r,∀j,j<n→f j=some r then some (Classical.choose h) else none
def zh(m:Nat)(d:AV):AV→AV
 |.bC i=>if i=m then d else .bC i
 |v=>v
def pn(id:Nat)(st:St)(o:Oper):Option St :=match o.op with
 |.range t x=>match P.underlying t,ρ st.tmps x with
  |some (.map _ _),.bC m=>match st.heap.get m with
   |some (.own (.map kk vk) es)=>some (({ tmps:=st.tmps.map fun p=>(p.1,zh m (.mp kk vk es) p.2),heap:=(id,.own (.iter kk vk) (none,es))::st.heap.del m }:St).put o.dst (.bC id))
   |_=>none
  |_,_=>none
 |_=>none
def uW(o:Oper):Option Operand :=match o.op with
 |.next x false=>some x
 |_=>none
noncomputable def lr(h:Heap)(x:AV)(K:AV→Heap→Option R):Option R :=match x with
 |.bC id=>match h.get id with
  |some (.own (.iter kk vk) p)=>cond p.2.isEmpty (K (.nF [.bool false]) h) (th p.2.length fun j=>(p.2[j]?).bind fun c=>K (.nF [.bool true,b5 kk c.1,b5 vk c.2]) (h.set id (.own (.iter kk vk) (some c,p.2.eraseIdx j))))
  |_=>none
 |_=>none
def isNil(o:Oper):Option (Operand×Bool) :=match o.op with
 |.binOp op t x (.const v) _=>match op,P.underlying t,wL v with
  |.eql,some (.slice _),.fm=>some (x,true)
  |.neq,some (.slice _),.fm=>some (x,false)
  |_,_,_=>none
 |_=>none
noncomputable def uX(h:Heap)(x:AV)(want:Bool)(K:AV→Option R):Option R :=match cG h x with
 |.fm=>K (.bool want)
 |.sl _ _ xs=>cond xs.isEmpty (th 2 fun j=>K (.bool ((j==0)==want))) (K (.bool (!want)))
 |_=>none
noncomputable def bw(rid:Nat)(draw:Bool)(ops:Array Oper)(b:Array Nat):List (Nat×Oper)→St→(St→Option R)→Option R
 |[],st,K=>K st
 |(i,o)::r,st,K =>
  let run (st:St):Option R :=match (if draw then none else pn P (opId rid i) st o) with
   |some eu=>bw rid draw ops b r eu K
   |none =>
   match (if draw then none else uW o) with
   |some x=>lr st.heap (ρ st.tmps x) fun v h=>bw rid draw ops b r (({ st with heap:=h }:St).put o.dst v) K
   |none =>
   match (if draw then none else isNil P o) with
   |some (x,want)=>uX st.heap (ρ st.tmps x) want fun v=>bw rid draw ops b r (st.put o.dst v) K
   |none =>
   if draw then
    cI P Eqs Sg F (opId rid i) (g6 (ahead rid (b.getD i 0) st.heap) (gR ops b i st.tmps o)) st.tmps o fun e =>if gP true rid ops b i (b.getD i 0) (gS (gR ops b i st.tmps o) (ahead rid (b.getD i 0) st.heap) e)&&lV (gR ops b i st.tmps o) e then
      bw rid draw ops b r ({ st with heap:=match gS (gR ops b i st.tmps o) (ahead rid (b.getD i 0) st.heap) e with | .wr _ h=>h|e=>e.h st.heap }.put o.dst e.v) K else none
   else
    cI P Eqs Sg F (opId rid i) st.heap st.tmps o fun e =>if gP false rid ops b i (2 ^ i-1) e then bw rid draw ops b r ({ st with heap:=match e with | .wr _ h=>h|e=>e.h st.heap }.put o.dst e.v) K else none
  let skip (st:St):Option R:=bw rid draw ops b r (st.put o.dst (.nF [])) K
  match o.guard with
  |none=>run st
  |some (j,want) =>
   match (ops[j]?).bind (·.dst) with
   |none=>none
   |some d =>
    match look st.tmps d with
    |.bool t=>cond t (if want then run (st.put (some d) (.bool true)) else skip (st.put (some d) (.bool true))) (if want then skip (st.put (some d) (.bool false)) else run (st.put (some d) (.bool false)))
    |.nF _=>skip st
    |_=>none
end
mutual
def bz(rid:Nat):AV→AV
 |.ref id s i off=>if id / 32768=rid+1 then .no else .ref id s i off
 |.bC id=>if id / 32768=rid+1 then .no else .bC id
 |.fn f cap=>.fn f (lW rid cap)
 |.agg cs=>.agg (lW rid cs)
 |.nF vs=>.nF (lW rid vs)
 |.no=>.no
 |.bool b=>.bool b
 |.int k n=>.int k n
 |.str s=>.str s
 |.lq=>.lq
 |.fm=>.fm
 |.fp k x off=>.fp k x off
 |.sl ex k xs=>.sl ex k xs
 |.mp kk vk es=>.mp kk vk es
def lW(rid:Nat):List AV→List AV
 |[]=>[]
 |v::r=>bz rid v::lW rid r
end
def AB(rid:Nat):Ob→Ob
 |.box ty cs=>.box ty (lW rid cs)
 |.own ok x=>.own ok x
def lj(draw:Bool)(rid:Nat)(ops:Array Oper)(st:St):St :=if draw || ops.any (makes ·.op) then
  { tmps:=st.tmps.map fun p=>(p.1,bz rid p.2),heap:=(st.heap.filter fun p=>p.1 / 32768 != rid+1).map fun p=>(p.1,AB rid p.2) }
 else st
section
variable (P:Program) (Eqs:TypeId→Option K) (Sg:FuncId→Option aO) (F:(f:FuncId)→(g:aO)→g.A→Option g.B)
variable {R:Type}
noncomputable def iH(n rid:Nat)(ops:Array Oper)(draw:Bool)(st:St)(K:St→Option R):Option R :=let b:=if draw then Region.before ops else #[]
 if(ops.all fun o=>iG n o)&&(!draw || (uV ops b&&(Az ops b&&b6 (ops.toList.filterMap (·.dst)))))&&decide (ops.size≤128) then
  bw P Eqs Sg F rid draw ops b (ops.toList.zipIdx.map fun p=>(p.2,p.1)) (lj draw rid ops st) K
 else none
inductive Src where
 |slot (s:Nat)
 |cap (s j:Nat)
structure Shape where
 zi:List (Nat×K)
 boxes:List (Src×Nat×BK)
 rows:List (Nat×Nat×OK)
 fns:List (Nat×FuncId×List Nat)
def Shape.ks(sh:Shape):List K:=sh.zi.map (·.2)
def Shape.bs(sh:Shape):List BK:=sh.boxes.map (·.2.2)
def JV:List OK→Type
 |[]=>Unit
 |k::r=>k.T×JV r
abbrev Shape.T(sh:Shape):Type:=GR sh.ks×wM sh.bs×JV (sh.rows.map (·.2.2))
def q6(st:St):(l:List (Nat×K))→Option (GR (l.map (·.2)))
 |[]=>some ()
 |(s,k)::r =>
  match fR k st.heap (look st.tmps s),q6 st r with
  |some x,some y=>some (x,y)
  |_,_=>none
def VT(st:St):Src→Option Nat
 |.slot s=>D0 (look st.tmps s)
 |.cap s j=>match look st.tmps s with
  |.fn _ cap=>match cap[j]? with
   |some v=>D0 v
   |none=>none
  |_=>none
def Fk(st:St):List (Src×Nat×BK)→Option (List Nat)
 |[]=>some []
 |p::r=>match VT st p.1,Fk st r with
  |some i,some is=>some (i::is)
  |_,_=>none
def nI(st:St):(l:List (Nat×Nat×OK))→Option (JV (l.map (·.2.2)))
 |[]=>some ()
 |(s,_,ok)::r =>
  match dN st.heap ok (look st.tmps s),nI st r with
  |some x,some y=>some (x,y)
  |_,_=>none
def zz(st:St)(sh:Shape)(ids:List Nat):List AV:=(sh.zi.flatMap fun p=>(look st.tmps p.1).cells)++fX sh.bs st.heap ids
def GX(st:St)(sh:Shape)(ids:List Nat):List Nat:=cT sh.bs st.heap ids++sh.rows.flatMap fun p=>pf (look st.tmps p.1)
def og(st:St)(m:Nat):List (Nat×Nat×OK)→Bool
 |[]=>false
 |(s,id,_)::r=>(id==m&&(match look st.tmps s with | .bC i=>i==m|_=>false)) || og st m r
def rY(sh:Shape):List Nat:=bW sh.bs (sh.boxes.map (·.2.1)) 9000++sh.rows.map (·.2.1)
def LN(st:St)(ids:List (Nat×Nat)):List (Nat×FuncId×List Nat)→Bool
 |[]=>true
 |(s,f,C9)::r =>
  (match look st.tmps s with
  |.fn f' cap=>decide (f'=f)&&(match jQ cap with|some is=>decide (is.map (fun i=>(ids.find? (·.1==i)).map (·.2))=C9.map some)|none=>false)
  |_=>false)&&LN st ids r
def cz(sh:Shape)(st:St):Option sh.T :=match Fk st sh.boxes with
 |none=>none
 |some ids =>
  match q6 st sh.zi,cS sh.bs st.heap ids,nI st sh.rows,wT (GX st sh ids) (zz st sh ids)&&(b6 (rY sh)&&((rY sh).all (fun m=>decide (2000≤m) || ((ids.zip (sh.boxes.map (·.2.1))).any fun p=>p.1==m&&p.2==m) || og st m sh.rows)&&LN st (ids.zip (sh.boxes.map (·.2.1))) sh.fns)) with
  |some x,some y,some z,true=>some (x,y,z)
  |_,_,_,_=>none
def q7:(l:List (Nat×K))→GR (l.map (·.2))→List (Nat×AV)
 |[],_=>[]
 |(s,k)::r,x=>(s,b5 k x.1)::q7 r x.2
def jS:List (Src×Nat×BK)→List (Nat×AV)
 |[]=>[]
 |(.slot s,id,_)::r=>(s,.ref id 0 0 0)::jS r
 |(.cap _ _,_,_)::r=>jS r
def zB(l:List (Nat×FuncId×List Nat)):List (Nat×AV):=l.map fun p=>(p.1,.fn p.2.1 (p.2.2.map fun i=>.ref i 0 0 0))
def q8:(l:List (Nat×Nat×OK))→JV (l.map (·.2.2))→Heap
 |[],_=>[]
 |(_,id,ok)::r,x=>(id,.own ok x.1)::q8 r x.2
def ar(sh:Shape)(x:sh.T):St :={ tmps:=q7 sh.zi x.1++(jS sh.boxes++(zB sh.fns++sh.rows.map fun p=>(p.1,.bC p.2.1))),heap:=bm sh.bs (sh.boxes.map (·.2.1)) 9000 x.2.1++q8 sh.rows x.2.2 }
def rZ:Code→Nat
 |.region id _ _=>id
 |.seq a _=>rZ a
 |.block _ a=>rZ a
 |.loop a=>rZ a
 |.scope a=>rZ a
 |_=>0
def PI(s:Nat)(st:St):St:=match look st.tmps s with
 |.bC m=>match st.heap.get m with
  |some (.own (.row _ k) xs)=>{ tmps:=st.tmps.map fun p=>(p.1,zh m (.sl false k xs) p.2),heap:=st.heap.del m }
  |_=>st
 |_=>st
def GY(o:Option Shape)(st:St):St:=match o with
 |some sh=>sh.rows.foldl (fun st p=>PI p.1 st) st
 |none=>st
noncomputable def ax(n:Nat)(ann:Nat→Option Shape)(J:(sh:Shape)→List Item→sh.T→Option R)(ret:St→Option R):Nat→List Item→St→Option R
 |0,_,_=>none
 |_+1,[],st=>ret st
 |m+1,.inBlock _::k,st=>ax n ann J ret m k st
 |m+1,.inScope _::k,st=>ax n ann J ret m k st
 |_+1,.inLoop c::k,st =>
  match ann (rZ c) with
  |none=>none
  |some sh=>match cz sh st with
   |some x=>J sh (.inLoop c::k) x
   |none=>none
 |m+1,.code c::k,st =>
  match c with
  |.skip | .label _=>ax n ann J ret m k st
  |.seq a b=>ax n ann J ret m (.code a::.code b::k) st
  |.cond c a b=>match ρ st.tmps c with
   |.bool t=>cond t (ax n ann J ret m (.code a::k) st) (ax n ann J ret m (.code b::k) st)
   |_=>none
  |.block id c=>ax n ann J ret m (.code c::.inBlock id::k) st
  |.scope c=>ax n ann J ret m (.code c::.inScope c::k) st
  |.loop c=>ax n ann J ret m (.inLoop c::k) st
  |.exit id=>match exitTo id k with
   |some k'=>ax n ann J ret m k' st
   |none=>none
  |.ret=>ret st
  |.region id ops draw=>iH P Eqs Sg F n id ops draw (GY (ann (500000+id)) st) fun eu=>ax n ann J ret m k eu
  |_=>none
 |_,_,_=>none
def yg(h:Heap)(tmps:List (Nat×AV))(rvs:List ResultVar):Option (List AV) :=match rvs with
 |[]=>some []
 |.tmp t::r=>match yg h tmps r with
  |some vs=>some (look tmps t::vs)
  |none=>none
 |.cell a t::r=>match look tmps a with
  |.ref id _ 0 off=>(match h.get id with
   |some (.box _ cs)=>(match dV P t (cs.drop off),yg h tmps r with
    |some v,some vs=>some (v::vs)
    |_,_=>none)
   |_=>none)
  |_=>none
def q9(g:aO)(fn:Func)(st:St):Option g.B :=match yg P st.heap st.tmps fn.results.toList with
 |none=>none
 |some vs =>
  match bG g.bs g.rs st.heap (aJ g.bs.length) vs,cS g.bs st.heap (aJ g.bs.length),
   wT (cT g.bs st.heap (aJ g.bs.length)++dH g.rs vs) (fY g.rs vs++fX g.bs st.heap (aJ g.bs.length))&&b6 (qS g) with
  |some x,some y,true=>some (x,y)
  |_,_,_=>none
def entry(g:aO)(x:g.A):St :={ tmps:=aN g.ps (aJ g.bs.length) 0 x.1,heap:=bm g.bs (aJ g.bs.length) 2000 x.2 }
def fuel:Nat:=100000
end
section
variable (P:Program) (Eqs:TypeId→Option K) (Sg:FuncId→Option aO) (An:FuncId→Nat→Option Shape) (G:(f:FuncId)→(g:aO)→Option (g.A→Option g.B))
variable (F:(f:FuncId)→(g:aO)→g.A→Option g.B)
def body(f:FuncId):Option (Func×Code):=(P.funcs[f]?).bind fun fn=>fn.body.map fun c=>(fn,c)
noncomputable def mQ(f:FuncId)(g:aO)(fn:Func):Nat→(sh:Shape)→List Item→sh.T→Option g.B
 |0,_,_,_=>none
 |n+1,sh,.inLoop c::k,x=>ax P Eqs Sg F fn.ntmps (An f) (mQ f g fn n) (q9 P g fn) fuel (.code c::.inLoop c::k) (ar sh x)
 |_+1,_,_,_=>none
noncomputable def JW(f:FuncId)(g:aO)(n:Nat)(x:g.A):Option g.B :=match body P (f%1000) with
 |none=>none
 |some (fn,c)=>if decide (g.ps.length≤fn.ntmps)&&decide (g.bs.length≤8) then ax P Eqs Sg F fn.ntmps (An f) (mQ P Eqs Sg An F f g fn n) (q9 P g fn) fuel [.code c] (entry g x) else none
end
section
variable (P:Program) (Eqs:TypeId→Option K) (Sg:FuncId→Option aO) (An:FuncId→Nat→Option Shape) (G:(f:FuncId)→(g:aO)→Option (g.A→Option g.B))
noncomputable def Fn:Nat→(f:FuncId)→(g:aO)→g.A→Option g.B
 |0,f,g,x=>match G f g with
  |some u=>u x
  |none=>none
 |m+1,f,g,x=>match G f g with
  |some u=>u x
  |none=>JW P Eqs Sg An (Fn m) f g m x
end
end Go.Vs
namespace Go.Vs
def rf:Code→List Item→List (List Item)
 |.seq a b,k=>rf a (.code b::k)++rf b k
 |.cond _ a b,k=>rf a k++rf b k
 |.block id c,k=>rf c (.inBlock id::k)
 |.scope c,k=>rf c (.inScope c::k)
 |.loop c,k=>(.inLoop c::k)::rf c (.inLoop c::k)
 |_,_=>[]
def aZ(P:Program)(f:FuncId)(j:Nat):List Item :=match body P f with
 |some (_,c)=>(rf c []).getD j []
 |none=>[]
def round:List Item→List Item
 |.inLoop c::k=>.code c::.inLoop c::k
 |k=>k
theorem uY(a:Addr)(n m:Nat):(a.add n).add m=a.add (n+m):=by unfold Addr.add;by_cases h1:n=0<;>by_cases h2:m=0<;>simp[h1,h2,Nat.add_assoc]
theorem D1(a:Addr):a.add 0=a:=by simp[Addr.add]
theorem eY(a:Addr)(n:Nat):(a.add n).block=a.block:=by unfold Addr.add;split<;>rfl
theorem cw(g i n:Nat):(⟨g,i,none⟩:Addr).add n=⟨g,i+n,none⟩:=by unfold Addr.add;split<;>simp_all
def cj(Z:Nat→Prop)(w w':World):Prop:=∀b,Z b→w'.heap[b]? = w.heap[b]?
theorem cj.refl(Z:Nat→Prop)(w:World):cj Z w w:=fun _ _=>rfl
theorem cj.trans{Z:Nat→Prop}{w w1 w2:World}(h:cj Z w w1)(k:cj Z w1 w2):cj Z w w2:=fun b hb=>(k b hb).trans (h b hb)
theorem cj.cell{Z:Nat→Prop}{w w':World}(h:cj Z w w'){a:Addr}(ha:Z a.block):w'.cell? a=w.cell? a:=World.cell?_of_block (h _ ha)
def aew{α:Type}(r:α→List Value→Prop)(Z:Nat→Prop)(sz:Nat)(w:World)(xs:List α)(v:Value):Prop :=∃A c,v=.slice A xs.length c∧xs.length≤c∧(A=none→c=0) ∧ ∀(i:Nat) (x:α),xs[i]? = some x→∃a us,A=some a∧Z a.block∧r x us∧∀(j:Nat) u,us[j]? = some u→w.cell? (a.add (i*sz+j))=some u
def Fl{α β:Type}(ra:α→List Value→Prop)(rb:β→List Value→Prop)(pa pb:Bool)(es:List (α×β))(bQ:List MapEntry):Prop :=es.length=bQ.length∧∀(i:Nat) (x:α×β) (e:MapEntry),es[i]? = some x→bQ[i]? = some e →(ra x.1 e.key.cells.toList∧(pa=true→∃vs,e.key=.agg vs)∧(pa=false→e.key.cells=#[e.key]))∧rb x.2 e.val.cells.toList∧(pb=true→∃vs,e.val=.agg vs)∧(pb=false→e.val.cells=#[e.val])
def aB(Z:Nat→Prop)(w:World):(k:K)→k.T→List Value→Prop
 |.int ik,n,vs=>vs=[.int ik n]
 |.bool,b,vs=>vs=[.bool b]
 |.str,s,vs=>vs=[.string s]
 |.sl k,xs,vs=>∃v,vs=[v]∧aew (aB Z w k) Z k.sz w xs v
 |.pair a b,x,vs=>∃us ws,vs=us++ws∧aB Z w a x.1 us∧aB Z w b x.2 ws
 |.one k,x,vs=>aB Z w k x vs
 |.mp kk vk,es,vs=>∃A,vs=[.map A]∧((A=none∧es=[])∨∃m bQ clock,A=some m∧Z m∧w.heap[m]? = some (.map bQ clock)∧Fl (aB Z w kk) (aB Z w vk) kk.isAgg vk.isAgg es bQ.toList)
 |.fn f,_,vs=>vs=[.func (.func f) #[] #[]]
variable {Z Z':Nat→Prop} {w w':World}
theorem aB.len:∀{k:K} {x:k.T} {vs:List Value},aB Z w k x vs→vs.length=k.sz
 |.int _,_,_,h=>by simp only[aB]at h;subst h;rfl
 |.bool,_,_,h=>by simp only[aB]at h;subst h;rfl
 |.str,_,_,h=>by simp only[aB]at h;subst h;rfl
 |.sl _,_,_,h=>by simp only[aB]at h;obtain⟨v,rfl,_⟩:=h;rfl
 |.pair a b,x,_,h=>by simp only[aB]at h;obtain⟨us,ws,rfl,h1,h2⟩:=h;rw[List.length_append,aB.len h1,aB.len h2];rfl
 |.one k,x,_,h=>by simp only[aB]at h;exact aB.len (k:=k) h
 |.mp _ _,_,_,h=>by simp only[aB]at h;obtain⟨A,rfl,_⟩:=h;rfl
 |.fn _,_,_,h=>by simp only[aB]at h;subst h;rfl
theorem K.gh:∀k:K,0<k.sz
 |.int _=>Nat.one_pos
 |.bool=>Nat.one_pos
 |.str=>Nat.one_pos
 |.sl _=>Nat.one_pos
 |.pair a _=>adL (K.gh a) (Nat.le_add_right _ _)
 |.one k=>K.gh k
 |.mp _ _=>Nat.one_pos
 |.fn _=>Nat.one_pos
theorem aB.one:∀{k:K} {x:k.T} {vs:List Value},aB Z w k x vs→∀u∈vs,u.oneCell'=true
 |.int _,_,_,h=>by simp only[aB]at h;subst h;simp[Value.oneCell']
 |.bool,_,_,h=>by simp only[aB]at h;subst h;simp[Value.oneCell']
 |.str,_,_,h=>by simp only[aB]at h;subst h;simp[Value.oneCell']
 |.sl _,_,_,h=>by simp only[aB]at h;obtain⟨v,rfl,A,c,rfl,_⟩:=h;simp[Value.oneCell']
 |.pair a b,x,_,h=>by
  simp only[aB]at h;obtain⟨us,ws,rfl,h1,h2⟩:=h;intro u hu;rcases ab0.1 hu with hu|hu
  ·exact aB.one h1 u hu
  ·exact aB.one h2 u hu
 |.one k,x,_,h=>by simp only[aB]at h;exact aB.one (k:=k) h
 |.mp _ _,_,_,h=>by simp only[aB]at h;obtain⟨A,rfl,_⟩:=h;simp[Value.oneCell']
 |.fn _,_,_,h=>by simp only[aB]at h;subst h;simp[Value.oneCell']
theorem Fl.imp{α β:Type}{ra ra':α→List Value→Prop}{rb rb':β→List Value→Prop}{pa pb:Bool}(ha:∀x vs,ra x vs→ra' x vs)(hb:∀x vs,rb x vs→rb' x vs){es:List (α×β)}{bQ:List MapEntry}(h:Fl ra rb pa pb es bQ):Fl ra' rb' pa pb es bQ :=⟨h.1,fun i x e h1 h2=>by obtain⟨⟨a,b⟩,c,d⟩:=h.2 i x e h1 h2;exact⟨⟨ha _ _ a,b⟩,hb _ _ c,d⟩⟩
theorem aB.mono(hz:∀b,Z b→Z' b)(hs:cj Z w w'):∀{k:K} {x:k.T} {vs:List Value},aB Z w k x vs→aB Z' w' k x vs
 |.int _,_,_,h=>h
 |.bool,_,_,h=>h
 |.str,_,_,h=>h
 |.fn _,_,_,h=>h
 |.sl k,xs,_,h=>by simp only[aB]at h ⊢;obtain⟨v,rfl,A,c,rfl,hl,hn,he⟩:=h;refine⟨_,rfl,A,c,rfl,hl,hn,fun i x hx=>?_⟩;obtain⟨a,us,ha,ZA,hr,hc⟩:=he i x hx;refine⟨a,us,ha,hz _ ZA,aB.mono hz hs hr,fun j u hu=>?_⟩;rw[hs.cell (by rw[eY];exact ZA)];exact hc j u hu
 |.pair a b,x,_,h=>by simp only[aB]at h ⊢;obtain⟨us,ws,rfl,h1,h2⟩:=h;exact⟨us,ws,rfl,aB.mono hz hs h1,aB.mono hz hs h2⟩
 |.one k,x,_,h=>by simp only[aB]at h ⊢;exact aB.mono hz hs (k:=k) h
 |.mp kk vk,es,_,h=>by simp only[aB]at h ⊢;obtain⟨A,rfl,h⟩:=h;refine⟨A,rfl,h.imp (fun h=>h) fun⟨m,bQ,clock,h1,h2,h3,h4⟩=>⟨m,bQ,clock,h1,hz _ h2,(hs m h2).trans h3,h4.imp (fun _ _ h=>aB.mono hz hs h) (fun _ _ h=>aB.mono hz hs h)⟩⟩
def TX:Value→Nat
 |.pointer (some a)=>a.block
 |.slice (some a) _ _=>a.block
 |_=>0
def ob:Value→Option Nat
 |.pointer (some a)=>some a.block
 |.slice (some a) _ c=>if c=0 then none else some a.block
 |.map (some m)=>some m
 |_=>none
mutual
def au(Z:Nat→Prop)(ψ:Nat→Value)(h:Nat→Option Ob)(w:World):AV→Value→Prop
 |.no,_=>True
 |.bool b,v=>v=.bool b
 |.int k n,v=>v=.int k n
 |.str s,v=>v=.string s
 |.lq,v=>v=.pointer none
 |.fm,v=>v=.slice none 0 0
 |.ref id s i off,v=>∃a,v=.pointer (some a)∧(h id≠none→a=⟨TX (ψ id),i*s+off,none⟩)
 |.fp k x off,v=>∃a us,v=.pointer (some a)∧Z a.block∧aB Z w k x us∧∀(j:Nat) u,us[off+j]? = some u→w.cell? (a.add j)=some u
 |.sl ex k xs,v=>aB Z w (.sl k) xs [v]∧(ex=true→∃A c,v=.slice A c c)
 |.mp kk vk es,v=>aB Z w (.mp kk vk) es [v]
 |.bC id,v=>(v.cells=#[v]∧v.oneCell'=true)∧(h id≠none→v=ψ id)
 |.fn f cap,v=>∃vs,v=.func (.func f) #[] vs∧an Z ψ h w cap vs.toList
 |.agg cs,v=>∃vs,v=.agg vs∧an Z ψ h w cs vs.toList
 |.nF cs,v=>∃vs,v=.tuple vs∧an Z ψ h w cs vs.toList
def an(Z:Nat→Prop)(ψ:Nat→Value)(h:Nat→Option Ob)(w:World):List AV→List Value→Prop
 |[],vs=>vs=[]
 |a::r,vs=>∃v us,vs=v::us∧au Z ψ h w a v∧an Z ψ h w r us
end
mutual
def aD(p:Nat→Prop):AV→Prop
 |.ref id _ _ _=>p id
 |.bC id=>p id
 |.fn _ cap=>av p cap
 |.agg cs=>av p cs
 |.nF vs=>av p vs
 |.no=>True
 |.bool _=>True
 |.int _ _=>True
 |.str _=>True
 |.lq=>True
 |.fm=>True
 |.fp _ _ _=>True
 |.sl _ _ _=>True
 |.mp _ _ _=>True
def av(p:Nat→Prop):List AV→Prop
 |[]=>True
 |v::r=>aD p v∧av p r
end
section
variable {Z Z':Nat→Prop} {w w':World} {ψ ψ':Nat→Value} {h h':Nat→Option Ob} {p:Nat→Prop}
mutual
theorem au.move(hz:∀b,Z b→Z' b)(hs:cj Z w w')(hh:∀id,p id→h' id≠none→h id≠none∧ψ' id=ψ id):∀{a:AV} {v:Value},aD p a→au Z ψ h w a v→au Z' ψ' h' w' a v
 |.no,_,_,_=>by simp only[au]
 |.bool b,_,_,hr=>by simpa only[au] using hr
 |.int k n,_,_,hr=>by simpa only[au] using hr
 |.str s,_,_,hr=>by simpa only[au] using hr
 |.lq,_,_,hr=>by simpa only[au] using hr
 |.fm,_,_,hr=>by simpa only[au] using hr
 |.ref id s i off,_,hm,hr=>by simp only[au,aD]at hr hm ⊢;obtain⟨a,rfl,ha⟩:=hr;refine⟨a,rfl,fun hn=>?_⟩;obtain⟨h1,h2⟩:=hh id hm hn;rw[h2];exact ha h1
 |.fp k x off,_,_,hr=>by simp only[au]at hr ⊢;obtain⟨a,us,rfl,ZA,hk,hc⟩:=hr;refine⟨a,us,rfl,hz _ ZA,hk.mono hz hs,fun j u hu=>?_⟩;rw[hs.cell (by rw[eY];exact ZA)];exact hc j u hu
 |.sl ex k xs,_,_,hr=>by simp only[au]at hr ⊢;exact⟨aB.mono hz hs hr.1,hr.2⟩
 |.mp kk vk es,_,_,hr=>by simp only[au]at hr ⊢;exact aB.mono hz hs hr
 |.bC id,_,hm,hr=>by simp only[au,aD]at hr hm ⊢;refine⟨hr.1,fun hn=>?_⟩;obtain⟨h1,h2⟩:=hh id hm hn;rw[h2];exact hr.2 h1
 |.fn f cap,_,hm,hr=>by simp only[au,aD]at hr hm ⊢;obtain⟨vs,rfl,hl⟩:=hr;exact⟨vs,rfl,an.move hz hs hh hm hl⟩
 |.agg cs,_,hm,hr=>by simp only[au,aD]at hr hm ⊢;obtain⟨vs,rfl,hl⟩:=hr;exact⟨vs,rfl,an.move hz hs hh hm hl⟩
 |.nF cs,_,hm,hr=>by simp only[au,aD]at hr hm ⊢;obtain⟨vs,rfl,hl⟩:=hr;exact⟨vs,rfl,an.move hz hs hh hm hl⟩
theorem an.move(hz:∀b,Z b→Z' b)(hs:cj Z w w')(hh:∀id,p id→h' id≠none→h id≠none∧ψ' id=ψ id):∀{a:List AV} {v:List Value},av p a→an Z ψ h w a v→an Z' ψ' h' w' a v
 |[],_,_,hr=>by simpa only[an] using hr
 |a::r,_,hm,hr=>by simp only[an,av]at hr hm ⊢;obtain⟨v,us,rfl,h1,h2⟩:=hr;exact⟨v,us,rfl,au.move hz hs hh hm.1 h1,an.move hz hs hh hm.2 h2⟩
end
mutual
theorem aD.top:∀a:AV,aD (fun _=>True) a
 |.no=>by simp only[aD]
 |.bool b=>by simp only[aD]
 |.int k n=>by simp only[aD]
 |.str s=>by simp only[aD]
 |.lq=>by simp only[aD]
 |.fm=>by simp only[aD]
 |.ref id s i off=>by simp only[aD]
 |.fp k x off=>by simp only[aD]
 |.sl ex k xs=>by simp only[aD]
 |.mp kk vk es=>by simp only[aD]
 |.bC id=>by simp only[aD]
 |.fn f cap=>by simp only[aD];exact av.top cap
 |.agg cs=>by simp only[aD];exact av.top cs
 |.nF cs=>by simp only[aD];exact av.top cs
theorem av.top:∀a:List AV,av (fun _=>True) a
 |[]=>by simp only[av]
 |a::r=>by simp only[av];exact⟨aD.top a,av.top r⟩
end
theorem au.less(hz:∀b,Z b→Z' b)(hs:cj Z w w')(hh:∀id,h' id≠none→h id≠none∧ψ' id=ψ id){a:AV}{v:Value}(hr:au Z ψ h w a v):au Z' ψ' h' w' a v :=au.move (p:=fun _=>True) hz hs (fun id _ hn=>hh id hn) (aD.top a) hr
theorem an.less(hz:∀b,Z b→Z' b)(hs:cj Z w w')(hh:∀id,h' id≠none→h id≠none∧ψ' id=ψ id){a:List AV}{v:List Value}(hr:an Z ψ h w a v):an Z' ψ' h' w' a v :=an.move (p:=fun _=>True) hz hs (fun id _ hn=>hh id hn) (av.top a) hr
theorem an.length:∀{a:List AV} {v:List Value},an Z ψ h w a v→a.length=v.length
 |[],_,hr=>by simp only[an]at hr;subst hr;rfl
 |a::r,_,hr=>by simp only[an]at hr;obtain⟨v,us,rfl,_,h2⟩:=hr;simp[an.length h2]
theorem an.get:∀{a:List AV} {v:List Value} (i:Nat) {x:AV},an Z ψ h w a v→a[i]? = some x→∃u,v[i]? = some u∧au Z ψ h w x u
 |[],_,i,x,_,hx=>by simp at hx
 |a::r,_,0,x,hr,hx=>by simp only[an]at hr;obtain⟨v,us,rfl,h1,h2⟩:=hr;simp only[List.getElem?_cons_zero,Option.some.injEq]at hx;subst hx;exact⟨v,rfl,h1⟩
 |a::r,_,i+1,x,hr,hx=>by simp only[an]at hr;obtain⟨v,us,rfl,h1,h2⟩:=hr;obtain⟨u,hu,hr⟩:=an.get i h2 (by simpa using hx);exact⟨u,by simpa using hu,hr⟩
theorem an.append:∀{a b:List AV} {v u:List Value},an Z ψ h w a v→an Z ψ h w b u→an Z ψ h w (a++b) (v++u)
 |[],b,_,u,hr,hb=>by simp only[an]at hr;subst hr;exact hb
 |a::r,b,_,u,hr,hb=>by simp only[an]at hr;obtain⟨v,us,rfl,h1,h2⟩:=hr;simp only[List.cons_append,an];exact⟨v,us++u,rfl,h1,an.append h2 hb⟩
theorem an.split:∀{a b:List AV} {v:List Value},an Z ψ h w (a++b) v→∃us ws,v=us++ws∧an Z ψ h w a us∧an Z ψ h w b ws
 |[],b,v,hr=>⟨[],v,rfl,by simp only[an],hr⟩
 |a::r,b,v,hr=>by simp only[List.cons_append,an]at hr;obtain⟨x,us,rfl,h1,h2⟩:=hr;obtain⟨iI,ws,rfl,h3,h4⟩:=an.split h2;exact⟨x::iI,ws,rfl,by simp only[an];exact⟨x,iI,rfl,h1,h3⟩,h4⟩
theorem an.drop(n:Nat){a:List AV}{v:List Value}(hr:an Z ψ h w a v):an Z ψ h w (a.drop n) (v.drop n):=by
 by_cases hn:n≤a.length
 ·have r8:an Z ψ h w (a.take n++a.drop n) v:=by rw[List.take_append_drop];exact hr
  obtain⟨us,ws,rfl,h1,h2⟩:=an.split r8;have hl:=h1.length;rw[List.length_take,Nat.min_eq_left hn]at hl;rw[hl,List.drop_left];rw[←hl];exact h2
 ·have:=hr.length;rw[List.drop_eq_nil_of_le (by omega),List.drop_eq_nil_of_le (by omega)];simp only[an]
theorem an.take(n:Nat){a:List AV}{v:List Value}(hr:an Z ψ h w a v):an Z ψ h w (a.take n) (v.take n):=by
 by_cases hn:n≤a.length
 ·have r8:an Z ψ h w (a.take n++a.drop n) v:=by rw[List.take_append_drop];exact hr
  obtain⟨us,ws,rfl,h1,h2⟩:=an.split r8;have hl:=h1.length;rw[List.length_take,Nat.min_eq_left hn]at hl
  conv=>rhs;rw[hl,List.take_left]
  exact h1
 ·have:=hr.length;rw[List.take_of_length_le (by omega),List.take_of_length_le (by omega)];exact hr
theorem an.set:∀{a:List AV} {v:List Value} (i:Nat) {x:AV} {u:Value},an Z ψ h w a v→au Z ψ h w x u→an Z ψ h w (a.set i x) (v.set i u)
 |[],_,i,x,u,hr,_=>by simp only[an]at hr;subst hr;simp only[List.set_nil,an]
 |a::r,_,0,x,u,hr,hx=>by simp only[an]at hr;obtain⟨v,us,rfl,h1,h2⟩:=hr;simp only[List.set_cons_zero,an];exact⟨u,us,rfl,hx,h2⟩
 |a::r,_,i+1,x,u,hr,hx=>by simp only[an]at hr;obtain⟨v,us,rfl,h1,h2⟩:=hr;simp only[List.set_cons_succ,an];exact⟨v,_,rfl,h1,an.set i h2 hx⟩
theorem iD:∀{k:K} {x:k.T} {vs:List Value},aB Z w k x vs→an Z ψ h w (enc k x) vs
 |.int _,_,_,hr=>by simp only[aB]at hr;subst hr;simp[enc,an,au]
 |.bool,_,_,hr=>by simp only[aB]at hr;subst hr;simp[enc,an,au]
 |.str,_,_,hr=>by simp only[aB]at hr;subst hr;simp[enc,an,au]
 |.fn _,_,_,hr=>by simp only[aB]at hr;subst hr;simp[enc,an,au]
 |.sl k,xs,_,hr=>by have r8:=hr;simp only[aB]at r8;obtain⟨v,rfl,_⟩:=r8;simp only[enc,an,au];exact⟨v,[],rfl,⟨hr,by simp⟩,rfl⟩
 |.pair a b,x,_,hr=>by simp only[aB]at hr;obtain⟨us,ws,rfl,h1,h2⟩:=hr;simp only[enc];exact an.append (iD h1) (iD h2)
 |.one k,x,_,hr=>by simp only[aB]at hr;simp only[enc];exact iD (k:=k) hr
 |.mp kk vk,es,_,hr=>by have r8:=hr;simp only[aB]at r8;obtain⟨A,rfl,_⟩:=r8;simp only[enc,an,au];exact⟨_,[],rfl,hr,rfl⟩
theorem PJ{k:K}{v:Value}(hr:au Z ψ h w .fm v):aB Z w (.sl k) [] [v]:=by simp only[au]at hr;subst hr;simp only[aB];exact⟨_,rfl,none,0,rfl,acn _,fun _=>rfl,fun i x hx=>by simp at hx⟩
theorem zF:∀{k:K} {cs:List AV} {x:k.T} {r:List AV} {vs:List Value},dec k cs=some (x,r)→an Z ψ h w cs vs→∃us ws,vs=us++ws∧aB Z w k x us∧an Z ψ h w r ws
 |.int ik,cs,x,r,vs,hd,hr=>by
  simp only[dec]at hd;unfold Ff at hd
  split at hd
  ·split at hd
   ·rename_i he;subst he
    cases hd
    simp only[an,au]at hr;obtain⟨v,us,rfl,rfl,h2⟩:=hr;exact⟨[_],us,rfl,by simp only[aB],h2⟩
   ·cases hd
  ·cases hd
 |.bool,cs,x,r,vs,hd,hr=>by
  simp only[dec]at hd;unfold zx at hd
  split at hd
  ·cases hd
   simp only[an,au]at hr;obtain⟨v,us,rfl,rfl,h2⟩:=hr;exact⟨[_],us,rfl,by simp only[aB],h2⟩
  ·cases hd
 |.str,cs,x,r,vs,hd,hr=>by
  simp only[dec]at hd;unfold Fg at hd
  split at hd
  ·cases hd
   simp only[an,au]at hr;obtain⟨v,us,rfl,rfl,h2⟩:=hr;exact⟨[_],us,rfl,by simp only[aB],h2⟩
  ·cases hd
 |.sl k,cs,x,r,vs,hd,hr=>by
  simp only[dec]at hd;unfold LI at hd
  split at hd
  ·split at hd
   ·rename_i he;subst he
    cases hd
    simp only[an]at hr;obtain⟨v,us,rfl,h1,h2⟩:=hr;simp only[au]at h1;exact⟨[_],us,rfl,h1.1,h2⟩
   ·cases hd
  ·cases hd
   simp only[an]at hr;obtain⟨v,us,rfl,h1,h2⟩:=hr;exact⟨[_],us,rfl,PJ h1,h2⟩
  ·cases hd
 |.pair a b,cs,x,r,vs,hd,hr=>by
  simp only[dec]at hd
  split at hd
  ·rename_i x1 r1 h1
   split at hd
   ·rename_i y1 r2 h2
    cases hd
    obtain⟨us,ws,rfl,k1,k2⟩:=zF h1 hr;obtain⟨iI,ws',rfl,k3,k4⟩:=zF h2 k2;exact⟨us++iI,ws',by rw[List.append_assoc],by simp only[aB];exact⟨us,iI,rfl,k1,k3⟩,k4⟩
   ·cases hd
  ·cases hd
 |.one k,cs,x,r,vs,hd,hr=>by simp only[dec]at hd;obtain⟨us,ws,e,k1,k2⟩:=zF (k:=k) hd hr;exact⟨us,ws,e,by simp only[aB];exact k1,k2⟩
 |.fn f,cs,x,r,vs,hd,hr=>by
  simp only[dec]at hd;unfold LL at hd
  split at hd
  ·split at hd
   ·rename_i he;subst he
    cases hd
    simp only[an,au]at hr;obtain⟨v,us,rfl,⟨ws,rfl,h3⟩,h2⟩:=hr;obtain⟨ws⟩:=ws;have h3:ws=[]:=h3;subst h3;exact⟨[_],us,rfl,by simp only[aB],h2⟩
   ·cases hd
  ·cases hd
 |.mp kk vk,cs,x,r,vs,hd,hr=>by
  simp only[dec]at hd;unfold LJ at hd
  split at hd
  ·split at hd
   ·rename_i he;obtain⟨rfl,rfl⟩:=he
    cases hd
    simp only[an]at hr;obtain⟨v,us,rfl,h1,h2⟩:=hr;simp only[au]at h1;exact⟨[_],us,rfl,h1,h2⟩
   ·cases hd
  ·cases hd
theorem dC{k:K}{cs:List AV}{x:k.T}{vs:List Value}(hd:dg k cs=some x)(hr:an Z ψ h w cs vs):aB Z w k x vs:=by
 unfold dg at hd
 split at hd
 ·rename_i x' h1
  cases hd
  obtain⟨us,ws,rfl,k1,k2⟩:=zF h1 hr;simp only[an]at k2;subst k2;rw[List.append_nil];exact k1
 ·cases hd
theorem lX{k:K}{x:k.T}{v:Value}(hr:aB Z w k x v.cells.toList)(hp:k.isAgg=true→∃vs,v=.agg vs)(hn:k.isAgg=false→v.cells=#[v]):au Z ψ h w (b5 k x) v:=by
 cases k with
 |int ik=>rw[hn rfl]at hr;simp only[aB]at hr;simp only[b5,au];simpa using hr
 |bool=>rw[hn rfl]at hr;simp only[aB]at hr;simp only[b5,au];simpa using hr
 |str=>rw[hn rfl]at hr;simp only[aB]at hr;simp only[b5,au];simpa using hr
 |fn f=>rw[hn rfl]at hr;simp only[aB]at hr;simp only[b5,au];exact⟨#[],by simpa using hr,by simp[an]⟩
 |sl k=>rw[hn rfl]at hr;simp only[b5,au];exact⟨hr,by simp⟩
 |mp kk vk=>rw[hn rfl]at hr;simp only[b5,au];exact hr
 |pair a b =>obtain⟨vs,rfl⟩:=hp rfl;simp only[b5,au];exact⟨vs,rfl,iD hr⟩
 |one k =>obtain⟨vs,rfl⟩:=hp rfl;simp only[b5,au];exact⟨vs,rfl,iD hr⟩
end
end Go.Vs
namespace Go.Vs
theorem Heap.iJ{n m:Nat}(aW:m≠n):∀h:Heap,(h.del n).get m=h.get m
 |[]=>rfl
 |(i,o)::r=>by
  simp only[Heap.del]
  split
  ·rename_i hi;rw[Heap.iJ aW r];simp only[Heap.get];rw[if_neg (by omega)]
  ·simp only[Heap.get]
   split
   ·rfl
   ·exact Heap.iJ aW r
theorem Heap.gD(n:Nat):∀h:Heap,(h.del n).get n=none
 |[]=>rfl
 |(i,o)::r=>by
  simp only[Heap.del]
  split
  ·exact Heap.gD n r
  ·rename_i hi;simp only[Heap.get];rw[if_neg hi];exact Heap.gD n r
theorem Heap.uZ(h:Heap)(n:Nat)(o:Ob):(h.set n o).get n=some o:=by simp[Heap.set,Heap.get]
theorem Heap.AD{n m:Nat}(aW:m≠n)(h:Heap)(o:Ob):(h.set n o).get m=h.get m:=by simp only[Heap.set,Heap.get];rw[if_neg (by omega)];exact Heap.iJ aW h
theorem Heap.u4{n m:Nat}{h:Heap}{o:Ob}(hg:(h.del n).get m=some o):h.get m=some o∧m≠n:=by
 by_cases aW:m=n
 ·subst aW;rw[Heap.gD]at hg;cases hg
 ·rw[Heap.iJ aW]at hg;exact⟨hg,aW⟩
theorem Heap.get_append(a b:Heap)(n:Nat):(a++b).get n=(match a.get n with|some o=>some o|none=>b.get n):=by
 induction a with
 |nil=>rfl
 |cons p r ih =>
  obtain⟨i,o⟩:=p;simp only[List.cons_append,Heap.get]
  split
  ·rfl
  ·exact ih
def ku(Z:Nat→Prop)(w:World)(k:K)(xs:List k.T)(vs:List Value):Prop :=∀(i:Nat) (x:k.T),xs[i]? = some x→aB Z w k x ((vs.drop (i*k.sz)).take k.sz)
abbrev Hp:=Nat→Option Ob
def dx(w:World)(e:TypeId)(size:Nat)(v:Value)(n:Nat)(vs:List Value):Prop :=vs.length=n*size ∧((n=0∧∃A,v=.slice A 0 0) ∨ ∃g cap cur,v=.slice (some ⟨g,0,none⟩) n cap∧0<cap∧w.heap[g]? = some (.cells cur e (0,0))∧n≤cap∧cap≤maxLen∧cur.size=cap*size∧cur.toList.take (n*size)=vs)
theorem dx.of{w:World}{base e size n:Nat}{v:Value}{vs:List Value}(h:w.ownsRow base e size v n vs):dx w e size v n vs:=by
 obtain⟨h1,h2⟩:=h;refine⟨h1,?_⟩;rcases h2 with⟨rfl,h2⟩|⟨g,cap,cur,rfl,_,h3,h4,h5,h6,h7⟩
 ·exact .inl ⟨h2,none,rfl⟩
 ·by_cases hc:cap=0
  ·subst hc;have:n=0:=by omega
   subst this;exact .inl ⟨rfl,_,rfl⟩
  ·exact .inr ⟨g,cap,cur,rfl,by omega,h3,h4,h5,h6,h7⟩
theorem dx.slice{w:World}{e size n:Nat}{v:Value}{vs:List Value}(h:dx w e size v n vs):∃A c,v=.slice A n c:=by
 rcases h.2 with⟨h0,A,rfl⟩|⟨g,cap,cur,rfl,_⟩
 ·subst h0;exact⟨A,0,rfl⟩
 ·exact⟨_,_,rfl⟩
theorem dx.one{w:World}{e size n:Nat}{v:Value}{vs:List Value}(h:dx w e size v n vs):v.cells=#[v]∧v.oneCell'=true:=by obtain⟨A,c,rfl⟩:=h.slice;exact⟨rfl,by simp[Value.oneCell']⟩
theorem dx.kept{w w':World}{e size n:Nat}{v:Value}{vs:List Value}(ho:dx w e size v n vs)(hk:∀g,ob v=some g→w'.heap[g]? = w.heap[g]?):dx w' e size v n vs:=by
 obtain⟨h1,h2⟩:=ho;refine⟨h1,?_⟩;rcases h2 with h2|⟨g,cap,cur,rfl,hc,hh,r⟩
 ·exact .inl h2
 ·exact .inr ⟨g,cap,cur,rfl,hc,(hk g (by simp only[ob];rw[if_neg (by omega)])).trans hh,r⟩
def jr(Z:Nat→Prop)(w:World):(ok:OK)→Value→ok.T→Prop
 |.row ty k,v,xs=>∃vs,dx w ty k.sz v xs.length vs∧ku Z w k xs vs
 |.map kk vk,v,es=>∃m bQ clock,v=.map (some m)∧w.heap[m]? = some (.map bQ clock)∧Fl (aB Z w kk) (aB Z w vk) kk.isAgg vk.isAgg es bQ.toList∧bQ.toList.Pairwise (fun a b=>a.born≠b.born)∧∀e∈bQ.toList,e.born<clock
 |.iter kk vk,v,x=>∃r m since seen bQ clock,v=.pointer (some ⟨r,0,none⟩)∧w.heap[r]? = some (.mapIter (some m) since seen clock)∧Z m∧w.heap[m]? = some (.map bQ clock) ∧ bQ.toList.Pairwise (fun a b=>a.born≠b.born)∧since=clock∧(∀e∈bQ.toList,e.born<clock)∧Fl (aB Z w kk) (aB Z w vk) kk.isAgg vk.isAgg x.2 (bQ.toList.filter fun e => !seen.contains e.born) ∧(match x.1 with|none=>True|some c=>∃e∈bQ.toList,seen.back? = some e.born∧Fl (aB Z w kk) (aB Z w vk) kk.isAgg vk.isAgg [c] [e])
 |.nX,v,x=>∃r,v=.pointer (some ⟨r,0,none⟩)∧w.heap[r]? = some (.stringIter x.1 x.2)
theorem jr.lt{Z:Nat→Prop}{w:World}:∀{ok:OK} {v:Value} {x:ok.T} {b:Nat},jr Z w ok v x→ob v=some b→b<w.heap.size
 |.row ty k,v,xs,b,h,hb=>by
  obtain⟨vs,⟨_,h⟩,_⟩:=h;rcases h with⟨_,A,rfl⟩|⟨g,cap,cur,rfl,hc,h2,_⟩
  ·cases A<;>simp[ob]at hb
  ·simp only[ob]at hb;rw[if_neg (by omega)]at hb
   cases hb
   exact(abX.1 h2).1
 |.map _ _,v,_,b,h,hb=>by obtain⟨m,bQ,clock,rfl,h2,_⟩:=h;simp only[ob,Option.some.injEq]at hb;subst hb;exact(abX.1 h2).1
 |.iter _ _,v,_,b,h,hb=>by obtain⟨r,m,since,seen,bQ,clock,rfl,h2,_⟩:=h;simp only[ob,Option.some.injEq]at hb;subst hb;exact(abX.1 h2).1
 |.nX,v,_,b,h,hb=>by obtain⟨r,rfl,h2⟩:=h;simp only[ob,Option.some.injEq]at hb;subst hb;exact(abX.1 h2).1
theorem jr.one{Z:Nat→Prop}{w:World}:∀{ok:OK} {v:Value} {x:ok.T},jr Z w ok v x→v.cells=#[v]∧v.oneCell'=true
 |.row ty k,v,xs,h=>by obtain⟨vs,h,_⟩:=h;obtain⟨A,c,rfl⟩:=h.slice;exact⟨rfl,by simp[Value.oneCell']⟩
 |.map _ _,v,_,h=>by obtain⟨m,bQ,clock,rfl,_⟩:=h;exact⟨rfl,by simp[Value.oneCell']⟩
 |.iter _ _,v,_,h=>by obtain⟨r,m,since,seen,bQ,clock,rfl,_⟩:=h;exact⟨rfl,by simp[Value.oneCell']⟩
 |.nX,v,_,h=>by obtain⟨r,rfl,_⟩:=h;exact⟨rfl,by simp[Value.oneCell']⟩
theorem jr.kept{Z Z':Nat→Prop}{w w':World}(hz:∀b,Z b→Z' b)(sm:cj Z w w'):∀{ok:OK} {v:Value} {x:ok.T},(∀g,ob v=some g→w'.heap[g]? = w.heap[g]?)→jr Z w ok v x→jr Z' w' ok v x
 |.row ty k,v,xs,hk,h=>by obtain⟨vs,h1,h2⟩:=h;exact⟨vs,h1.kept hk,fun i x hx=>(h2 i x hx).mono hz sm⟩
 |.map _ _,v,_,hk,h=>by obtain⟨m,bQ,clock,rfl,h2,h3,h4⟩:=h;exact⟨m,bQ,clock,rfl,(hk m rfl).trans h2,h3.imp (fun _ _ h=>h.mono hz sm) (fun _ _ h=>h.mono hz sm),h4⟩
 |.iter _ _,v,x,hk,h=>by
  obtain⟨r,m,since,seen,bQ,clock,rfl,h2,h3,h4,h5,h6,h7,h8,h9⟩:=h;refine⟨r,m,since,seen,bQ,clock,rfl,(hk r rfl).trans h2,hz _ h3,(sm m h3).trans h4,h5,h6,h7,h8.imp (fun _ _ h=>h.mono hz sm) (fun _ _ h=>h.mono hz sm),?_⟩
  split
  ·trivial
  ·rename_i c hc;rw[hc]at h9;obtain⟨e,he,lY,zj⟩:=h9;exact⟨e,he,lY,zj.imp (fun _ _ h=>h.mono hz sm) (fun _ _ h=>h.mono hz sm)⟩
 |.nX,v,_,hk,h=>by obtain⟨r,rfl,h2⟩:=h;exact⟨r,rfl,(hk r rfl).trans h2⟩
structure Good(Z:Nat→Prop)(ψ:Nat→Value)(h:Hp)(w:World)(B0:Nat)(O:Nat→Prop):Prop where
 box:∀id ty cs,h id=some (.box ty cs)→∃g vs,ψ id=.pointer (some ⟨g,0,none⟩)∧w.heap[g]? = some (.cells vs ty (0,0))∧an Z ψ h w cs vs.toList∧∀u∈vs.toList,u.oneCell'=true
 row:∀id ok x,h id=some (.own ok x)→jr Z w ok (ψ id) x
 live:∀id g,h id≠none→ob (ψ id)=some g→¬Z g∧(B0≤g∨O g)
 apart:∀id mP g,h id≠none→h mP≠none→ob (ψ id)=some g→ob (ψ mP)=some g→id=mP
 jO:∀b,Z b→b<w.heap.size
variable {Z Z':Nat→Prop} {ψ ψ':Nat→Value} {h h':Hp} {w w':World} {B0:Nat} {O:Nat→Prop}
theorem Good.sub(g:Good Z ψ h w B0 O)(hs:∀id o,h' id=some o→h id=some o):Good Z ψ h' w B0 O:=by
 have hn:∀id,h' id≠none→h id≠none:=fun id hn=>by obtain⟨o,ho⟩:=acf.1 hn;rw[hs id o ho];simp
 refine⟨fun id ty cs hb=>?_,fun id ok x hb=>g.row id ok x (hs _ _ hb),fun id b h1 h2=>g.live id b (hn id h1) h2,fun id mP b h1 h2 h3 h4=>g.apart id mP b (hn _ h1) (hn _ h2) h3 h4,g.jO⟩;obtain⟨b,vs,h1,h2,h3,h4⟩:=g.box id ty cs (hs _ _ hb);exact⟨b,vs,h1,h2,an.less (fun _ h=>h) (cj.refl _ _) (fun id br=>⟨hn id br,rfl⟩) h3,h4⟩
theorem Good.freeze(g:Good Z ψ h w B0 O)(hs:∀id o,h' id=some o→h id=some o)(hz:∀b,Z b→Z' b) (AE:∀b,Z' b→Z b∨∃id,h id≠none∧h' id=none∧ob (ψ id)=some b):Good Z' ψ h' w B0 O:=by
 have hn:∀id,h' id≠none→h id≠none:=fun id hn=>by obtain⟨o,ho⟩:=acf.1 hn;rw[hs id o ho];simp
 have lt:∀id b,h id≠none→ob (ψ id)=some b→b<w.heap.size:=by
  intro id b h1 h2;obtain⟨o,ho⟩:=acf.1 h1
  cases o with
  |box ty cs =>obtain⟨gg,vs,e1,e2,_⟩:=g.box id ty cs ho;rw[e1]at h2;simp only[ob,Option.some.injEq]at h2;subst h2;exact(abX.1 e2).1
  |own ok x=>exact(g.row id ok x ho).lt h2
 refine⟨fun id ty cs hb=>?_,fun id ok x hb=>?_,fun id b h1 h2=>⟨fun ZB=>?_,(g.live id b (hn id h1) h2).2⟩,fun id mP b h1 h2 h3 h4=>g.apart id mP b (hn _ h1) (hn _ h2) h3 h4,fun b hb=>?_⟩
 ·obtain⟨b,vs,h1,h2,h3,h4⟩:=g.box id ty cs (hs _ _ hb);exact⟨b,vs,h1,h2,an.less hz (cj.refl _ _) (fun id br=>⟨hn id br,rfl⟩) h3,h4⟩
 ·exact(g.row id ok x (hs _ _ hb)).kept hz (cj.refl _ _) (fun _ _=>rfl)
 ·rcases AE b ZB with h3|⟨mP,h3,h4,h5⟩
  ·exact(g.live id b (hn id h1) h2).1 h3
  ·have:=g.apart id mP b (hn id h1) h3 h2 h5;subst this;exact h1 h4
 ·rcases AE b hb with h3|⟨mP,h3,h4,h5⟩
  ·exact g.jO b h3
  ·exact lt mP b h3 h5
theorem u5{ty:TypeId}{k:K}{xs:List k.T}{v:Value}{vs:List Value}(ho:dx w ty k.sz v xs.length vs)(hv:ku Z w k xs vs)(hz:∀b,Z b→Z' b)(hb:∀b,ob v=some b→Z' b) :
  aB Z' w (.sl k) xs [v]:=by
 simp only[aB];refine⟨v,rfl,?_⟩;obtain⟨hl,e⟩:=ho;rcases e with⟨h0,A,rfl⟩|⟨g,cap,cur,rfl,Da,hh,hc,_,hs,aey⟩
 ·have:xs=[]:=ace h0;subst this;exact⟨A,0,rfl,acn _,fun _=>rfl,fun i x hx=>by simp at hx⟩
 ·refine⟨some ⟨g,0,none⟩,cap,rfl,hc,fun e=>(by cases e),fun i x hx=>?_⟩;have hi:i<xs.length:=(abr.1 hx).1;refine⟨⟨g,0,none⟩,_,rfl,hb g (by simp only[ob];rw[if_neg (by omega)]),(hv i x hx).mono hz (cj.refl _ _),fun j u hu=>?_⟩;rw[cw,Nat.zero_add];simp only[World.cell?,hh];rw[List.getElem?_take]at hu
  split at hu
  ·rename_i hj;rw[List.getElem?_drop]at hu;rw[←aey,List.getElem?_take]at hu
   split at hu
   ·simpa using hu
   ·cases hu
  ·cases hu
theorem D2{hh:Heap}{a:AV}{v:Value}(g:Good Z ψ hh.get w B0 O)(hz:∀b,Z b→Z' b)(hb:∀id b,a=.bC id→hh.get id≠none→ob (ψ id)=some b→Z' b)(hr:au Z ψ hh.get w a v):au Z' ψ hh.get w (cG hh a) v:=by
 unfold cG
 split
 ·rename_i id
  split
  ·rename_i ty k xs hg;simp only[au]at hr;have hv:=hr.2 (by rw[hg];simp);subst hv;obtain⟨vs,h1,h2⟩:=g.row id (.row ty k) xs hg;simp only[au];exact⟨u5 h1 h2 hz (fun b Xo=>hb id b rfl (by rw[hg];simp) Xo),by simp⟩
  ·rename_i kk vk es hg;simp only[au]at hr;have hv:=hr.2 (by rw[hg];simp);subst hv;obtain⟨m,bQ,clock,h1,h2,h3,_⟩:=g.row id (.map kk vk) es hg;simp only[au,aB];refine⟨some m,by rw[h1],.inr ⟨m,bQ,clock,rfl,hb id m rfl (by rw[hg];simp) (by rw[h1];rfl),h2,h3.imp (fun _ _ h=>h.mono hz (cj.refl _ _)) (fun _ _ h=>h.mono hz (cj.refl _ _))⟩⟩
  ·simp only[au]
 ·exact hr.less hz (cj.refl _ _) (fun id br=>⟨br,rfl⟩)
theorem oi{hh:Heap}(g:Good Z ψ hh.get w B0 O)(hz:∀b,Z b→Z' b):∀{cs:List AV} {vs:List Value},(∀id b,AV.bC id∈cs→hh.get id≠none→ob (ψ id)=some b→Z' b)→an Z ψ hh.get w cs vs→an Z' ψ hh.get w (cs.map (cG hh)) vs
 |[],_,_,hr=>by simpa only[an,List.map_nil] using hr
 |a::r,_,hb,hr=>by simp only[an,List.map_cons]at hr ⊢;obtain⟨v,us,rfl,h1,h2⟩:=hr;exact⟨v,us,rfl,D2 g hz (fun id b e=>hb id b (by rw[e];simp)) h1,oi g hz (fun id b e=>hb id b (abq _ e)) h2⟩
theorem Nl(hh:Heap)(a:AV):∀id o,(drop1 hh a).get id=some o→hh.get id=some o:=by
 intro id o hg;unfold drop1 at hg
 split at hg
 ·exact(Heap.u4 hg).1
 ·exact hg
theorem dW:∀(cs:List AV) (hh:Heap),∀id o,(cC hh cs).get id=some o→hh.get id=some o
 |[],_,_,_,hg=>hg
 |c::r,hh,id,o,hg=>Nl hh c id o (dW r (drop1 hh c) id o hg)
theorem AF:∀(cs:List AV) (hh:Heap) (id:Nat),AV.bC id∈cs→(cC hh cs).get id=none
 |[],_,_,hm=>by simp at hm
 |c::r,hh,id,hm=>by
  simp only[cC];rcases abw.1 hm with rfl|hm
  ·cases hg:(cC (drop1 hh (.bC id)) r).get id with
   |none=>rfl
   |some o =>have:=dW r _ id o hg;simp only[drop1,Heap.gD]at this;cases this
  ·exact AF r _ id hm
theorem pw:∀(cs:List AV) (hh:Heap) (id:Nat),AV.bC id∉cs→(cC hh cs).get id=hh.get id
 |[],_,_,_=>rfl
 |c::r,hh,id,hm=>by
  simp only[cC];rw[pw r _ id (fun h=>hm (List.mem_cons_of_mem _ h))];unfold drop1
  split
  ·rename_i mP;exact Heap.iJ (fun e=>hm (by rw[e];simp)) hh
  ·rfl
def qM(Z:Nat→Prop)(ψ:Nat→Value)(h:Hp)(cs:List AV):Nat→Prop:=fun b=>Z b∨∃id,AV.bC id∈cs∧h id≠none∧ob (ψ id)=some b
theorem iK{hh:Heap}(g:Good Z ψ hh.get w B0 O)(cs:List AV):Good (qM Z ψ hh.get cs) ψ (cC hh cs).get w B0 O :=g.freeze (dW cs hh) (fun _ hb=>.inl hb) (fun b hb=>by
  rcases hb with hb|⟨id,h1,h2,h3⟩
  ·exact .inl hb
  ·exact .inr ⟨id,h2,AF cs hh id h1,h3⟩)
end Go.Vs
namespace Go.Vs
def Own(ψ:Nat→Value)(h:Hp)(b:Nat):Prop:=∃id,h id≠none∧ob (ψ id)=some b
structure cE(ψ:Nat→Value)(h:Hp)(w w':World):Prop where
 os:w'.os=w.os
 tape:w'.tape=w.tape
 output:w'.output=w.output
 size:w.heap.size≤w'.heap.size
 block:∀b,b<w.heap.size→¬Own ψ h b→w'.heap[b]? = w.heap[b]?
structure Next(Z:Nat→Prop)(ψ:Nat→Value)(h:Hp)(w:World)(B0:Nat)(O:Nat→Prop)(N:Nat→Prop)(Z':Nat→Prop)(ψ':Nat→Value)(h':Hp)(w':World):Prop where
 fN:∀b,Z b→Z' b
 eC:∀b,Z' b→Z b∨Own ψ h b∨w.heap.size≤b
 keep:cE ψ h w w'
 ids:∀id,h' id≠none→(h id≠none∧ψ' id=ψ id)∨N id
 da:Good Z' ψ' h' w' B0 O
variable {Z Z':Nat→Prop} {ψ ψ':Nat→Value} {h h':Hp} {w w':World} {B0:Nat} {O:Nat→Prop} {N:Nat→Prop}
theorem cE.refl(ψ:Nat→Value)(h:Hp)(w:World):cE ψ h w w:=⟨rfl,rfl,rfl,acn _,fun _ _ _=>rfl⟩
theorem cE.same(k:cE ψ h w w')(g:Good Z ψ h w B0 O):cj Z w w':=fun b hb=>k.block b (g.jO b hb) (fun⟨id,h1,h2⟩=>(g.live id b h1 h2).1 hb)
theorem Next.same(n:Next Z ψ h w B0 O N Z' ψ' h' w')(g:Good Z ψ h w B0 O):cj Z w w':=n.keep.same g
theorem Next.refl(g:Good Z ψ h w B0 O):Next Z ψ h w B0 O N Z ψ h w :=⟨fun _ h=>h,fun _ h=>.inl h,cE.refl _ _ _,fun _ br=>.inl ⟨br,rfl⟩,g⟩
theorem Next.rep(n:Next Z ψ h w B0 O N Z' ψ' h' w')(g:Good Z ψ h w B0 O){a:AV}{v:Value}(hm:aD (fun id=>¬N id) a)(hr:au Z ψ h w a v):au Z' ψ' h' w' a v :=hr.move n.fN (n.same g) (fun id hp br=>(n.ids id br).resolve_right hp) hm
theorem Good.bF(g:Good Z ψ h w B0 O){b:Nat}(ho:Own ψ h b):b<w.heap.size:=by
 obtain⟨id,h1,h2⟩:=ho;obtain⟨o,ho⟩:=acf.1 h1
 cases o with
 |box ty cs =>obtain⟨gg,vs,e1,e2,_⟩:=g.box id ty cs ho;rw[e1]at h2;simp only[ob,Option.some.injEq]at h2;subst h2;exact(abX.1 e2).1
 |own ok x=>exact(g.row id ok x ho).lt h2
theorem Good.more(g:Good Z ψ h w B0 O)(k:cE ψ h w w')(tw:∀b,Own ψ h b→w'.heap[b]? = w.heap[b]?) (hold:∀id,¬N id→h' id=h id∧ψ' id=ψ id) (aX:∀id ty cs,h id=some (.box ty cs)→av (fun i=>¬N i) cs) (PL:∀id ty cs,N id→h' id=some (.box ty cs)→∃g vs,ψ' id=.pointer (some ⟨g,0,none⟩)∧w'.heap[g]? = some (.cells vs ty (0,0))∧an Z ψ' h' w' cs vs.toList∧∀u∈vs.toList,u.oneCell'=true) (mR:∀id ok x,N id→h' id=some (.own ok x)→jr Z w' ok (ψ' id) x) (AG:∀id b,N id→h' id≠none→ob (ψ' id)=some b→w.heap.size≤b) (JX:∀id mP b,N id→N mP→h' id≠none→h' mP≠none→ob (ψ' id)=some b→ob (ψ' mP)=some b→id=mP) (hB:B0≤w.heap.size) :
  Next Z ψ h w B0 O N Z ψ' h' w':=by
 have ti:∀id,h' id≠none→(h id≠none∧ψ' id=ψ id)∨N id:=fun id br=>by
  by_cases hn:N id
  ·exact .inr hn
  ·obtain⟨e1,e2⟩:=hold id hn;exact .inl ⟨by rwa [e1]at br,e2⟩
 have sm:cj Z w w':=k.same g;have yh:∀id b,¬N id→h' id≠none→ob (ψ' id)=some b→Own ψ h b:=fun id b hn h1 h2=>by obtain⟨e1,e2⟩:=hold id hn;exact⟨id,by rwa [e1]at h1,by rwa [e2]at h2⟩
 refine⟨fun _ h=>h,fun _ h=>.inl h,k,ti,⟨fun id ty cs hb=>?_,fun id ok x hb=>?_,fun id b h1 h2=>?_,fun id mP b h1 h2 h3 h4=>?_,fun b hb=>adL (g.jO b hb) k.size⟩⟩
 ·by_cases hn:N id
  ·exact PL id ty cs hn hb
  ·obtain⟨e1,e2⟩:=hold id hn;rw[e1]at hb;obtain⟨gg,vs,h1,h2,h3,h4⟩:=g.box id ty cs hb;have ho:Own ψ h gg:=⟨id,by rw[hb];simp,by rw[h1];rfl⟩;exact⟨gg,vs,by rw[e2,h1],(tw gg ho).trans h2,h3.move (fun _ h=>h) sm (fun i hp br=>(ti i br).resolve_right hp) (aX id ty cs hb),h4⟩
 ·by_cases hn:N id
  ·exact mR id ok x hn hb
  ·obtain⟨e1,e2⟩:=hold id hn;rw[e1]at hb;rw[e2];exact(g.row id ok x hb).kept (fun _ h=>h) sm (fun gg Nm=>tw gg ⟨id,by rw[hb];simp,Nm⟩)
 ·by_cases hn:N id
  ·have:=AG id b hn h1 h2;exact⟨fun hz=>by have:=g.jO b hz;omega,.inl (by omega)⟩
  ·obtain⟨e1,e2⟩:=hold id hn;rw[e1]at h1;rw[e2]at h2;exact g.live id b h1 h2
 ·by_cases hn:N id<;>by_cases JY:N mP
  ·exact JX id mP b hn JY h1 h2 h3 h4
  ·have:=AG id b hn h1 h3;have:=g.bF (yh mP b JY h2 h4);omega
  ·have:=AG mP b JY h2 h4;have:=g.bF (yh id b hn h1 h3);omega
  ·obtain⟨e1,e2⟩:=hold id hn;obtain⟨e3,e4⟩:=hold mP JY;rw[e1]at h1;rw[e2]at h3;rw[e3]at h2;rw[e4]at h4;exact g.apart id mP b h1 h2 h3 h4
end Go.Vs
namespace Go.Vs
variable {P:Program} {Z Z':Nat→Prop} {ψ ψ':Nat→Value} {h h':Hp} {w w':World} {B0:Nat} {O:Nat→Prop} {N:Nat→Prop}
theorem r9{α:Type}:∀(vs cs:List α) (off:Nat),off+vs.length≤cs.length→dQ cs off vs=cs.take off++vs++cs.drop (off+vs.length)
 |[],cs,off,_=>by simp[dQ]
 |v::r,cs,off,hl=>by
  simp only[List.length_cons]at hl;simp only[dQ];rw[r9 r (cs.set off v) (off+1) (by rw[List.length_set];omega)];have h1:(cs.set off v).take (off+1)=cs.take off++[v]:=by rw[List.take_set,List.take_succ_eq_append_getElem (by omega),List.set_append_right _ _ (by rw[List.length_take];omega)];rw[List.length_take,Nat.min_eq_left (by omega)];simp
  have h2:(cs.set off v).drop (off+1+r.length)=cs.drop (off+(r.length+1)):=by rw[List.drop_set_of_lt (by omega)];congr 1;omega
  rw[h1,h2,List.append_assoc,List.append_assoc,List.append_assoc];rfl
theorem gi{t:TypeId}{b:Bool}(hb:DX P t=some b):(isAgg t).run P w=.ok b w:=by
 unfold DX at hb;obtain⟨d,hd,rfl⟩:=ac7.1 hb;simp only[isAgg,Sem.run_bind,run_underlying hd,Result.andThen_ok]
 cases d<;>rfl
theorem tx{t:TypeId}{d:TypeDesc}(hd:P.underlying t=some d):∃i,P.info? t=some i:=by
 unfold Program.underlying at hd
 split at hd
 ·rename_i heq;exact⟨_,heq⟩
 ·rename_i heq;exact⟨_,heq⟩
 ·cases hd
theorem dn{t:TypeId}{i:TypeInfo}(hi:P.info? t=some i):(sizeOf t).run P w=.ok (P.cellsOf t) w:=by simp[sizeOf,typeInfo,hi,Program.cellsOf]
theorem yi{t:TypeId}{b:Bool}(hb:DX P t=some b):∃i,P.info? t=some i:=by unfold DX at hb;obtain⟨d,hd,rfl⟩:=ac7.1 hb;exact tx hd
theorem jT{t:TypeId}{cs:List AV}{us:List Value}{a:Addr}{x:AV}(hr:an Z ψ h w cs us)(hc:∀(j:Nat) u,us[j]? = some u→w.cell? (a.add j)=some u)(hx:dV P t cs=some x) :
  ∃V,(Instr.loadAt t (.pointer (some a))).run P w=.ok V w∧au Z ψ h w x V:=by
 unfold dV at hx;have hlen:=hr.length
 split at hx
 ·rename_i hb
  split at hx
  ·rename_i hl
   cases hx
   obtain⟨i,hi⟩:=yi hb;refine⟨.agg (us.take (P.cellsOf t)).toArray,?_,by simp only[au];exact⟨_,rfl,by simpa using hr.take (P.cellsOf t)⟩⟩;have aF:(us.take (P.cellsOf t)).length=P.cellsOf t:=by rw[List.length_take];omega
   have hld:=run_loadCells_list (P:=P) w a (us.take (P.cellsOf t)) (fun j v hv=>hc j v (by
    rw[List.getElem?_take]at hv;split at hv
    ·exact hv
    ·cases hv))
   rw[aF]at hld;simp[Instr.loadAt,Instr.sureAddr,loadVar,gi hb,dn hi,hld]
  ·cases hx
 ·rename_i hb
  split at hx
  ·rename_i c r
   cases hx
   simp only[an]at hr;obtain⟨v,iI,rfl,h1,h2⟩:=hr;refine⟨v,?_,h1⟩;have:=hc 0 v rfl;rw[D1]at this;simp[Instr.loadAt,Instr.sureAddr,loadVar,gi hb,this]
  ·cases hx
 ·cases hx
theorem k9{t:TypeId}{i:TypeInfo}(hi:P.info? t=some i)(g off:Nat)(V:Value)(cur:Array Value)(ty:TypeId)(hg:w.heap[g]? = some (.cells cur ty (0,0)))(hs:V.cells.size=P.cellsOf t) (hl:off+V.cells.size≤cur.size) (h1:∀v∈V.cells.toList,v.oneCell'=true) :
  (Instr.storeAt t (.pointer (some ⟨g,off,none⟩)) V).run P w=.ok () (w.setRow g (cur.toList.take off++V.cells.toList++cur.toList.drop (off+V.cells.size)).toArray):=by
 have u6:=run_storeCells_at P g off ty V.cells.toList 0 cur w hg (by simpa using hl) h1;simp only[Nat.add_zero,Array.length_toList]at u6;simp[Instr.storeAt,Instr.sureAddr,storeVar,dn hi,hs,u6]
def dO{α:Type}(f:Nat→α)(i:Nat)(v:α):Nat→α:=fun j=>if j=i then v else f j
theorem aU{α:Type}(f:Nat→α)(i:Nat)(v:α):dO f i v i=v:=by simp[dO]
theorem cU{α:Type}(f:Nat→α){i j:Nat}(v:α)(aW:j≠i):dO f i v j=f j:=by simp[dO,aW]
theorem cE.alloc(ψ:Nat→Value)(h:Hp)(w:World)(o:Obj):cE ψ h w (w.alloc o) :=⟨rfl,rfl,rfl,by rw[World.size_alloc];omega,fun b hb _=>heap_alloc_old w o hb⟩
theorem AH(g:Good Z ψ h w B0 O)(hB:B0≤w.heap.size)(id:Nat)(ty:TypeId){cs:List AV}{vs:Array Value}(hN:N id)(hr:an Z ψ h w cs vs.toList)(h1:∀u∈vs.toList,u.oneCell'=true) (aX:∀i ty cs,h i=some (.box ty cs)→av (fun i=>i≠id) cs) (hm:av (fun i=>i≠id) cs) :
  Next Z ψ h w B0 O N Z (dO ψ id (.pointer (some ⟨w.heap.size,0,none⟩))) (dO h id (some (.box ty cs))) (w.alloc (.cells vs ty)):=by
 have n:Next Z ψ h w B0 O (·=id) Z (dO ψ id (.pointer (some ⟨w.heap.size,0,none⟩))) (dO h id (some (.box ty cs))) (w.alloc (.cells vs ty)):=by
  refine g.more (cE.alloc _ _ _ _) (fun b hb=>heap_alloc_old w _ (g.bF hb)) (fun i hi=>⟨cU _ _ hi,cU _ _ hi⟩) (fun i zg cs' hb=>?_) (fun i zg cs' hi hb=>?_) (fun i ok x hi hb=>?_) (fun i b hi aW hb=>?_) (fun i i' b hi u7 _ _ _ _=>by subst hi;exact u7.symm) hB
  ·exact aX i zg cs' hb
  ·subst hi;rw[aU]at hb;cases hb;refine⟨w.heap.size,vs,aU _ _ _,heap_alloc_new _ _,?_,h1⟩;refine hr.move (fun _ h=>h) ((cE.alloc ψ h w _).same g) (fun j hj aW=>?_) hm;rw[cU _ _ hj]at aW;exact⟨aW,cU _ _ hj⟩
  ·subst hi;rw[aU]at hb;cases hb
  ·subst hi;rw[aU]at hb;simp only[ob,Option.some.injEq]at hb;omega
 exact⟨n.fN,n.eC,n.keep,fun i hi=>(n.ids i hi).imp (fun h=>h) (fun e=>by subst e;exact hN),n.da⟩
theorem PM{h:Hp}{id:Nat}{o:Ob}(br:h id≠none):∀i,dO h id (some o) i≠none→h i≠none:=fun i hi=>by
 by_cases e:i=id
 ·subst e;exact br
 ·rwa [cU _ _ e]at hi
theorem Good.write(g:Good Z ψ h w B0 O)(id:Nat)(br:h id≠none)(k:cE ψ h w w')(PN:∀b,ob (ψ id)≠some b→b<w.heap.size→w'.heap[b]? = w.heap[b]?)(o':Ob) (PL:∀ty cs,o'=.box ty cs→∃gg vs,ψ id=.pointer (some ⟨gg,0,none⟩)∧w'.heap[gg]? = some (.cells vs ty (0,0))∧an Z ψ h w' cs vs.toList∧∀u∈vs.toList,u.oneCell'=true) (mR:∀ok x,o'=.own ok x→jr Z w' ok (ψ id) x) :
  Next Z ψ h w B0 O N Z ψ (dO h id (some o')) w':=by
 have hs:=PM (o:=o') br;have sm:=k.same g;refine⟨fun _ h=>h,fun _ h=>.inl h,k,fun i hi=>.inl ⟨hs i hi,rfl⟩,⟨fun i ty cs hb=>?_,fun i ok x hb=>?_,fun i b h1 h2=>g.live i b (hs i h1) h2,fun i i' b h1 h2 h3 h4=>g.apart i i' b (hs i h1) (hs i' h2) h3 h4,fun b hb=>adL (g.jO b hb) k.size⟩⟩
 ·by_cases e:i=id
  ·subst e;rw[aU]at hb;cases hb;obtain⟨gg,vs,h1,h2,h3,h4⟩:=PL _ _ rfl;exact⟨gg,vs,h1,h2,h3.less (fun _ h=>h) (cj.refl _ _) (fun j hj=>⟨hs j hj,rfl⟩),h4⟩
  ·rw[cU _ _ e]at hb;obtain⟨gg,vs,h1,h2,h3,h4⟩:=g.box i ty cs hb;refine⟨gg,vs,h1,?_,h3.less (fun _ h=>h) sm (fun j hj=>⟨hs j hj,rfl⟩),h4⟩;rw[PN gg (fun hh=>e (g.apart i id gg (by rw[hb];simp) br (by rw[h1];rfl) hh)) (Array.getElem?_eq_some_iff.1 h2).1];exact h2
 ·by_cases e:i=id
  ·subst e;rw[aU]at hb;cases hb;exact mR _ _ rfl
  ·rw[cU _ _ e]at hb;exact(g.row i ok x hb).kept (fun _ h=>h) sm (fun gg Nm=>PN gg (fun hh=>e (g.apart i id gg (by rw[hb];simp) br Nm hh)) (g.bF ⟨i,by rw[hb];simp,Nm⟩))
theorem cE.setRow{gg:Nat}(ho:Own ψ h gg)(arr:Array Value):cE ψ h w (w.setRow gg arr) :=⟨rfl,rfl,rfl,by simp[World.setRow],fun b _ hb=>by have:gg≠b:=fun e=>hb (e▸ho);simp[World.setRow,Array.getElem?_modify,this]⟩
theorem setRow_other{gg b:Nat}(arr:Array Value)(aW:gg≠b):(w.setRow gg arr).heap[b]? = w.heap[b]? := by simp[World.setRow,Array.getElem?_modify,aW]
theorem AI(g:Good Z ψ h w B0 O){id:Nat}{ty:TypeId}{cs vs:List AV}(hb:h id=some (.box ty cs)){t:TypeId}{i:TypeInfo}(hi:P.info? t=some i){off:Nat}{V:Value} (hv:an Z ψ h w vs V.cells.toList) (h1:∀u∈V.cells.toList,u.oneCell'=true) (hs:V.cells.size=P.cellsOf t) (hl:off+vs.length≤cs.length) {a:Addr} (ha:a=⟨TX (ψ id),off,none⟩) :
  ∃w',(Instr.storeAt t (.pointer (some a)) V).run P w=.ok () w'∧Next Z ψ h w B0 O N Z ψ (dO h id (some (.box ty (dQ cs off vs)))) w':=by
 obtain⟨gg,arr,e1,e2,e3,e4⟩:=g.box id ty cs hb;have hlen:=hv.length;have PO:=e3.length;simp only[Array.length_toList]at hlen PO;have br:h id≠none:=by rw[hb];simp
 have ho:Own ψ h gg:=⟨id,br,by rw[e1];rfl⟩;rw[e1]at ha;simp only[TX]at ha;subst ha;refine⟨_,k9 hi gg off V arr ty e2 hs (by omega) h1,?_⟩;have kk:=cE.setRow (w:=w) ho ((arr.toList.take off++V.cells.toList++arr.toList.drop (off+V.cells.size)).toArray);refine g.write id br kk (fun b hb _=>setRow_other _ (fun e=>hb (by rw[e1];simp[ob,e]))) _ (fun zg cs' he=>?_) (fun _ _ he=>by cases he)
 cases he
 refine⟨gg,_,e1,setRow_heap w gg arr _ ty _ e2,?_,?_⟩
 ·rw[r9 _ _ _ hl];have h5:an Z ψ h w (cs.take off++vs++cs.drop (off+vs.length)) (arr.toList.take off++V.cells.toList++arr.toList.drop (off+V.cells.size)):=by rw[←hlen];exact((e3.take off).append hv).append (e3.drop (off+vs.length))
  exact h5.less (fun _ h=>h) (kk.same g) (fun j hj=>⟨hj,rfl⟩)
 ·intro u hu;rw[List.toList_toArray]at hu;rcases ab0.1 hu with hu|hu
  ·rcases ab0.1 hu with hu|hu
   ·exact e4 u (ad2 hu)
   ·exact h1 u hu
  ·exact e4 u (adW hu)
theorem Xp{α:Type}(cur V:List α)(m off sz L:Nat)(h:off+V.length≤sz)(h1:m+sz≤L)(h2:L≤cur.length) :
  ((cur.take (m+off)++V++cur.drop (m+off+V.length)).take L |>.drop m |>.take sz)=((cur.drop m).take sz).take off++V++((cur.drop m).take sz).drop (off+V.length):=by
 apply adQ;intro q;simp only[List.getElem?_take,List.getElem?_drop,List.getElem?_append,List.length_append,List.length_take,List.length_drop];rw[Nat.min_eq_left (show m+off≤cur.length by omega),Nat.min_eq_left (show off≤min sz (cur.length-m) by omega)]
 repeat' split
 all_goals first|rfl|(exfalso;omega)|(congr 1;omega)|(rw[List.getElem?_eq_none (by omega)])
theorem TY{α:Type}(cur V:List α)(m off sz L p:Nat)(h:off+V.length≤sz)(h1:m+sz≤L)(h2:L≤cur.length)(h3:p+sz≤L)(h4:p+sz≤m∨m+sz≤p) :
  ((cur.take (m+off)++V++cur.drop (m+off+V.length)).take L |>.drop p |>.take sz)=(cur.drop p).take sz:=by
 apply adQ;intro q;simp only[List.getElem?_take,List.getElem?_drop,List.getElem?_append,List.length_append,List.length_take];rw[Nat.min_eq_left (show m+off≤cur.length by omega)]
 repeat' split
 all_goals first|rfl|(exfalso;omega)|(congr 1;omega)|(rw[List.getElem?_eq_none (by omega)])
theorem aB.oo{k:K}{x:k.T}{vs us:List Value}(e:vs=us)(hr:aB Z w k x vs):aB Z w k x us:=e▸hr
theorem AJ(g:Good Z ψ h w B0 O){id:Nat}{ty:TypeId}{kk:K}{xs:List kk.T}(hb:h id=some (.own (.row ty kk) xs)){t:TypeId}{i:TypeInfo}(hi:P.info? t=some i){n off:Nat}{x y:kk.T}{V:Value} (hx:xs[n]? = some x) (hs:V.cells.size=P.cellsOf t) (hl:off+V.cells.size≤kk.sz) {a:Addr} (ha:a=⟨TX (ψ id),n*kk.sz+off,none⟩) (hy:∀us,aB Z w kk x us→aB Z w kk y (us.take off++V.cells.toList++us.drop (off+V.cells.size))) (h1:∀u∈V.cells.toList,u.oneCell'=true) :
  ∃w',(Instr.storeAt t (.pointer (some a)) V).run P w=.ok () w'∧Next Z ψ h w B0 O N Z ψ (dO h id (some (.own (.row ty kk) (xs.set n y)))) w':=by
 obtain⟨vs,ho,hv⟩:=g.row id (.row ty kk) xs hb;have br:h id≠none:=by rw[hb];simp
 have hn:n<xs.length:=(abr.1 hx).1;have Da:=kk.gh;have hmul:n*kk.sz+kk.sz≤xs.length*kk.sz:=by rw[←Nat.succ_mul];exact acs _ hn
 obtain⟨hl1,e⟩:=ho;rcases e with⟨h0,_⟩|⟨gg,cap,cur,e1,e2,e3,e4,e5,e6,e7⟩
 ·omega
 have PQ:xs.length*kk.sz≤cap*kk.sz:=acs _ e4;have la:ob (ψ id)=some gg:=by rw[e1];simp only[ob];rw[if_neg (by omega)]
 have ho:Own ψ h gg:=⟨id,br,la⟩;have GZ:a=⟨gg,n*kk.sz+off,none⟩:=by rw[ha,e1];rfl
 subst GZ;refine⟨_,k9 hi gg (n*kk.sz+off) V cur ty e3 hs (by omega) h1,?_⟩;have hk:=cE.setRow (w:=w) ho ((cur.toList.take (n*kk.sz+off)++V.cells.toList++cur.toList.drop (n*kk.sz+off+V.cells.size)).toArray);have sm:=hk.same g;refine g.write id br hk (fun b hb _=>setRow_other _ (fun e=>hb (by rw[la,e]))) _ (fun _ _ he=>by cases he) (fun TU x' he=>?_)
 cases he
 have rh:cur.toList.length=cap*kk.sz:=by rw[Array.length_toList];exact e6
 have hVl:V.cells.toList.length=V.cells.size:=Array.length_toList
 let fV:=cur.toList.take (n*kk.sz+off)++V.cells.toList++cur.toList.drop (n*kk.sz+off+V.cells.size)
 have Db:fV.length=cap*kk.sz:=by simp only[fV,List.length_append,List.length_take,List.length_drop,rh,hVl];omega
 have TZ:(xs.set n y).length=xs.length:=List.length_set;have qN:vs=cur.toList.take (xs.length*kk.sz):=e7.symm;refine⟨fV.take (xs.length*kk.sz),⟨by rw[List.length_take,Db,TZ];omega,.inr ⟨gg,cap,fV.toArray,by rw[TZ];exact e1,e2,setRow_heap w gg cur _ ty _ e3,by rw[TZ];exact e4,e5,by simpa using Db,by rw[TZ]⟩⟩,fun j z hz=>?_⟩;have hj:j<xs.length:=by have:=(abr.1 hz).1;rwa [TZ]at this
 have hmj:j*kk.sz+kk.sz≤xs.length*kk.sz:=by rw[←Nat.succ_mul];exact acs _ hj
 have T0:∀p,p+kk.sz≤xs.length*kk.sz→(vs.drop p).take kk.sz=(cur.toList.drop p).take kk.sz:=fun p hp=>by rw[qN,List.drop_take,List.take_take,Nat.min_eq_left (by omega)]
 by_cases Po:j=n
 ·subst Po;rw[List.getElem?_set_self hn]at hz;cases hz;have hu:=hy _ (hv j x hx);rw[T0 _ hmj,←hVl]at hu;refine aB.mono (fun _ h=>h) sm (aB.oo ?_ hu);have:=Xp cur.toList V.cells.toList (j*kk.sz) off kk.sz (xs.length*kk.sz) (by omega) hmj (by omega);rw[←this,hVl]
 ·rw[List.getElem?_set_ne (fun e=>Po e.symm)]at hz;have hu:=hv j z hz;rw[T0 _ hmj]at hu;refine aB.mono (fun _ h=>h) sm (aB.oo ?_ hu);have h4:j*kk.sz+kk.sz≤n*kk.sz∨n*kk.sz+kk.sz≤j*kk.sz:=by
   rcases ad3 j n with h|h
   ·left;rw[←Nat.succ_mul];exact acs _ h
   ·right;rw[←Nat.succ_mul];exact acs _ (by omega)
  have:=TY cur.toList V.cells.toList (n*kk.sz) off kk.sz (xs.length*kk.sz) (j*kk.sz) (by omega) hmul (by omega) hmj h4;rw[←this,hVl]
theorem ua{k:K}{ys:List k.T}{u:Value}(hr:aB Z w (.sl k) ys [u]) :
  (u=.slice none 0 0∧ys=[])∨∃a c news,u=.slice (some a) ys.length c∧ys.length≤c∧news.length=ys.length*k.sz∧(∀(j:Nat) q,news[j]? = some q→w.cell? (a.add j)=some q)∧(∀q∈news,q.oneCell'=true)∧ku Z w k ys news:=by
 simp only[aB]at hr;obtain⟨v,hv,A,c,rfl,hl,hn,he⟩:=hr
 cases hv
 cases A with
 |none =>
  left
  cases ys with
  |nil=>exact⟨by rw[hn rfl];rfl,rfl⟩
  |cons y r=>obtain⟨a,us,h1,_⟩:=he 0 y rfl;cases h1
 |some a =>
  right;have JB:∀i (hi:i<ys.length),∃us,aB Z w k ys[i] us∧∀(j:Nat) u,us[j]? = some u→w.cell? (a.add (i*k.sz+j))=some u:=fun i hi=>by
   obtain⟨a',us,h1,_,h3,h4⟩:=he i _ (abv hi)
   cases h1
   exact⟨us,h3,h4⟩
  have Da:=k.gh
  let news:=(List.range (ys.length*k.sz)).map fun j=>(w.cell? (a.add j)).getD default
  have D3:∀j,j<ys.length*k.sz→∃q,w.cell? (a.add j)=some q∧q.oneCell'=true:=fun j hj=>by
   have hi:j / k.sz<ys.length:=Nat.div_lt_of_lt_mul (by rw[Nat.mul_comm];exact hj);obtain⟨us,h3,h4⟩:=JB (j / k.sz) hi;have hm:j%k.sz<us.length:=by rw[h3.len];exact Nat.mod_lt _ Da
   refine⟨us[j%k.sz],?_,h3.one _ (acC hm)⟩;have:=h4 (j%k.sz) _ (abv hm)
   rwa [Nat.mul_comm,Nat.div_add_mod]at this
  have nJ:∀j,j<ys.length*k.sz→∃q,news[j]? = some q∧w.cell? (a.add j)=some q:=fun j hj=>by obtain⟨q,hq,_⟩:=D3 j hj;exact⟨q,by simp[news,List.getElem?_map,List.getElem?_range hj,hq],hq⟩
  have hlen:news.length=ys.length*k.sz:=by simp[news]
  refine⟨a,c,news,rfl,hl,hlen,fun j q hq=>?_,fun q hq=>?_,fun i x hx=>?_⟩
  ·have hj:j<ys.length*k.sz:=by rw[←hlen];exact(abr.1 hq).1
   obtain⟨q',h1,h2⟩:=nJ j hj;rw[h1]at hq;cases hq;exact h2
  ·obtain⟨j,hj,rfl⟩:=aeb.1 hq;obtain⟨q',h1,h2⟩:=nJ j (by omega);obtain⟨q2,h3,h4⟩:=D3 j (by omega);rw[List.getElem?_eq_getElem hj]at h1;cases h1;rw[h2]at h3;cases h3;exact h4
  ·have hi:i<ys.length:=(abr.1 hx).1;obtain⟨us,h3,h4⟩:=JB i hi;rw[List.getElem?_eq_getElem hi]at hx;cases hx;refine aB.oo ?_ h3;have hul:=h3.len;have hmul:i*k.sz+k.sz≤ys.length*k.sz:=by rw[←Nat.succ_mul];exact acs _ hi
   apply adQ;intro q;rw[List.getElem?_take,List.getElem?_drop];by_cases hq:q<k.sz
   ·rw[if_pos hq];obtain⟨q',h5,h6⟩:=nJ (i*k.sz+q) (by omega);rw[h5];have h7:=h4 q _ (abv (by omega));rw[List.getElem?_eq_getElem (by omega)];rw[h6]at h7;cases h7;rfl
   ·rw[if_neg hq,List.getElem?_eq_none (by omega)]
theorem Nn{hh:Heap}(g:Good Z ψ hh.get w B0 O){x:AV}{u:Value}{k:K}{ys:List k.T}(hx:rowOf hh x k=some ys)(hr:au Z ψ hh.get w x u) :
  (u=.slice none 0 0∧ys=[])∨∃a c news,u=.slice (some a) ys.length c∧ys.length≤c∧news.length=ys.length*k.sz∧(∀(j:Nat) q,news[j]? = some q→w.cell? (a.add j)=some q)∧(∀q∈news,q.oneCell'=true)∧ku Z w k ys news:=by
 unfold rowOf at hx
 split at hx
 ·rename_i ex k' xs heq
  split at hx
  ·rename_i e;subst e
   cases hx
   cases x with
   |sl ex' k'' ZC =>
    simp only[cG]at heq
    cases heq
    simp only[au]at hr;exact ua hr.1
   |bC id =>
    simp only[cG]at heq
    split at heq
    ·rename_i ty kk zs hg
     cases heq
     simp only[au]at hr;have hv:=hr.2 (by rw[hg];simp);subst hv;obtain⟨vs,ho,hv⟩:=g.row id (.row ty _) _ hg;have h1:=ua (u5 (Z':=fun b=>Z b∨ob (ψ id)=some b) ho hv (fun b hb=>.inl hb) (fun b hb=>.inr hb));rcases h1 with h1|⟨a,c,news,h1,h2,h3,h4,h5,_⟩
     ·exact .inl h1
     ·right;refine⟨a,c,news,h1,h2,h3,h4,h5,?_⟩;have JZ:news=vs:=by
       obtain⟨hl,e⟩:=ho;rcases e with⟨e,_⟩|⟨gg,cap,cur,e,_,e3,_,_,_,e7⟩
       ·rw[e,Nat.zero_mul]at h3 hl;rw[List.eq_nil_of_length_eq_zero h3,List.eq_nil_of_length_eq_zero hl]
       ·rw[e]at h1;cases h1;apply adQ;intro j;by_cases hj:j<xs.length*k'.sz
        ·have hn:=h4 j _ (abv (by omega));rw[cw,Nat.zero_add]at hn;simp only[World.cell?,e3]at hn;have yj:vs[j]? = cur.toList[j]? := by rw[←e7,List.getElem?_take,if_pos hj]
         rw[yj,List.getElem?_eq_getElem (by omega)];simpa using hn.symm
        ·rw[List.getElem?_eq_none (by omega),List.getElem?_eq_none (by omega)]
      rw[JZ];exact hv
    ·cases heq
    ·cases heq
   |_=>simp only[cG]at heq<;>cases heq
  ·cases hx
 ·rename_i heq
  cases hx
  cases x with
  |fm=>simp only[au]at hr;exact .inl ⟨hr,rfl⟩
  |bC id=>simp only[cG]at heq;split at heq<;>cases heq
  |_=>simp only[cG]at heq<;>cases heq
 ·cases hx
structure nK(P:Program)(e:TypeId)(k:K)(i:TypeInfo)(z:Value):Prop where
 info:P.info? e=some i
 zero:i.zero=some z
 size:i.size=k.sz
 u9:z.cells.size=k.sz
 bytes:i.bytes≤65536
theorem b7{e:TypeId}{k:K}(he:wN P e k=true):∃i z,nK P e k i z:=by
 unfold wN at he
 split at he
 ·rename_i i hi
  split at he
  ·rename_i z hz;simp only[Bool.and_eq_true,decide_eq_true_eq]at he;exact⟨i,z,hi,hz,he.1,he.2.1,he.2.2⟩
  ·cases he
 ·cases he
theorem ku.append{k:K}{xs ys:List k.T}{vs us:List Value}(h1:ku Z w k xs vs)(h2:ku Z w k ys us)(hl:vs.length=xs.length*k.sz):ku Z w k (xs++ys) (vs++us):=fun i x hx=>by
 by_cases hi:i<xs.length
 ·rw[List.getElem?_append_left hi]at hx;have hm:i*k.sz+k.sz≤xs.length*k.sz:=by rw[←Nat.succ_mul];exact acs _ hi
  have h3:=h1 i x hx;rw[List.drop_append_of_le_length (by omega),List.take_append_of_le_length (by rw[List.length_drop];omega)];exact h3
 ·rw[List.getElem?_append_right (by omega)]at hx;have h3:=h2 (i-xs.length) x hx;have e:i*k.sz=vs.length+(i-xs.length)*k.sz:=by rw[hl,←Nat.add_mul];congr 1;omega
  rw[e,List.drop_append,List.drop_eq_nil_of_le (by omega),List.nil_append,Nat.add_sub_cancel_left];exact h3
theorem ku.AK{k:K}{xs:List k.T}{vs:List Value}(h:ku Z w k xs vs)(sm:cj Z w w'):ku Z w' k xs vs:=fun i x hx=>(h i x hx).mono (fun _ h=>h) sm
theorem G1(g:Good Z ψ h w B0 O)(hB:B0≤w.heap.size)(id:Nat)(hN:N id){ok:OK}{x:ok.T}{v:Value}(kk:cE ψ h w w')(tw:∀b,Own ψ h b→w'.heap[b]? = w.heap[b]?) (ho:jr Z w' ok v x) (hb:∀b,ob v=some b→w.heap.size≤b) (aX:∀i ty cs,h i=some (.box ty cs)→av (fun i=>i≠id) cs) :
  Next Z ψ h w B0 O N Z (dO ψ id v) (dO h id (some (.own ok x))) w':=by
 have n:Next Z ψ h w B0 O (·=id) Z (dO ψ id v) (dO h id (some (.own ok x))) w':=by
  refine g.more kk tw (fun i hi=>⟨cU _ _ hi,cU _ _ hi⟩) (fun i zg cs' hb=>aX i zg cs' hb) (fun i zg cs' hi hb=>?_) (fun i ok x hi hb=>?_) (fun i b hi aW Xo=>?_) (fun i i' b hi u7 _ _ _ _=>by subst hi;exact u7.symm) hB
  ·subst hi;rw[aU]at hb;cases hb
  ·subst hi;rw[aU]at hb;cases hb;rw[aU];exact ho
  ·subst hi;rw[aU]at Xo;exact hb b Xo
 exact⟨n.fN,n.eC,n.keep,fun i hi=>(n.ids i hi).imp (fun h=>h) (fun e=>by subst e;exact hN),n.da⟩
theorem oq(g:Good Z ψ h w B0 O)(hB:B0≤w.heap.size)(id:Nat)(ty:TypeId)(hN:N id){k:K}{xs:List k.T}{vs:List Value}{v:Value}(kk:cE ψ h w w')(tw:∀b,Own ψ h b→w'.heap[b]? = w.heap[b]?) (ho:dx w' ty k.sz v xs.length vs) (hv:ku Z w' k xs vs) (hb:∀b,ob v=some b→w.heap.size≤b) (aX:∀i ty cs,h i=some (.box ty cs)→av (fun i=>i≠id) cs) :
  Next Z ψ h w B0 O N Z (dO ψ id v) (dO h id (some (.own (.row ty k) xs))) w':=G1 g hB id hN (ok:=.row ty k) kk tw ⟨vs,ho,hv⟩ hb aX
theorem cE.grown{row:Option Nat}(hg:w.grownBy w' row)(hr:∀b,row=some b→Own ψ h b):cE ψ h w w' :=⟨hg.os,hg.tape,hg.output,hg.size,fun b hb hn=>hg.block b hb (fun e=>hn (hr b e.symm))⟩
theorem mX(g:Good Z ψ h w B0 O)(hB:B0≤w.heap.size)(id cQ:Nat)(hN:N id){ok:OK}{x y:ok.T}(ho:h cQ=some (.own ok x))(aW:cQ≠id) (hg:w.grownBy w' (ob (ψ cQ))) {v:Value} (hv:jr Z w' ok v y) (hb:ob v=ob (ψ cQ)∨∀b,ob v=some b→w.heap.size≤b) (aX:∀i ty cs,h i=some (.box ty cs)→av (fun i=>i≠id) cs) :
  Next Z ψ h w B0 O N Z (dO ψ id v) (dO (dO h cQ none) id (some (.own ok y))) w':=by
 have hold:h cQ≠none:=by rw[ho];simp
 have la:∀b,ob (ψ cQ)=some b→ob (ψ cQ)=some b:=fun _ h=>h;have kk:cE ψ h w w':=cE.grown hg (fun b e=>⟨cQ,hold,la b e⟩);have sm:=kk.same g;have other:∀i b,h i≠none→i≠cQ→ob (ψ i)=some b→w'.heap[b]? = w.heap[b]? := fun i b h1 h2 h3 =>hg.block b (g.bF ⟨i,h1,h3⟩) (fun e=>h2 (g.apart i cQ b h1 hold h3 (la b e.symm)));have at_:∀i,i≠id→dO (dO h cQ none) id (some (.own ok y)) i≠none→h i≠none∧i≠cQ:=fun i hi h1=>by
  rw[cU _ _ hi]at h1;by_cases e:i=cQ
  ·subst e;rw[aU]at h1;exact absurd rfl h1
  ·rw[cU _ _ e]at h1;exact⟨h1,e⟩
 have ids:∀i,dO (dO h cQ none) id (some (.own ok y)) i≠none→(h i≠none∧dO ψ id v i=ψ i)∨i=id:=fun i h1=>by
  by_cases e:i=id
  ·exact .inr e
  ·exact .inl ⟨(at_ i e h1).1,cU _ _ e⟩
 have vob:∀b,ob v=some b→ob (ψ cQ)=some b∨w.heap.size≤b:=fun b Xo=>by
  rcases hb with hb|hb
  ·left;rw[←hb];exact Xo
  ·right;exact hb b Xo
 refine⟨fun _ h=>h,fun _ h=>.inl h,kk,fun i h1=>(ids i h1).imp (fun h=>h) (fun e=>by subst e;exact hN),⟨fun i zg cs qF=>?_,fun i TU z qF=>?_,fun i b h1 h2=>?_,fun i i' b h1 h2 h3 h4=>?_,fun b hz=>adL (g.jO b hz) kk.size⟩⟩
 ·by_cases e:i=id
  ·subst e;rw[aU]at qF;cases qF
  ·have Fm:=at_ i e (by rw[qF];simp);rw[cU _ _ e,cU _ _ Fm.2]at qF;obtain⟨gg,us,h1,h2,h3,h4⟩:=g.box i zg cs qF;refine⟨gg,us,by rw[cU _ _ e];exact h1,(other i gg Fm.1 Fm.2 (by rw[h1];rfl)).trans h2,?_,h4⟩;exact h3.move (fun _ h=>h) sm (fun j hj hn=>(ids j hn).resolve_right hj) (aX i zg cs qF)
 ·by_cases e:i=id
  ·subst e;rw[aU]at qF;cases qF;rw[aU];exact hv
  ·have Fm:=at_ i e (by rw[qF];simp);rw[cU _ _ e,cU _ _ Fm.2]at qF;rw[cU _ _ e];exact(g.row i TU z qF).kept (fun _ h=>h) sm (fun gg Nm=>other i gg Fm.1 Fm.2 Nm)
 ·by_cases e:i=id
  ·subst e;rw[aU]at h2;rcases vob b h2 with h3|h3
   ·exact g.live cQ b hold h3
   ·exact⟨fun hz=>by have:=g.jO b hz;omega,.inl (by omega)⟩
  ·rw[cU _ _ e]at h2;exact g.live i b (at_ i e h1).1 h2
 ·have key:∀j,j≠id→dO (dO h cQ none) id (some (.own ok y)) j≠none→ob (ψ j)=some b→ob v=some b→False:=fun j hj h5 h6 h7=>by
   obtain⟨h8,h9⟩:=at_ j hj h5;rcases vob b h7 with lY|lY
   ·exact h9 (g.apart j cQ b h8 hold h6 lY)
   ·have:=g.bF ⟨j,h8,h6⟩;omega
  by_cases e:i=id<;>by_cases e':i'=id
  ·rw[e,e']
  ·subst e;rw[aU]at h3;rw[cU _ _ e']at h4;exact(key i' e' h2 h4 h3).elim
  ·subst e';rw[aU]at h4;rw[cU _ _ e]at h3;exact(key i e h1 h3 h4).elim
  ·rw[cU _ _ e]at h3;rw[cU _ _ e']at h4;exact g.apart i i' b (at_ i e h1).1 (at_ i' e' h2).1 h3 h4
def T1(w:World)(sz:Nat)(u:Value)(m:Nat)(news:List Value):Prop :=news.length=m*sz∧(∀q∈news,q.oneCell'=true)∧((u=.slice none 0 0∧m=0)∨∃a c,u=.slice (some a) m c∧∀(j:Nat) q,news[j]? = some q→w.cell? (a.add j)=some q)
theorem vc{hh:Heap}(g:Good Z ψ hh.get w B0 O){x:AV}{u:Value}{k:K}{ys:List k.T}(hx:rowOf hh x k=some ys)(hr:au Z ψ hh.get w x u):∃news,T1 w k.sz u ys.length news∧ku Z w k ys news:=by
 rcases Nn g hx hr with⟨rfl,rfl⟩|⟨a,c,news,h1,_,h2,h3,h4,h5⟩
 ·exact⟨[],⟨by simp,by simp,.inl ⟨rfl,rfl⟩⟩,fun i x hx=>by simp at hx⟩
 ·exact⟨news,⟨h2,h4,.inr ⟨a,c,h1,h3⟩⟩,h5⟩
theorem eZ{t ty e:TypeId}{i:TypeInfo}(ht:P.underlying t=some (.slice e))(hi:P.info? e=some i)(A:Option Addr)(n c:Nat)(hc:n≤c)(A':Option Addr)(c':Nat) :
  (Builtin.append_ #[t,t] ty #[.slice A n c,.slice A' 0 c']).run P w=.ok (.slice A n c) w:=by
 cases A<;>cases A'<;>simp[Builtin.append_,run_underlying ht,sizeOf,typeInfo,hi,Builtin.lenOf,Builtin.firstCells,hc,storeCells,loadCells,loadCellsFrom]
theorem dD{t ty e:TypeId}{k:K}{i:TypeInfo}{z:Value}(ht:P.underlying t=some (.slice e))(he:nK P e k i z){v:Value}{n:Nat}{xs:List Value}(ho:dx w e k.sz v n xs) {u:Value} {m:Nat} {news:List Value} (hu:T1 w k.sz u m news) (hm:n+m≤eE) :
  ∃v' w',(Builtin.append_ #[t,t] ty #[v,u]).run P w=.ok v' w'∧dx w' e k.sz v' (n+m) (xs++news)∧w.grownBy w' (ob v)∧(ob v'=ob v∨∀b,ob v'=some b→w.heap.size≤b):=by
 obtain⟨h1,h3,hu⟩:=hu;obtain⟨A0,c0,T2⟩:=ho.slice;by_cases hm0:m=0
 ·subst hm0;have ZD:news=[]:=ace (by rw[h1,Nat.zero_mul]);subst ZD;have yk:n≤c0:=by
   rcases ho.2 with⟨h0,A,e⟩|⟨g,cap,cur,e,hc,h2,h3,_⟩
   ·omega
   ·rw[T2]at e;cases e;exact h3
  refine⟨v,w,?_,by simpa using ho,World.grownBy.refl w _,.inl rfl⟩;subst T2;rcases hu with⟨rfl,_⟩|⟨a,c,rfl,_⟩<;>exact eZ ht he.info A0 n c0 yk _ _
 ·rcases hu with⟨_,h0⟩|⟨a,c,rfl,h2⟩
  ·exact absurd h0 hm0
  have hb:=he.bytes;unfold eE at hm;have py:(n+m)*i.bytes≤140737488355328:=acB (aeh hm hb) (by decide);have new:∀v',w.heap.size≤w.heap.size→∀(w':World),w'.ownsRow w.heap.size e k.sz v' (n+m) (xs++news)→∀b,ob v'=some b→w.heap.size≤b:=fun v' _ w' nL b hb=>by
   rcases nL.2 with⟨rfl,_⟩|⟨g,cap,cur,rfl,h5,_⟩
   ·simp[ob]at hb
   ·simp only[ob]at hb
    split at hb
    ·cases hb
    ·cases hb;exact h5
  rcases ho.2 with⟨rfl,A,rfl⟩|⟨g,cap,cur,rfl,PQ,h4,h5,h6,h7,h8⟩
  ·have yl:xs=[]:=ace (by rw[ho.1,Nat.zero_mul]);subst yl;have la:ob (.slice A 0 0)=none:=by cases A<;>simp[ob]
   cases A with
   |none =>obtain⟨v',w',hr,h4,h5,_,h6⟩:=run_append_own_at (P:=P) w w.heap.size t ty e i z k.sz i.bytes ht he.info he.zero he.size rfl he.u9 k.gh (.slice none 0 0) 0 [] ⟨by simp,.inl ⟨rfl,rfl⟩⟩ a m c news h1 h2 h3 (by simp only[maxLen];omega) py (acn _);exact⟨v',w',hr,dx.of h4,by rw[la];exact h5,.inr (new v' (acn _) w' h4)⟩
   |some b0 =>obtain⟨v',w',hr,h4,h5⟩:=run_append_arg_grows (P:=P) w t ty e i z k.sz i.bytes ht he.info he.zero he.size rfl he.u9 k.gh b0 0 0 [] (by simp) (by simp) a m c news h1 h2 (by omega) (by simp only[maxLen];omega) py;exact⟨v',w',hr,dx.of h4,by rw[la];exact h5,.inr (new v' (acn _) w' h4)⟩
  ·have ot:w.ownsRow 0 e k.sz (.slice (some ⟨g,0,none⟩) n cap) n xs:=⟨ho.1,.inr ⟨g,cap,cur,rfl,adO _,h4,h5,h6,h7,h8⟩⟩;have la:ob (.slice (some ⟨g,0,none⟩) n cap)=some g:=by simp only[ob];rw[if_neg (by omega)]
   obtain⟨v',w',hr,h4,h5,_,h6⟩:=run_append_own_at (P:=P) w 0 t ty e i z k.sz i.bytes ht he.info he.zero he.size rfl he.u9 k.gh _ n xs ot a m c news h1 h2 h3 (by simp only[maxLen];omega) py (adO _);refine⟨v',w',hr,dx.of h4,by rw[la];exact h5,?_⟩;rw[la];rcases h4.2 with⟨rfl,h0⟩|⟨g',aez,fV,rfl,_,_,h9,_⟩
   ·omega
   ·have T3:ob (.slice (some ⟨g',0,none⟩) (n+m) aez)=some g':=by simp only[ob];rw[if_neg (by omega)]
    rw[T3];simp only[Value.ownBlock,Option.some.injEq]at h6;rcases h6 with h6|h6
    ·left;rw[h6]
    ·right;intro b hb;cases hb;omega
theorem au.nM{h h':Hp}(hs:∀id o,h' id=some o→h id=some o){a:AV}{v:Value}(hr:au Z ψ h w a v):au Z ψ h' w a v :=hr.less (fun _ h=>h) (cj.refl _ _) (fun id br=>by obtain⟨o,ho⟩:=acf.1 br;exact⟨by rw[hs id o ho];simp,rfl⟩)
theorem an.nM{h h':Hp}(hs:∀id o,h' id=some o→h id=some o){a:List AV}{v:List Value}(hr:an Z ψ h w a v):an Z ψ h' w a v :=hr.less (fun _ h=>h) (cj.refl _ _) (fun id br=>by obtain⟨o,ho⟩:=acf.1 br;exact⟨by rw[hs id o ho];simp,rfl⟩)
theorem qn{hh:Heap}(g:Good Z ψ h w B0 O)(ba:∀id o,hh.get id=some o→h id=some o)(hB:B0≤w.heap.size){id:Nat}(hN:N id){t ty e:TypeId}{k:K}{i:TypeInfo}{z:Value}(ht:P.underlying t=some (.slice e))(he:nK P e k i z) {x:AV} {u:Value} {ys:List k.T} (hx:rowOf hh x k=some ys) (hr:au Z ψ h w x u) (hm:ys.length≤eE) (aX:∀i ty cs,h i=some (.box ty cs)→av (fun i=>i≠id) cs) :
  ∃v' w',(Builtin.append_ #[t,t] ty #[.slice none 0 0,u]).run P w=.ok v' w'∧Next Z ψ h w B0 O N Z (dO ψ id v') (dO h id (some (.own (.row e k) ys))) w'∧v'.cells=#[v']∧v'.oneCell'=true:=by
 obtain⟨news,wW,hv⟩:=vc (g.sub ba) hx (hr.nM ba);have G2:dx w e k.sz (.slice none 0 0) 0 []:=⟨by simp,.inl ⟨rfl,none,rfl⟩⟩;obtain⟨v',w',cJ,h4,h5,h6⟩:=dD (ty:=ty) ht he G2 wW (by omega);have hg:w.grownBy w' none:=h5;have kk:cE ψ h w w':=cE.grown hg (fun b e=>by cases e);have sm:=kk.same g;refine⟨v',w',cJ,oq g hB id e hN (vs:=news) kk (fun b hb=>hg.block b (g.bF hb) (by simp)) (by simpa using h4) (fun i x hx=>(hv i x hx).mono (fun _ h=>h) sm) (fun b hb=>?_) aX,h4.one⟩;rcases h6 with h6|h6
 ·rw[h6]at hb;simp[ob]at hb
 ·exact h6 b hb
theorem zk{hh:Heap}(g:Good Z ψ h w B0 O)(ba:∀id o,hh.get id=some o→h id=some o)(hB:B0≤w.heap.size){id cQ:Nat}(hN:N id)(aW:cQ≠id){t ty e:TypeId}{k:K}{i:TypeInfo}{z:Value}(ht:P.underlying t=some (.slice e))(he:nK P e k i z) {xs:List k.T} (ho:h cQ=some (.own (.row e k) xs)) {x:AV} {u:Value} {ys:List k.T} (hx:rowOf hh x k=some ys) (hr:au Z ψ h w x u) (hm:xs.length+ys.length≤eE) (aX:∀i ty cs,h i=some (.box ty cs)→av (fun i=>i≠id) cs) :
  ∃v' w',(Builtin.append_ #[t,t] ty #[ψ cQ,u]).run P w=.ok v' w'∧Next Z ψ h w B0 O N Z (dO ψ id v') (dO (dO h cQ none) id (some (.own (.row e k) (xs++ys)))) w'∧v'.cells=#[v']∧v'.oneCell'=true:=by
 obtain⟨news,wW,hv⟩:=vc (g.sub ba) hx (hr.nM ba);obtain⟨vs,T4,T2⟩:=g.row cQ (.row e k) xs ho;obtain⟨v',w',cJ,h4,h5,h6⟩:=dD (ty:=ty) ht he T4 wW hm;have hold:h cQ≠none:=by rw[ho];simp
 have kk:cE ψ h w w':=cE.grown h5 (fun b e=>⟨cQ,hold,e⟩);have sm:=kk.same g;refine⟨v',w',cJ,mX g hB id cQ hN ho aW h5 (ok:=.row e k) (y:=xs++ys) ⟨_,by rw[List.length_append];exact h4,(T2.append hv T4.1).AK sm⟩ h6 aX,h4.one⟩
theorem AL{hh:Heap}(g:Good Z ψ h w B0 O)(ba:∀id o,hh.get id=some o→h id=some o)(hB:B0≤w.heap.size){id:Nat}(hN:N id){t ty e:TypeId}{k:K}{i:TypeInfo}{z:Value}(ht:P.underlying t=some (.slice e))(he:nK P e k i z) {xs:List k.T} {v:Value} (hd:au Z ψ h w (.sl true k xs) v) {x:AV} {u:Value} {ys:List k.T} (hx:rowOf hh x k=some ys) (hr:au Z ψ h w x u) (Da:0<ys.length∨xs=[]) (hm:xs.length+ys.length≤eE) (aX:∀i ty cs,h i=some (.box ty cs)→av (fun i=>i≠id) cs) :
  ∃v' w',(Builtin.append_ #[t,t] ty #[v,u]).run P w=.ok v' w'∧Next Z ψ h w B0 O N Z (dO ψ id v') (dO h id (some (.own (.row e k) (xs++ys)))) w'∧v'.cells=#[v']∧v'.oneCell'=true:=by
 simp only[au]at hd;obtain⟨hd,hex⟩:=hd;obtain⟨A,c,Pp⟩:=hex trivial;rcases ua hd with⟨rfl,rfl⟩|⟨a,c',ZE,h1,_,h2,h3,h4,h5⟩
 ·have:=qn (ty:=ty) (N:=N) g ba hB hN ht he hx hr (by omega) aX;simpa using this
 ·rw[h1]at Pp;cases Pp;obtain⟨news,⟨h6,h7,hu⟩,hv⟩:=vc (g.sub ba) hx (hr.nM ba);by_cases hy0:ys.length=0
  ·have hy:ys=[]:=ace hy0;have yl:xs=[]:=Da.resolve_left (by omega);subst yl;have G2:dx w e k.sz (.slice (some a) 0 0) 0 []:=⟨by simp,.inl ⟨rfl,_,rfl⟩⟩;refine⟨v,w,?_,oq g hB id e hN (vs:=[]) (cE.refl _ _ _) (fun _ _=>rfl) (by rw[hy,h1];exact G2) (fun i x hx=>by rw[hy]at hx;simp at hx) (fun b hb=>by rw[h1]at hb;simp[ob]at hb) aX,by rw[h1];exact G2.one⟩;rw[h1];rw[hy0]at hu;rcases hu with⟨rfl,_⟩|⟨b,cu,rfl,_⟩<;>exact eZ ht he.info _ _ _ (acn _) _ _
  rcases hu with⟨_,h0⟩|⟨b,cu,rfl,h8⟩
  ·omega
  ·have hb:=he.bytes;unfold eE at hm;have py:(xs.length+ys.length)*i.bytes≤140737488355328:=acB (aeh hm hb) (by decide);obtain⟨v',w',cJ,h9,lY⟩:=run_append_arg_grows (P:=P) w t ty e i z k.sz i.bytes ht he.info he.zero he.size rfl he.u9 k.gh a xs.length xs.length ZE h2 h3 b ys.length cu news h6 h8 (by omega) (by simp only[maxLen];omega) py;have kk:cE ψ h w w':=cE.grown lY (fun b e=>by cases e);have sm:=kk.same g;have h9':dx w' e k.sz v' (xs++ys).length (ZE++news):=by rw[List.length_append];exact dx.of h9
   subst h1;refine⟨v',w',cJ,oq g hB id e hN kk (fun b hb=>lY.block b (g.bF hb) (by simp)) h9' ((h5.append hv h2).AK sm) (fun b hb=>?_) aX,h9'.one⟩;rcases h9.2 with⟨e1,_⟩|⟨gg,cap,cur,e1,e2,_⟩
   ·rw[e1]at hb;simp[ob]at hb
   ·rw[e1]at hb;simp only[ob]at hb
    split at hb
    ·cases hb
    ·cases hb;omega
theorem vd:∀(vs:List Value) (k off:Nat) (cells:Array Value),(vs.zipIdx k).foldl (fun cs (p:Value×Nat)=>cs.setIfInBounds (off+p.2) p.1) cells=(dQ cells.toList (off+k) vs).toArray
 |[],k,off,cells=>by simp[dQ]
 |v::r,k,off,cells=>by simp only[List.zipIdx_cons,List.foldl_cons,dQ];rw[vd r (k+1) off];simp[Nat.add_assoc]
theorem ym(V:Array Value)(off:Nat)(cells:Array Value) :
  V.zipIdx.foldl (fun cs (p:Value×Nat)=>cs.setIfInBounds (off+p.2) p.1) cells=(dQ cells.toList off V.toList).toArray:=by
 rw[←Array.foldl_toList,Array.toList_zipIdx];exact vd V.toList 0 off cells
theorem tz{α:Type}:∀(vs cs:List α) (off:Nat),(dQ cs off vs).length=cs.length
 |[],_,_=>rfl
 |v::r,cs,off=>by simp only[dQ];rw[tz r];simp
theorem an.dQ:∀{vs cs:List AV} {us ds:List Value} (off:Nat),an Z ψ h w vs us→an Z ψ h w cs ds→an Z ψ h w (dQ cs off vs) (dQ ds off us)
 |[],cs,us,ds,off,h1,h2=>by simp only[an]at h1;subst h1;exact h2
 |v::r,cs,us,ds,off,h1,h2=>by simp only[an]at h1;obtain⟨u,iI,rfl,h3,h4⟩:=h1;simp only[Vs.dQ];exact an.dQ (off+1) h4 (h2.set off h3)
theorem au.cells{a:AV}{v:Value}(hk:a≠.no)(hr:au Z ψ h w a v):an Z ψ h w a.cells v.cells.toList:=by
 cases a with
 |no=>exact absurd rfl hk
 |agg cs=>simp only[au]at hr;obtain⟨vs,rfl,hr⟩:=hr;simpa[AV.cells,Value.cells] using hr
 |bool b=>simp only[au]at hr;subst hr;simp[AV.cells,Value.cells,an,au]
 |int k n=>simp only[au]at hr;subst hr;simp[AV.cells,Value.cells,an,au]
 |str s=>simp only[au]at hr;subst hr;simp[AV.cells,Value.cells,an,au]
 |lq=>simp only[au]at hr;subst hr;simp[AV.cells,Value.cells,an,au]
 |fm=>simp only[au]at hr;subst hr;simp[AV.cells,Value.cells,an,au]
 |ref id s i off=>obtain⟨a,rfl,h2⟩:=(by simpa only[au] using hr:∃a,v=.pointer (some a)∧_);simp only[AV.cells,Value.cells,an];exact⟨_,[],by simp,hr,rfl⟩
 |fp k x off=>obtain⟨a,us,rfl,h2⟩:=(by simpa only[au] using hr:∃a us,v=.pointer (some a)∧_);simp only[AV.cells,Value.cells,an];exact⟨_,[],by simp,hr,rfl⟩
 |sl ex k xs =>
  have r8:=hr;simp only[au,aB]at r8;obtain⟨⟨v',hv,A,c,rfl,_⟩,_⟩:=r8
  cases hv
  simp only[AV.cells,Value.cells,an];exact⟨_,[],by simp,hr,rfl⟩
 |bC id =>have r8:=hr;simp only[au]at r8;obtain⟨⟨hc,_⟩,_⟩:=r8;simp only[AV.cells,an,hc];exact⟨_,[],by simp,hr,rfl⟩
 |mp kk vk es =>
  have r8:=hr;simp only[au,aB]at r8;obtain⟨A,hv,_⟩:=r8
  cases hv
  simp only[AV.cells,Value.cells,an];exact⟨_,[],by simp,hr,rfl⟩
 |fn f cap =>have r8:=hr;simp only[au]at r8;obtain⟨vs,rfl,_⟩:=r8;simp only[AV.cells,Value.cells,an];exact⟨_,[],by simp,hr,rfl⟩
 |nF vs =>have r8:=hr;simp only[au]at r8;obtain⟨us,rfl,_⟩:=r8;simp only[AV.cells,Value.cells,an];exact⟨_,[],by simp,hr,rfl⟩
def tB(Z:Nat→Prop)(ψ:Nat→Value)(h:Hp)(w:World):List (Nat×AV)→List (Nat×Value)→Prop
 |[],[]=>True
 |p::r,q::s=>p.1=q.1∧p.2≠.no∧au Z ψ h w p.2 q.2∧tB Z ψ h w r s
 |_,_=>False
theorem G3{place:Nat→Option (Nat×Nat)}:∀{ps:List (Nat×AV)} {qs:List (Nat×Value)} {cs cs':List AV} {cells:Array Value},tB Z ψ h w ps qs→an Z ψ h w cs cells.toList→DY place cs ps=some cs' → ∃fO,Instr.fill place cells qs=some fO∧an Z ψ h w cs' fO.toList
 |[],[],cs,cs',cells,_,hr,hf=>by simp only[DY]at hf;cases hf;exact⟨cells,rfl,hr⟩
 |[],_::_,_,_,_,hp,_,_=>hp.elim
 |_::_,[],_,_,_,hp,_,_=>hp.elim
 |(i,a)::ps,(j,v)::qs,cs,cs',cells,hp,hr,hf=>by
  obtain⟨rfl,qG,hv,hp⟩:=hp;simp only[DY]at hf;simp only at qG hv;have Pp:=hv.cells qG;have hl:=Pp.length;have zm:=hr.length;simp only[Array.length_toList]at hl zm;simp only[Instr.fill]
  split at hf
  ·cases hf
  ·rename_i off size Tw;simp only[Tw]
   split at hf
   ·cases hf
   ·rename_i hc;have Xq:a.cells.length=size:=Decidable.not_not.1 (fun e=>hc (.inl e));have nN:¬off+a.cells.length>cs.length:=fun e=>hc (.inr e);rw[if_neg (by simp only[Bool.or_eq_true,decide_eq_true_eq];omega)];refine G3 hp ?_ hf;rw[ym,List.toList_toArray];exact Pp.dQ off hr
theorem PR(fs:Array Field)(hi:∀f∈fs.toList,∃i,P.info? f.type=some i):(fs.mapM fun f=>do pure (f.offset,←sizeOf f.type):Sem (Array (Nat×Nat))).run P w=.ok (fs.map fun f=>(f.offset,P.cellsOf f.type)) w:=by
 rw[←Array.toArray_toList (xs:=fs)];generalize fs.toList=l at hi;have key:∀(l:List Field) (acc:Array (Nat×Nat)),(∀f∈l,∃i,P.info? f.type=some i) →(l.foldlM (fun(bs:Array (Nat×Nat)) f=>do let y ←(do pure (f.offset,←sizeOf f.type):Sem (Nat×Nat));pure (bs.push y)) acc:Sem (Array (Nat×Nat))).run P w=.ok (acc++(l.map fun f=>(f.offset,P.cellsOf f.type)).toArray) w:=by
  intro l
  induction l with
  |nil=>intro acc _;simp
  |cons f r ih =>intro acc hl;obtain⟨i,hi⟩:=hl f (by simp);simp only[List.foldlM_cons,Sem.run_bind,dn hi,Result.andThen_ok,Sem.run_pure];rw[ih _ (fun f hf=>hl f (List.mem_cons_of_mem _ hf))];simp
 have:=key l #[] hi;simp only[Array.mapM_eq_foldlM,List.size_toArray,List.foldlM_toArray'];simpa using this
theorem Fp(v:Value):au Z ψ h w (wL v) v:=by
 cases v with
 |bool b=>simp only[wL,au]
 |int k n=>simp only[wL,au]
 |string s=>simp only[wL,au]
 |pointer a =>
  simp only[wL];split
  ·rename_i e;subst e;simp only[au]
  ·simp only[au]
 |slice a n c =>
  simp only[wL];split
  ·rename_i e;obtain⟨rfl,rfl,rfl⟩:=e;simp only[au]
  ·simp only[au]
 |func fn first cap =>
  cases fn with
  |func f =>
   simp only[wL];split
   ·rename_i e;have h1:first=#[]:=adU e.1
    have h2:cap=#[]:=adU e.2;subst h1;subst h2;simp only[au];exact⟨#[],rfl,by simp[an]⟩
   ·simp only[au]
  |_=>simp only[wL,au]
 |_=>simp only[wL,au]
theorem AM:∀vs:List Value,an Z ψ h w (vs.map wL) vs
 |[]=>by simp[an]
 |v::r=>by simp only[List.map_cons,an];exact⟨v,r,rfl,Fp v,AM r⟩
theorem G4(v:Value):au Z ψ h w (tX v) v:=by
 cases v with
 |agg cs=>simp only[tX,au];exact⟨cs,rfl,AM _⟩
 |_=>simp only[tX];exact Fp _
theorem D4(v:Value):(wL v).cells=[wL v]:=by
 cases v with
 |pointer a=>simp only[wL];split<;>rfl
 |slice a n c=>simp only[wL];split<;>rfl
 |func fn first cap =>
  cases fn with
  |func f=>simp only[wL];split<;>rfl
  |_=>rfl
 |_=>rfl
theorem AO(v:Value):an Z ψ h w (tX v).cells v.cells.toList:=by
 cases v with
 |agg cs=>simp only[tX,AV.cells,Value.cells];exact AM _
 |_ =>simp only[tX];rw[D4];simp only[an];exact⟨_,[],rfl,Fp _,rfl⟩
theorem pz{t:TypeId}{zs:List AV}(hz:Aq P t=some zs):∃i z,P.info? t=some i∧i.zero=some z∧zs=(tX z).cells∧∀u∈z.cells.toList,u.oneCell'=true:=by
 unfold Aq at hz;obtain⟨i,hi,ve⟩:=ac6.1 hz;obtain⟨z,zG,JC⟩:=ac6.1 ve
 split at JC
 ·rename_i fq
  cases JC
  exact⟨i,z,hi,zG,rfl,fun u hu=>acH.1 fq u hu⟩
 ·cases JC
theorem ri{t:TypeId}{i:TypeInfo}{z:Value}(hi:P.info? t=some i)(hz:i.zero=some z):(zeroValue t).run P w=.ok z w:=by simp[zeroValue,typeInfo,hi,hz]
theorem No{t:TypeId}{fs:Array Field}{zs cs:List AV}{ps:List (Nat×AV)}{qs:Array (Nat×Value)}(hz:Aq P t=some zs)(ht:P.underlying t=some (.struct fs))(fq:fs.toList.all (fun f=>(P.info? f.type).isSome)=true) (hp:tB Z ψ h w ps qs.toList) (hf:DY (fun i=>(fs[i]?).map fun f=>(f.offset,P.cellsOf f.type)) zs ps=some cs) :
  ∃V,(Instr.build t qs).run P w=.ok V w∧au Z ψ h w (.agg cs) V:=by
 obtain⟨i,z,hi,Xr,rfl,_⟩:=pz hz;obtain⟨fO,h1,h2⟩:=G3 hp (AO z) hf;have Tw:=PR (P:=P) (w:=w) fs (fun f hf=>acv.1 (acH.1 fq f hf));refine⟨.agg fO,?_,by simp only[au];exact⟨_,rfl,h2⟩⟩;have Tx:Instr.fill (fun x=>(fs.map fun f=>(f.offset,P.cellsOf f.type))[x]?) z.cells qs.toList=some fO:=by rw[←h1];congr 1;funext x;simp
 simp only[Instr.build,Sem.run_bind,ri hi Xr,run_underlying ht,Result.andThen_ok,Tw,Tx];rfl
theorem J0:∀(k:K) (cs:List AV) (x:k.T) (r:List AV),dec k cs=some (x,r)→cs.head?≠some .no
 |.int ik,cs,x,r,h,hc=>by
  cases cs with
  |nil=>simp at hc
  |cons a s=>simp at hc;subst hc;simp[dec,Ff]at h
 |.bool,cs,x,r,h,hc=>by
  cases cs with
  |nil=>simp at hc
  |cons a s=>simp at hc;subst hc;simp[dec,zx]at h
 |.str,cs,x,r,h,hc=>by
  cases cs with
  |nil=>simp at hc
  |cons a s=>simp at hc;subst hc;simp[dec,Fg]at h
 |.sl k,cs,x,r,h,hc=>by
  cases cs with
  |nil=>simp at hc
  |cons a s=>simp at hc;subst hc;simp[dec,LI]at h
 |.pair a b,cs,x,r,h,hc=>by
  simp only[dec]at h
  split at h
  ·rename_i x1 r1 h1;exact J0 a cs x1 r1 h1 hc
  ·cases h
 |.one k,cs,x,r,h,hc=>by simp only[dec]at h;exact J0 k cs x r h hc
 |.mp kk vk,cs,x,r,h,hc=>by
  cases cs with
  |nil=>simp at hc
  |cons a s=>simp at hc;subst hc;simp[dec,LJ]at h
 |.fn f,cs,x,r,h,hc=>by
  cases cs with
  |nil=>simp at hc
  |cons a s=>simp at hc;subst hc;simp[dec,LL]at h
theorem D5{k:K}{hh:Heap}{a:AV}{x:k.T}(h:dg k (a.cells.map (cG hh))=some x):a≠.no:=by
 rintro rfl;unfold dg at h
 split at h
 ·rename_i x' h1;exact J0 k _ _ _ h1 (by simp[AV.cells,cG])
 ·cases h
theorem G5{k:K}{hh:Heap}(g:Good Z ψ hh.get w B0 O)(hz:∀b,Z b→Z' b):∀{ps:List (Nat×AV)} {qs:List (Nat×Value)} {xs:List k.T} {i:Nat} {cells:Array Value},(∀p∈ps,∀id b,AV.bC id∈p.2.cells→hh.get id≠none→ob (ψ id)=some b→Z' b)→tB Z ψ hh.get w ps qs→qX k hh i ps=some xs→(i+ps.length)*k.sz≤cells.size → ∃fO flat,Instr.fill (fun i=>some (i*k.sz,k.sz)) cells qs=some fO∧fO.toList=cells.toList.take (i*k.sz)++flat++cells.toList.drop ((i+ps.length)*k.sz)∧flat.length=ps.length*k.sz∧ku Z' w k xs flat∧(∀q∈flat,q.oneCell'=true)∧xs.length=ps.length
 |[],[],xs,i,cells,_,_,hl,_=>by simp only[qX]at hl;cases hl;exact⟨cells,[],rfl,by simp,by simp,fun i x hx=>by simp at hx,by simp,rfl⟩
 |[],_::_,_,_,_,_,hp,_,_=>hp.elim
 |_::_,[],_,_,_,_,hp,_,_=>hp.elim
 |(j,a)::ps,(j',v)::qs,xs,i,cells,hb,hp,hl,hs=>by
  obtain⟨hjj,qG,hv,hp⟩:=hp;simp only at hjj qG hv;subst hjj;simp only[qX]at hl
  split at hl
  ·rename_i e;subst e
   split at hl
   ·rename_i y ys h1 h2
    cases hl
    simp only[List.length_cons]at hs;have Pp:=hv.cells qG;have hvw:=oi g hz (hb (j,a) (by simp)) Pp;have hk:=dC h1 hvw;have Xs:=hk.len;rw[Array.length_toList]at Xs;have gE:j*k.sz+k.sz≤cells.size:=by have:(j+1)*k.sz≤(j+(ps.length+1))*k.sz:=acs _ (by omega);rw[Nat.succ_mul]at this;omega
    simp only[Instr.fill];rw[if_neg (by simp only[Bool.or_eq_true,decide_eq_true_eq];omega),ym];obtain⟨fO,flat,h3,h4,h5,h6,h7,h8⟩:=G5 g hz (ps:=ps) (qs:=qs) (xs:=ys) (i:=j+1) (cells:=(dQ cells.toList (j*k.sz) v.cells.toList).toArray) (fun p hp=>hb p (abq _ hp)) hp h2 (by rw[List.size_toArray,tz];have e9:cells.toList.length=cells.size:=Array.length_toList;rw[e9,show j+1+ps.length=j+(ps.length+1) by omega];exact hs);refine⟨fO,v.cells.toList++flat,h3,?_,?_,?_,?_,by simp[h8]⟩
    ·rw[h4,List.toList_toArray,r9 _ _ _ (by rw[Array.length_toList,Array.length_toList];omega)];have e1:(j+1)*k.sz=j*k.sz+k.sz:=aef _ _;have e2:(j+1+ps.length)*k.sz=(j+(ps.length+1))*k.sz:=by congr 1;omega
     rw[List.length_cons,e1,e2];have l1:(cells.toList.take (j*k.sz)++v.cells.toList).length=j*k.sz+k.sz:=by rw[List.length_append,List.length_take,Array.length_toList,Array.length_toList];omega
     rw[←l1,List.take_left];have l2:(j+(ps.length+1))*k.sz=(cells.toList.take (j*k.sz)++v.cells.toList).length+(ps.length*k.sz):=by rw[l1,Nat.add_mul,Nat.add_mul];omega
     have hd:(cells.toList.take (j*k.sz)++v.cells.toList++cells.toList.drop (j*k.sz+v.cells.toList.length)).drop ((j+(ps.length+1))*k.sz)=cells.toList.drop ((j+(ps.length+1))*k.sz):=by rw[l2,List.drop_append,List.drop_eq_nil_of_le (by omega),List.nil_append,Nat.add_sub_cancel_left,List.drop_drop];congr 1;rw[l1,Array.length_toList];omega
     rw[hd];simp[List.append_assoc]
    ·rw[List.length_append,h5,Array.length_toList,Xs,List.length_cons,Nat.succ_mul];omega
    ·intro n x hx
     cases n with
     |zero =>
      simp only[List.getElem?_cons_zero,Option.some.injEq]at hx;subst hx;have Xt:v.cells.toList.length=k.sz:=by rw[Array.length_toList];exact Xs
      rw[Nat.zero_mul,List.drop_zero,←Xt,List.take_left];exact hk
     |succ n =>
      have:=h6 n x (by simpa using hx);have Xt:v.cells.toList.length=k.sz:=by rw[Array.length_toList];exact Xs
      have e:(n+1)*k.sz=v.cells.toList.length+n*k.sz:=by rw[Xt,Nat.succ_mul];omega
      rw[e,List.drop_append,List.drop_eq_nil_of_le (by omega),List.nil_append,Nat.add_sub_cancel_left];exact this
    ·intro q hq;rcases ab0.1 hq with hq|hq
     ·exact hk.one q hq
     ·exact h7 q hq
   ·cases hl
  ·cases hl
theorem Next.drop{Z1:Nat→Prop}{h1:Hp}(n:Next Z1 ψ h1 w B0 O N Z' ψ' h' w')(hz:∀b,Z b→Z1 b)(ve:∀b,Z1 b→Z b∨Own ψ h b)(ba:∀id o,h1 id=some o→h id=some o):Next Z ψ h w B0 O N Z' ψ' h' w':=by
 have hn:∀id,h1 id≠none→h id≠none:=fun id hn=>by obtain⟨o,ho⟩:=acf.1 hn;rw[ba id o ho];simp
 have ho:∀b,Own ψ h1 b→Own ψ h b:=fun b ⟨id,h2,h3⟩=>⟨id,hn id h2,h3⟩;refine⟨fun b hb=>n.fN b (hz b hb),fun b hb=>?_,⟨n.keep.os,n.keep.tape,n.keep.output,n.keep.size,fun b hb qG=>n.keep.block b hb (fun h=>qG (ho b h))⟩,fun id br=>(n.ids id br).imp (fun⟨h2,h3⟩=>⟨hn id h2,h3⟩) (fun h=>h),n.da⟩;rcases n.eC b hb with h2|h2|h2
 ·exact(ve b h2).imp (fun h=>h) (fun h=>.inl h)
 ·exact .inr (.inl (ho b h2))
 ·exact .inr (.inr h2)
theorem tB.nM{h h':Hp}(hs:∀id o,h' id=some o→h id=some o):∀{ps:List (Nat×AV)} {qs:List (Nat×Value)},tB Z ψ h w ps qs→tB Z ψ h' w ps qs:=by
 intro ps
 induction ps with
 |nil=>intro qs hp;cases qs with
  |nil=>trivial
  |cons q r=>exact hp.elim
 |cons p r ih=>intro qs hp;cases qs with
  |nil=>exact hp.elim
  |cons q s=>exact⟨hp.1,hp.2.1,hp.2.2.1.nM hs,ih hp.2.2.2⟩
theorem G6{hh:Heap}{Z1:Nat→Prop}(g:Good Z1 ψ h w B0 O)(g0:Good Z ψ hh.get w B0 O)(hz:∀b,Z b→Z1 b)(hB:B0≤w.heap.size){id:Nat}(hN:N id){t e:TypeId}{k:K}{i:TypeInfo}{z:Value}(ht:P.underlying t=some (.slice e))(he:nK P e k i z) {ps:List (Nat×AV)} {qs:Array (Nat×Value)} {xs:List k.T} (Pq:∀p∈ps,∀id b,AV.bC id∈p.2.cells→hh.get id≠none→ob (ψ id)=some b→Z1 b) (hp:tB Z ψ hh.get w ps qs.toList) (hl:qX k hh 0 ps=some xs) (hn:ps.length*k.sz≤1048576) (aX:∀i ty cs,h i=some (.box ty cs)→av (fun i=>i≠id) cs) :
  ∃v' w',(Instr.buildSlice t ps.length qs).run P w=.ok v' w'∧Next Z1 ψ h w B0 O N Z1 (dO ψ id v') (dO h id (some (.own (.row e k) xs))) w'∧(v'.cells=#[v']∧v'.oneCell'=true)∧(∀b,Own ψ h b→w'.heap[b]? = w.heap[b]?)∧(∀b,ob v'=some b→w.heap.size≤b)∧∃A c,v'=.slice A c c:=by
 let G7:Array Value:=(Array.range (ps.length*k.sz)).map (z.cells[· % z.cells.size]!)
 have zH:G7.size=ps.length*k.sz:=by simp[G7]
 obtain⟨fO,flat,h1,h2,h3,h4,h5,h6⟩:=G5 (Z':=Z1) g0 hz (ps:=ps) (qs:=qs.toList) (xs:=xs) (i:=0) (cells:=G7) Pq hp hl (by rw[Nat.zero_add,zH];exact acn _);have VU:fO.toList=flat:=by rw[h2,Nat.zero_mul,List.take_zero,List.nil_append,Nat.zero_add,List.drop_eq_nil_of_le (by rw[Array.length_toList,zH];exact Nat.le_refl _),List.append_nil]
 have Fq:fO.size=ps.length*k.sz:=by rw[←Array.length_toList,VU];exact h3
 have Da:=k.gh;have hlen:ps.length≤1048576:=acB (Nat.le_mul_of_pos_right _ Da) hn;have ot:(w.alloc (.cells fO e)).ownsRow 0 e k.sz (.slice (some ⟨w.heap.size,0,none⟩) ps.length ps.length) xs.length flat:=by have:=World.ownsRow_lit (base:=0) (e:=e) (size:=k.sz) w fO ps.length (adO _) (by simp only[maxLen];omega) Fq;rw[h6,←VU];exact this
 refine⟨.slice (some ⟨w.heap.size,0,none⟩) ps.length ps.length,w.alloc (.cells fO e),?_,oq g hB id e hN (vs:=flat) (cE.alloc _ _ _ _) (fun b hb=>heap_alloc_old w _ (g.bF hb)) (dx.of ot) (h4.AK ((cE.alloc ψ h w _).same g)) (fun b hb=>by simp only[ob]at hb;split at hb<;>cases hb;exact acn _) aX,(dx.of ot).one,fun b hb=>heap_alloc_old w _ (g.bF hb),fun b hb=>by simp only[ob]at hb;split at hb<;>cases hb;exact acn _,_,_,rfl⟩
 ·show _=Result.ok (Value.slice (some ⟨w.heap.size,0,none⟩) ps.length ps.length) _;have AP:¬ps.length*k.sz>2 ^ 24:=by omega
  have hc:P.cellsOf e=k.sz:=by simp[Program.cellsOf,he.info,he.size]
  simp only[Instr.buildSlice,Sem.run_bind,run_underlying ht,Result.andThen_ok,dn he.info,hc];rw[if_neg AP];have vf:(newRow e fO).run P w=.ok ⟨w.heap.size,0,none⟩ (w.alloc (.cells fO e)):=rfl;by_cases h0:ps.length*k.sz=0
  ·have T5:G7=#[]:=adU (by rw[zH,h0]);have ve:(Array.range (ps.length*k.sz)).map (fun x=>(#[]:Array Value)[x%(#[]:Array Value).size]!)=#[]:=adU (by simp[h0]);rw[if_pos h0];rw[T5]at h1;simp only[Sem.run_pure,Result.andThen_ok,ve,h1,Sem.run_bind,vf]
  ·rw[if_neg h0];simp only[Sem.run_bind,ri he.info he.zero,Result.andThen_ok,Sem.run_pure];rw[show(Array.range (ps.length*k.sz)).map (fun x=>z.cells[x%z.cells.size]!)=G7 from rfl,h1];simp only[Sem.run_bind,vf,Result.andThen_ok,Sem.run_pure]
theorem PS(g:Good Z ψ h w B0 O)(hB:B0≤w.heap.size){id:Nat}{e:TypeId}{k:K}{xs:List k.T}{v':Value}(n:Next Z ψ h w B0 O N Z (dO ψ id v') (dO h id (some (.own (.row e k) xs))) w') (tw:∀b,Own ψ h b→w'.heap[b]? = w.heap[b]?) (vf:∀b,ob v'=some b→w.heap.size≤b) (hex:∃A c,v'=.slice A c c) :
  Next Z ψ h w B0 O N (fun b=>Z b∨ob v'=some b) ψ h w'∧au (fun b=>Z b∨ob v'=some b) ψ h w' (.sl true k xs) v':=by
 have mR:jr Z w' (.row e k) v' xs:=by
  have:=n.da.row id (.row e k) xs (aU _ _ _)
  rwa [aU]at this
 obtain⟨vs,ho,hv⟩:=mR;have m:Next Z ψ h w B0 O (fun _=>False) Z ψ h w':=g.more n.keep tw (fun _ _=>⟨rfl,rfl⟩) (fun i ty cs hb=>by
  have e:(fun _:Nat=>¬False)=fun _=>True:=by funext i;simp
  rw[e];exact av.top cs) (fun _ _ _ h=>h.elim) (fun _ _ _ h=>h.elim) (fun _ _ h=>h.elim) (fun _ _ _ h=>h.elim) hB
 have hz:∀b,Z b→Z b∨ob v'=some b:=fun b h=>.inl h;refine⟨⟨hz,fun b hb=>hb.imp (fun h=>h) fun h=>.inr (vf b h),m.keep,fun i hi=>.inl ((m.ids i hi).resolve_right (fun h=>h)),⟨fun i ty cs hb=>?_,fun i ok x hb=>?_,fun i b h1 h2=>?_,m.da.apart,fun b hb=>?_⟩⟩,?_⟩
 ·obtain⟨gg,vs,f1,f2,f3,f4⟩:=m.da.box i ty cs hb;exact⟨gg,vs,f1,f2,an.less hz (cj.refl _ _) (fun _ h=>⟨h,rfl⟩) f3,f4⟩
 ·exact(m.da.row i ok x hb).kept hz (cj.refl _ _) (fun _ _=>rfl)
 ·obtain⟨k1,k2⟩:=m.da.live i b h1 h2;refine⟨fun hb=>hb.elim k1 fun hb=>?_,k2⟩;have:=g.bF ⟨i,h1,h2⟩;have:=vf b hb;omega
 ·rcases hb with hb|hb
  ·exact m.da.jO b hb
  ·exact jr.lt (ok:=.row e k) ⟨vs,ho,hv⟩ hb
 ·simp only[au];exact⟨u5 ho hv (fun b h=>.inl h) (fun b h=>.inr h),fun _=>hex⟩
end Go.Vs
