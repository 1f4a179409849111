/- The value semantics of the -/
import Derived.Control
import Derived.Calls
import Derived.Orders
import GoSem.Machine.Frame
import Derived.Laws.AppendOwn
import GoSem.Core.Utf8
import Derived.Below
import Derived.Laws.OwnMore
import Derived.Laws.Rows
import Derived.Deep.Draws
import Derived.Laws.CopyRow
import Derived.Laws.Cells
import Derived.Laws.Sem
import Derived.Maps.AppendAt
import Derived.ArgAppend
import Derived.WalkKit
set_option linter.unusedVariables false
set_option linter.unusedSimpArgs false
namespace Go
abbrev abf:=@List.getElem?_eq_getElem
abbrev abg:=@List.mem_cons_of_mem
abbrev abp:=@List.getElem?_eq_some_iff
abbrev abq:=@List.mem_cons
abbrev abr:=@List.mem_append_left
abbrev abw:=@List.mem_append_right
abbrev abB:=@Array.getElem?_eq_some_iff
abbrev abC:=@List.mem_of_getElem?
abbrev abD:=@List.eq_nil_of_length_eq_zero
abbrev abP:=@Option.ne_none_iff_exists'
abbrev abX:=@Nat.le_refl
abbrev abY:=@List.mem_append
abbrev ab0:=@Nat.mul_le_mul_right
abbrev acC:=@List.nodup_cons
abbrev acD:=@List.mem_cons_self
abbrev acE:=@List.mem_map
abbrev acG:=@List.getElem_mem
abbrev acK:=@Option.isSome_iff_exists
abbrev acP:=@Option.some.inj
abbrev acQ:=@Array.getElem?_eq_getElem
abbrev acR:=@Nat.le_trans
abbrev acS:=@List.rel_of_pairwise_cons
abbrev acX:=@Option.map_eq_some_iff
abbrev acY:=@Option.bind_eq_some_iff
abbrev ac2:=@List.all_eq_true
abbrev ac5:=@Bool.eq_false_iff
abbrev ac6:=@Nat.zero_le
abbrev ac7:=@List.mem_range
abbrev adf:=@Nat.lt_of_lt_of_le
abbrev adm:=@List.append_of_mem
abbrev ado:=@List.mem_of_find?_eq_some
abbrev adz:=@List.nodup_append
abbrev adC:=@List.mem_flatten
abbrev adK:=@List.pairwise_iff_getElem
abbrev adO:=@List.ext_getElem?
abbrev adS:=@List.length_filter_le
abbrev adV:=@Array.all_eq_true_iff_forall_mem
abbrev ad1:=@List.Perm.append_right
abbrev aeg:=@List.drop_eq_getElem_cons
abbrev aeo:=@List.getElem?_of_mem
abbrev aew:=@List.countP_le_length
abbrev aeA:=@List.mem_iff_getElem?
abbrev aeB:=@List.mem_of_mem_take
abbrev aeC:=@List.mem_filter
abbrev aeD:=@List.mem_of_mem_drop
abbrev aeE:=@List.cons.inj
abbrev aeF:=@List.drop_eq_nil_of_le
abbrev aeG:=@List.find?_some
abbrev aeH:=@Array.mem_of_getElem?
abbrev aeI:=@List.findIdx?_eq_some_iff_getElem
abbrev aeJ:=@List.Perm.refl
abbrev aeK:=@Bool.and_eq_true
abbrev aeL:=@List.getElem_of_mem
abbrev aeM:=@Nat.mod_lt
abbrev aeN:=@Array.eq_empty_of_size_eq_zero
abbrev aeO:=@List.pairwise_map
abbrev aeP:=@List.Pairwise.of_cons
abbrev aeQ:=@List.mem_of_mem_erase
abbrev aeR:=@List.mem_erase_of_ne
abbrev aeS:=@Nat.succ_mul
abbrev aeT:=@List.mem_filterMap
abbrev aeU:=@Nat.mul_le_mul
end Go
namespace Go.Vs
inductive K where
 |int (k:IntKind)|bool|str|sl (k:K)|pair (a b:K)|one (k:K)|mp (kk vk:K)|fn (f:Nat)
 deriving DecidableEq
def K.T:K→Type
 |.int _=>Int
 |.bool=>Bool
 |.str=>ByteArray
 |.sl k=>List k.T
 |.pair a b=>a.T×b.T
 |.one k=>k.T
 |.mp kk vk=>List (kk.T×vk.T)
 |.fn _=>Unit
def K.sz:K→Nat
 |.pair a b=>a.sz+b.sz
 |.one k=>k.sz
 |_=>1
def q9(P:Program):Nat→TypeId→Option K
 |0,_=>none
 |d+1,t =>
  match P.underlying t with
  |some (.int k)=>some (.int k)
  |some .bool=>some .bool
  |some .string=>some .str
  |some (.slice e)=>(q9 P d e).map .sl
  |some (.map a b)=>match q9 P d a,q9 P d b with
   |some x,some y=>some (.mp x y)
   |_,_=>none
  |some (.struct fs) =>
   match (fs.toList.map fun f=>q9 P d f.type).reverse with
   |[]=>none
   |[k]=>k.map .one
   |last::rest=>rest.foldl (fun acc k=>match k,acc with|some k,some a=>some (.pair k a)|_,_=>none) last
  |_=>none
def K.flat:K→Bool
 |.sl _=>false
 |.mp _ _=>false
 |.fn _=>false
 |.pair a b=>a.flat&&b.flat
 |.one k=>k.flat
 |_=>true
def K.isAgg:K→Bool
 |.pair _ _=>true
 |.one _=>true
 |_=>false
inductive AV where
 |no
 |bool (b:Bool)
 |int (k:IntKind) (n:Int)
 |str (s:ByteArray)
 |mA
 |gq
 |ref (id s i off:Nat)
 |fp (k:K) (x:k.T) (off:Nat)
 |sl (ex:Bool) (k:K) (xs:List k.T)
 |mp (kk vk:K) (es:List (kk.T×vk.T))
 |bO (id:Nat)
 |fn (f:FuncId) (cap:List AV)
 |agg (cs:List AV)
 |pC (vs:List AV)
def AV.isAgg:AV→Bool
 |.agg _=>true
 |_=>false
def AV.cells:AV→List AV
 |.agg cs=>cs
 |v=>[v]
def enc:(k:K)→k.T→List AV
 |.int ik,n=>[.int ik n]
 |.bool,b=>[.bool b]
 |.str,s=>[.str s]
 |.sl k,xs=>[.sl false k xs]
 |.mp kk vk,es=>[.mp kk vk es]
 |.fn f,_=>[.fn f []]
 |.pair a b,x=>enc a x.1++enc b x.2
 |.one k,x=>enc k x
def I9(ik:IntKind):List AV→Option (Int×List AV)
 |.int ik' n::r=>if ik'=ik then some (n,r) else none
 |_=>none
def CJ:List AV→Option (Bool×List AV)
 |.bool b::r=>some (b,r)
 |_=>none
def Ja:List AV→Option (ByteArray×List AV)
 |.str s::r=>some (s,r)
 |_=>none
def PU(k:K):List AV→Option (List k.T×List AV)
 |.sl _ k' xs::r=>if h:k'=k then some (h▸xs,r) else none
 |.gq::r=>some ([],r)
 |_=>none
def PV(kk vk:K):List AV→Option (List (kk.T×vk.T)×List AV)
 |.mp PW Y1 es::r=>if h:PW=kk∧Y1=vk then some (h.1▸h.2▸es,r) else none
 |_=>none
def PX(f:FuncId):List AV→Option (Unit×List AV)
 |.fn f' []::r=>if f'=f then some ((),r) else none
 |_=>none
def dec:(k:K)→List AV→Option (k.T×List AV)
 |.int ik,cs=>I9 ik cs
 |.bool,cs=>CJ cs
 |.str,cs=>Ja cs
 |.sl k,cs=>PU k cs
 |.mp kk vk,cs=>PV kk vk cs
 |.fn f,cs=>PX f cs
 |.pair a b,cs =>
  match dec a cs with
  |some (x,r)=>match dec b r with
   |some (y,r')=>some ((x,y),r')
   |none=>none
  |none=>none
 |.one k,cs=>dec k cs
def dM(k:K)(cs:List AV):Option k.T :=match dec k cs with
 |some (x,[])=>some x
 |_=>none
def cp:(k:K)→k.T→AV
 |.pair a b,x=>.agg (enc (.pair a b) x)
 |.one k,x=>.agg (enc (.one k) x)
 |.int ik,n=>.int ik n
 |.bool,b=>.bool b
 |.str,s=>.str s
 |.sl k,xs=>.sl false k xs
 |.mp kk vk,es=>.mp kk vk es
 |.fn f,_=>.fn f []
inductive OK where
 |row (ty:TypeId) (k:K)|map (kk vk:K)|iter (kk vk:K)|pX
 deriving DecidableEq
abbrev OK.T:OK→Type
 |.row _ k=>List k.T
 |.map kk vk=>List (kk.T×vk.T)
 |.iter kk vk=>Option (kk.T×vk.T)×List (kk.T×vk.T)
 |.pX=>ByteArray×Nat
inductive Ob where
 |box (ty:TypeId) (cs:List AV)
 |own (ok:OK) (x:ok.T)
abbrev Heap:=List (Nat×Ob)
def Heap.get:Heap→Nat→Option Ob
 |[],_=>none
 |(i,o)::r,n=>if i=n then some o else Heap.get r n
def Heap.del:Heap→Nat→Heap
 |[],_=>[]
 |(i,o)::r,n=>if i=n then Heap.del r n else(i,o)::Heap.del r n
def Heap.set(h:Heap)(n:Nat)(o:Ob):Heap:=(n,o)::h.del n
def dp(h:Heap):AV→AV
 |.bO id=>match h.get id with
  |some (.own (.row _ k) xs)=>.sl false k xs
  |some (.own (.map kk vk) es)=>.mp kk vk es
  |_=>.no
 |v=>v
def drop1(h:Heap):AV→Heap
 |.bO id=>h.del id
 |_=>h
def de(h:Heap):List AV→Heap
 |[]=>h
 |c::r=>de (drop1 h c) r
structure St where
 tmps:List (Nat×AV)
 heap:Heap
def look:List (Nat×AV)→Nat→AV
 |[],_=>.no
 |(i,v)::r,n=>if i=n then v else look r n
def St.put(s:St)(d:Option Tmp)(v:AV):St :=match d with
 |some d=>{ s with tmps:=(d,v)::s.tmps }
 |none=>s
def Ag:Value→AV
 |.bool b=>.bool b
 |.int k n=>.int k n
 |.string s=>.str s
 |.pointer a=>if a=none then .mA else .no
 |.slice a n c=>if a=none∧n=0∧c=0 then .gq else .no
 |.func fn first cap=>match fn with
  |.func f=>if first.size=0∧cap.size=0 then .fn f [] else .no
  |_=>.no
 |_=>.no
def w6(v:Value):AV :=match v with
 |.agg cs=>.agg (cs.toList.map Ag)
 |v=>Ag v
def ρ(s:List (Nat×AV)):Operand→AV
 |.tmp t=>look s t
 |.const v=>w6 v
 |.global _=>.no
 |.func f=>.fn f []
inductive bD where
 |val (v:AV)
 |new (v:AV) (os:Heap)
 |wr (v:AV) (h:Heap)
def bD.v:bD→AV
 |.val v=>v
 |.new v _=>v
 |.wr v _=>v
def bD.h(h:Heap):bD→Heap
 |.val _=>h
 |.new _ os=>os++h
 |.wr _ h'=>h'
inductive CK where
 |val (k:K)
 |own (ok:OK)
inductive PK where
 |val (k:K)
 |ref
 |own
 |xT (f:FuncId) (n:Nat)
 |agg (n:Nat)
inductive RK where
 |val (k:K)
 |own (ok:OK)
 |fF (b:Nat) (alts:List (Nat×Nat×Nat))
 |agg (c:List CK)
inductive BK where
 |box (ty:TypeId) (eC:List CK)
 |own (ok:OK)
def BK.eC:BK→List CK
 |.box _ c=>c
 |.own _=>[]
def CK.T:CK→Type
 |.val k=>k.T
 |.own ok=>ok.T
def tn:List CK→Type
 |[]=>Unit
 |c::r=>c.T×tn r
abbrev BK.T:BK→Type
 |.box _ c=>tn c
 |.own ok=>ok.T
def BC:List BK→Type
 |[]=>Unit
 |b::r=>b.T×BC r
def KR:List K→Type
 |[]=>Unit
 |k::r=>k.T×KR r
def RK.T:RK→Type
 |.val k=>k.T
 |.own ok=>ok.T
 |.fF _ alts=>Option (Fin alts.length×Nat)
 |.agg c=>tn c
def np:List RK→Type
 |[]=>Unit
 |r::l=>r.T×np l
def mj:List PK→List K
 |[]=>[]
 |.val k::r=>k::mj r
 |_::r=>mj r
structure aO where
 ps:List PK
 bs:List BK
 rs:List RK
 x:Option (Heap→Nat→List AV→Option (Bool×bD)):=none
abbrev aO.A(g:aO):Type:=KR (mj g.ps)×BC g.bs
abbrev aO.B(g:aO):Type:=np g.rs×BC g.bs
def RK.plain:RK→Bool
 |.val _=>true
 |.own ..=>true
 |.fF ..=>false
 |.agg c=>decide (c.length≤16)
def RK.flat:RK→Bool
 |.val k=>k.flat
 |.own (.row _ k)=>k.flat
 |.own _=>false
 |.fF ..=>true
 |.agg _=>false
section
variable (P:Program)
def NQ:TypeDesc→Bool
 |.struct _=>true
 |.array _ _=>true
 |_=>false
def Hq(t:TypeId):Option Bool:=(P.underlying t).map NQ
def iZ(t:TypeId)(f:Nat):Option (Nat×TypeId) :=match P.underlying t with
 |some (.struct fs)=>(fs[f]?).map fun x=>(x.offset,x.type)
 |_=>none
def tp(t:TypeId):Option TypeId :=match P.underlying t with
 |some (.slice e)=>some e
 |_=>none
def Dt(t:TypeId):Option (List AV):=(P.info? t).bind fun i=>i.zero.bind fun z=>if z.cells.toList.all (·.oneCell') then some (w6 z).cells else none
def eW(t:TypeId)(cs:List AV):Option AV :=match Hq P t with
 |some true=>if P.cellsOf t≤cs.length then some (.agg (cs.take (P.cellsOf t))) else none
 |some false=>match cs with
  |c::_=>some c
  |[]=>none
 |none=>none
def eU{α:Type}(cs:List α):Nat→List α→List α
 |_,[]=>cs
 |off,v::r=>eU (cs.set off v) (off+1) r
def Hr(place:Nat→Option (Nat×Nat))(cs:List AV):List (Nat×AV)→Option (List AV)
 |[]=>some cs
 |(i,v)::r =>
  match place i with
  |none=>none
  |some (off,size)=>if v.cells.length≠size∨off+v.cells.length>cs.length then none else Hr place (eU cs off v.cells) r
def dI(op:BinOp)(k:IntKind)(a b:Int):Int :=k.wrap ((match op with
  |.and=>BitVec.ofInt k.bits a &&& BitVec.ofInt k.bits b
  |.or=>BitVec.ofInt k.bits a ||| BitVec.ofInt k.bits b
  |.xor=>BitVec.ofInt k.bits a ^^^ BitVec.ofInt k.bits b
  |_=>BitVec.ofInt k.bits a &&& ~~~(BitVec.ofInt k.bits b)).toNat:Int)
def Cs(k:IntKind)(a b:Int):Int:=k.wrap (a*2 ^ (min b.toNat k.bits))
def iq(k:IntKind)(a b:Int):Int:=a.fdiv (2 ^ (min b.toNat k.bits))
def acu(op:BinOp)(k:IntKind)(a b:Int):Option AV :=match op with
 |.add=>some (.int k (k.wrap (a+b)))
 |.sub=>some (.int k (k.wrap (a-b)))
 |.mul=>some (.int k (k.wrap (a*b)))
 |.eql=>some (.bool (a==b))
 |.neq=>some (.bool (a != b))
 |.lss=>some (.bool (decide (a<b)))
 |.leq=>some (.bool (decide (a≤b)))
 |.gtr=>some (.bool (decide (a>b)))
 |.geq=>some (.bool (decide (a≥b)))
 |.and=>some (.int k (dI .and k a b))
 |.or=>some (.int k (dI .or k a b))
 |.xor=>some (.int k (dI .xor k a b))
 |.andNot=>some (.int k (dI .andNot k a b))
 |_=>none
def ae8(op:BinOp)(a b:ByteArray):Option AV :=match op with
 |.eql=>some (.bool (a==b))
 |.neq=>some (.bool (!(a==b)))
 |_=>none
def uJ:(k:K)→k.T→k.T→Bool
 |.int _,x,y=>(show Int from x)==y
 |.bool,x,y=>(show Bool from x)==y
 |.str,x,y=>(show ByteArray from x)==y
 |.sl _,_,_=>false
 |.mp _ _,_,_=>false
 |.fn _,_,_=>false
 |.pair a b,x,y=>uJ a x.1 y.1&&uJ b x.2 y.2
 |.one k,x,y=>uJ k x y
def sZ(kk:K){α:Type}(x:kk.T)(es:List (kk.T×α)):Option Nat:=es.findIdx? fun e=>uJ kk x e.1
def fG(kk:K){α:Type}(x:kk.T)(es:List (kk.T×α)):Option α:=(sZ kk x es).bind fun i=>(es[i]?).map (·.2)
def j4(kk:K){α:Type}(x:kk.T)(v:α)(es:List (kk.T×α)):List (kk.T×α):=match sZ kk x es with
 |some i=>es.set i (x,v)
 |none=>es++[(x,v)]
def Gz(kk:K){α:Type}(x:kk.T)(es:List (kk.T×α)):List (kk.T×α):=match sZ kk x es with
 |some i=>es.eraseIdx i
 |none=>es
def kC:(k:K)→k.T
 |.int _=>(0:Int)
 |.bool=>false
 |.str=>ByteArray.empty
 |.sl k=>([]:List k.T)
 |.pair a b=>(kC a,kC b)
 |.one k=>kC k
 |.mp kk vk=>([]:List (kk.T×vk.T))
 |.fn _=>()
def Uc:K→Value→Bool
 |.int ik,.int ik' n=>decide (ik'=ik∧n=0)
 |.bool,.bool b => !b
 |.str,.string s=>decide (s=ByteArray.empty)
 |.sl _,.slice a n c=>decide (a=none∧n=0∧c=0)
 |_,_=>false
def KS(t:TypeId)(k:K):Bool:=match P.info? t with
 |some i=>match i.zero with
  |some z=>Uc k z
  |none=>false
 |none=>false
def PY(Eqs:TypeId→Option K)(t:TypeId)(k:K):Bool:=k.flat&&(match k,P.underlying t with
 |.int ik,some (.int ik')=>decide (ik'=ik)
 |.bool,some .bool=>true
 |.str,some .string=>true
 |k,_=>k.isAgg&&decide (Eqs t=some k))
def mapOf(Eqs:TypeId→Option K)(t:TypeId):Option (K×K):=match P.underlying t with
 |some (.map a b)=>match q9 P 8 a,q9 P 8 b with
  |some kk,some vk=>if PY P Eqs a kk&&KS P b vk then some (kk,vk) else none
  |_,_=>none
 |_=>none
def aP{α:Type}(xs:List α)(i:Int):Option α:=if 0≤i then xs[i.toNat]? else none
def fH:Nat:=1073741824
def aR(n m:Nat):Bool:=decide (n+m≤fH)
def pY(n:Nat)(lo hi:Option AV):Option (Int×Int) :=match lo,hi with
 |none,none=>some (0,(n:Int))
 |some (.int .i64 l),none=>some (l,(n:Int))
 |none,some (.int .i64 h)=>some (0,h)
 |some (.int .i64 l),some (.int .i64 h)=>some (l,h)
 |_,_=>none
def aq(n:Nat)(l h:Int):Bool:=decide (0≤l)&&(decide (l≤h)&&decide (h≤(n:Int)))
def cut{α:Type}(xs:List α)(l h:Int):List α:=(xs.take h.toNat).drop l.toNat
def acv(s:ByteArray)(l h:Int):ByteArray:=s.extract l.toNat h.toNat
variable {R:Type}
def iQ(k:K)(h:Heap)(v:AV):Option k.T:=if k.isAgg=v.isAgg then dM k (v.cells.map (dp h)) else none
def rowOf(h:Heap)(v:AV)(k:K):Option (List k.T) :=match dp h v with
 |.sl _ k' xs=>if e:k'=k then some (e▸xs) else none
 |.gq=>some []
 |_=>none
def Ah(e:TypeId)(k:K):Bool :=match P.info? e with
 |some i=>(match i.zero with
  |some z=>decide (i.size=k.sz)&&(decide (z.cells.size=k.sz)&&decide (i.bytes≤65536))
  |none=>false)
 |none=>false
def RO(t:TypeId):Bool:=match P.underlying t with
 |some (.int .u8)=>true
 |_=>false
def acw(e:TypeId):Bool:=match P.info? e with
 |some i=>decide (i.size=1)&&decide (i.bytes=1)&&(match i.zero with|some (.int .u8 n)=>decide (n=0)|_=>false)
 |none=>false
def strOf(xs:List Int):ByteArray:=xs.foldl (fun r n=>r.push (UInt8.ofNat n.toNat)) ByteArray.empty
def bytesOf(s:ByteArray):List Int:=s.data.toList.map fun b=>(b.toNat:Int)
def tu(xs:List Int)(b:ByteArray):List Int:=xs++bytesOf b
def mT(h:Heap)(id:Nat)(t:TypeId)(s:AV)(b:ByteArray)(K:bD→Option R):Option R :=match tp P t,s with
 |some e,.bO dJ =>
  if acw P e then match h.get dJ with
   |some (.own (.row e' k') xs)=>if c:e'=e∧k'=.int .u8 then cond (!xs.isEmpty&&aR xs.length b.size) (K (.wr (.bO id) ((h.del dJ).set id (.own (.row e (.int .u8)) (tu (c.2▸xs:List (Vs.K.int .u8).T) b))))) none else none
   |_=>none
  else none
 |_,_=>none
def uK(id:Nat)(t:TypeId)(l c:AV)(K:bD→Option R):Option R :=match tp P t,l,c with
 |some e,.int .i64 n,.int .i64 m =>
  match q9 P 8 e with
  |some kk=>if Ah P e kk&&KS P e kk then cond (decide (0≤n)&&(decide (n≤(fH:Int))&&decide (m=n))) (K (.new (.bO id) [(id,.own (.row e kk) (List.replicate n.toNat (kC kk)))])) none else none
  |none=>none
 |_,_,_=>none
def oG{α:Type}(ys xs:List α):List α:=ys.take xs.length++xs.drop ys.length
def Ai(h:Heap)(t:TypeId)(d s:AV)(K:bD→Option R):Option R :=match tp P t,d with
 |some e,.bO id =>
  match h.get id with
  |some (.own (.row e' k) xs) =>
   match rowOf h s k with
   |some ys=>if e'=e∧Ah P e k=true then cond (!xs.isEmpty) (K (.wr (.int .i64 (min (ys.length:Int) (xs.length:Int))) (h.set id (.own (.row e' k) (oG ys xs))))) none else none
   |none=>none
  |_=>none
 |_,_=>none
def pZ(h:Heap)(id:Nat)(t:TypeId)(s x:AV)(K:bD→Option R):Option R :=match tp P t with
 |none=>none
 |some e =>
  match q9 P 8 e with
  |none=>none
  |some kk =>
   match rowOf h x kk,Ah P e kk with
   |some ys,true =>
    match s with
    |.gq=>cond (aR 0 ys.length) (K (.new (.bO id) [(id,.own (.row e kk) ys)])) none
    |.bO dJ =>
     match h.get dJ with
     |some (.own (.row e' k') xs) =>
      if c:e'=e∧k'=kk then cond (aR xs.length ys.length) (K (.wr (.bO id) ((h.del dJ).set id (.own (.row e kk) (c.2▸xs++ys))))) none else none
     |_=>none
    |.sl ex k' xs =>
     if c:k'=kk then cond (ex&&((!ys.isEmpty || xs.isEmpty)&&aR xs.length ys.length)) (K (.new (.bO id) [(id,.own (.row e kk) (c▸xs++ys))])) none else none
    |_=>none
   |_,_=>none
def Aj:AV→Bool
 |.no=>false
 |.agg _=>false
 |.pC _=>false
 |_=>true
def NR(id:Nat):List AV→Bool
 |[]=>true
 |.bO i::r => !(i==id)&&NR id r
 |_::r=>NR id r
def stored(h:Heap)(vs:List AV):List AV×Heap:=(vs.map (dp h),de h vs)
def uL(h:Heap)(t:TypeId)(a v:AV)(K:bD→Option R):Option R :=if v.cells.length=P.cellsOf t∧(P.info? t).isSome∧v.cells.all Aj then
  match a with
  |.ref id s i off =>
   match h.get id with
   |some (.box ty cs)=>if i=0∧off+v.cells.length≤cs.length then K (.wr .no (h.set id (.box ty (eU cs off v.cells)))) else none
   |some (.own (.row ty kk) xs) =>
    (xs[i]?).bind fun x =>if s=kk.sz∧off+v.cells.length≤kk.sz∧NR id v.cells then
      match dM kk (eU (enc kk x) off (stored h v.cells).1) with
      |some y=>K (.wr .no ((stored h v.cells).2.set id (.own (.row ty kk) (xs.set i y))))
      |none=>none
     else none
   |_=>none
  |_=>none
 else none
def nq(h:Heap)(t:TypeId)(a:AV)(K:bD→Option R):Option R :=match a with
 |.ref id s i off =>
  match h.get id with
  |some (.box _ cs)=>if i=0 then(match eW P t (cs.drop off) with|some v=>K (.val v)|none=>none) else none
  |some (.own (.row _ kk) xs)=>if s=kk.sz then(xs[i]?).bind fun x=>match eW P t ((enc kk x).drop off) with|some v=>K (.val v)|none=>none else none
  |_=>none
 |.fp kk x off=>match eW P t ((enc kk x).drop off) with|some v=>K (.val v)|none=>none
 |_=>none
def ae9(t:TypeId):Option (Nat×TypeId):=match P.underlying t with
 |some (.array n e)=>some (n,e)
 |_=>none
def jy(t:TypeId)(x i:AV)(K:bD→Option R):Option R :=match ae9 P t,x,i with
 |some (m,e),.ref id s j off,.int _ n=>if P.cellsOf e=0 then none else cond (decide (0≤n)&&decide (n<(m:Int))) (K (.val (.ref id s j (off+n.toNat*P.cellsOf e)))) none
 |_,_,_=>none
def dZ(h:Heap)(t:TypeId)(x i:AV)(K:bD→Option R):Option R :=match tp P t with
 |none=>jy P t x i K
 |some e =>
  match x,i with
  |.sl _ kk xs,.int _ n=>if P.cellsOf e=kk.sz then(aP xs n).bind fun y=>K (.val (.fp kk y 0)) else none
  |.bO id,.int _ n =>
   match h.get id with
   |some (.own (.row _ kk) xs)=>if P.cellsOf e=kk.sz then cond (decide (0≤n)&&decide (n<(xs.length:Int))) (K (.val (.ref id kk.sz n.toNat 0))) none else none
   |_=>none
  |_,_=>none
def Ak(x:AV)(lo hi mx:Option AV)(K:bD→Option R):Option R :=match x,mx with
 |.str s,none =>
  match pY s.size lo hi with
  |some (l,u)=>cond (aq s.size l u) (K (.val (.str (acv s l u)))) none
  |none=>none
 |_,_=>none
def rf(_:Heap)(sz:Nat)(x:AV)(lo hi mx:Option AV)(K:bD→Option R):Option R :=match x with
 |.gq =>
  match pY 0 lo hi,mx with
  |some (l,u),none=>cond (aq 0 l u) (K (.val .gq)) none
  |_,_=>none
 |.sl _ kk xs =>
  if sz=kk.sz then
   match pY xs.length lo hi with
   |some (l,u) =>
    match mx with
    |none=>cond (aq xs.length l u) (K (.val (.sl false kk (cut xs l u)))) none
    |some (.int .i64 m)=>cond (aq xs.length l u&&(hi.isSome&&decide (m=u))) (K (.val (.sl true kk (cut xs l u)))) none
    |_=>none
   |none=>none
  else none
 |_=>none
def acx(t:TypeId)(x:AV):Bool :=match P.underlying t,x with
 |some .string,.str _=>true
 |some (.slice _),.str _=>false
 |some (.slice _),_=>true
 |_,_=>false
def NS(t:TypeId):Bool :=match P.underlying t with
 |some (.map _ _)=>true
 |_=>false
def Hs(h:Heap)(x:AV)(K:bD→Option R):Option R :=match dp h x with
 |.str s=>K (.val (.int .i64 (s.size:Int)))
 |.sl _ _ xs=>K (.val (.int .i64 (xs.length:Int)))
 |.gq=>K (.val (.int .i64 0))
 |_=>none
def Al(h:Heap)(x:AV)(K:bD→Option R):Option R :=match dp h x with
 |.mp _ _ es=>K (.val (.int .i64 (es.length:Int)))
 |_=>none
def mU(Eqs:TypeId→Option K)(id:Nat)(t:TypeId)(K:bD→Option R):Option R :=match mapOf P Eqs t with
 |some (kk,vk)=>K (.new (.bO id) [(id,.own (.map kk vk) [])])
 |none=>none
def p6(Eqs:TypeId→Option K)(h:Heap)(t:TypeId)(m i:AV)(ok:Bool)(K:bD→Option R):Option R :=match mapOf P Eqs t,dp h m with
 |some (kk,vk),.mp PW Y1 es =>
  if c:PW=kk∧Y1=vk then
   match iQ kk h i with
   |some x=>K (.val (cond ok (.pC [cp vk ((fG kk x (c.1▸c.2▸es:List (kk.T×vk.T))).getD (kC vk)),.bool (fG kk x (c.1▸c.2▸es:List (kk.T×vk.T))).isSome]) (cp vk ((fG kk x (c.1▸c.2▸es:List (kk.T×vk.T))).getD (kC vk)))))
   |none=>none
  else none
 |_,_=>none
def jP(Eqs:TypeId→Option K)(h:Heap)(t:TypeId)(m i v:AV)(K:bD→Option R):Option R :=match mapOf P Eqs t,m with
 |some (kk,vk),.bO id =>
  match h.get id with
  |some (.own (.map PW Y1) es) =>
   if c:PW=kk∧Y1=vk then
    match iQ kk h i,iQ vk h v,(v.cells.all fun c=>match c with | .bO j => !(j==id)|_=>true) with
    |some x,some y,true=>K (.wr (.pC []) ((de h v.cells).set id (.own (.map kk vk) (j4 kk x y (c.1▸c.2▸es:List (kk.T×vk.T))))))
    |_,_,_=>none
   else none
  |_=>none
 |_,_=>none
def p7(Eqs:TypeId→Option K)(h:Heap)(t:TypeId)(m i:AV)(K:bD→Option R):Option R :=match mapOf P Eqs t,m with
 |some (kk,vk),.bO id =>
  match h.get id with
  |some (.own (.map PW Y1) es) =>
   if c:PW=kk∧Y1=vk then
    match iQ kk h i with
    |some x=>K (.wr (.pC []) (h.set id (.own (.map kk vk) (Gz kk x (c.1▸c.2▸es:List (kk.T×vk.T))))))
    |none=>none
   else none
  |_=>none
 |_,_=>none
def qa(id:Nat)(t:TypeId)(x:AV)(K:bD→Option R):Option R :=match P.underlying t,x with
 |some .string,.str s=>K (.new (.bO id) [(id,.own .pX (s,0))])
 |_,_=>none
def rh(s:ByteArray)(p:Nat):Int:=(Utf8.decode s p).1
def Du(s:ByteArray)(p:Nat):Nat:=(Utf8.decode s p).2
def uM(h:Heap)(x:AV)(K:bD→Option R):Option R :=match x with
 |.bO id=>match h.get id with
  |some (.own .pX x)=>cond (decide (x.2<x.1.size)) (K (.wr (.pC [.bool true,.int .i64 (x.2:Int),.int .i32 (rh x.1 x.2)]) (h.set id (.own .pX (x.1,x.2+Du x.1 x.2))))) (K (.val (.pC [.bool false])))
  |_=>none
 |_=>none
def uN(h:Heap)(x:AV)(K:bD→Option R):Option R :=match x with
 |.bO id=>match h.get id with
  |some (.own (.iter kk vk) (some c,_))=>K (.val (.pC [cp kk c.1,cp vk c.2]))
  |_=>none
 |_=>none
def Jb:TypeDesc→Bool
 |.bool=>true
 |_=>false
def Am:TypeDesc→Bool
 |.pointer _=>true
 |_=>false
def BD(Eqs:TypeId→Option K)(op:BinOp)(t:TypeId)(x y:AV)(K:bD→Option R):Option R :=match x,y with
 |.int k a,.int k' b =>
  match op with
  |.shl=>cond (decide (b<0)) none (K (.val (.int k (Cs k a b))))
  |.shr=>cond (decide (b<0)) none (K (.val (.int k (iq k a b))))
  |op =>
  if k=k' then
   match op with
   |.quo=>cond (b==0) none (K (.val (.int k (k.wrap (a.tdiv b)))))
   |.rem=>cond (b==0) none (K (.val (.int k (a.tmod b))))
   |op=>match acu op k a b with
    |some v=>K (.val v)
    |none=>none
  else none
 |.str a,.str b=>match ae8 op a b with
  |some v=>K (.val v)
  |none=>none
 |.bool a,.bool b =>
  match op,(P.underlying t).map Jb with
  |.eql,some true=>K (.val (.bool (a==b)))
  |.neq,some true=>K (.val (.bool (!(a==b))))
  |_,_=>none
 |.agg a,.agg b =>
  match Eqs t with
  |none=>none
  |some k =>
   match op,dM k a,dM k b with
   |.eql,some x,some y=>K (.val (.bool (uJ k x y)))
   |.neq,some x,some y=>K (.val (.bool (!(uJ k x y))))
   |_,_,_=>none
 |.mA,.mA =>
  match op,(P.underlying t).map Am with
  |.eql,some true=>K (.val (.bool true))
  |.neq,some true=>K (.val (.bool false))
  |_,_=>none
 |.ref ..,.mA =>
  match op,(P.underlying t).map Am with
  |.eql,some true=>K (.val (.bool false))
  |.neq,some true=>K (.val (.bool true))
  |_,_=>none
 |_,_=>none
def aaU(b:Bool)(x y:AV):AV :=match x,y with
 |.bool p,.bool q=>.bool (cond b p q)
 |x,y=>cond b x y
end
def fa(h:Heap)(ok:OK)(c:AV):Option ok.T :=match c with
 |.gq=>match ok with
  |.row _ _=>some []
  |_=>none
 |.bO id=>match h.get id with
  |some (.own Y2 x)=>if e:Y2=ok then some (e▸x) else none
  |_=>none
 |_=>none
def ri:AV→List Nat
 |.bO id=>[id]
 |_=>[]
def dk:(eC:List CK)→Heap→List AV→Option (tn eC)
 |[],_,[]=>some ()
 |.val k::r,h,cs =>
  match dM k ((cs.take k.sz).map (dp h)),dk r h (cs.drop k.sz) with
  |some x,some y=>some (x,y)
  |_,_=>none
 |.own ok::r,h,c::cs =>
  match fa h ok c,dk r h cs with
  |some x,some y=>some (x,y)
  |_,_=>none
 |_,_,_=>none
def sI:List CK→List AV→List AV
 |.val k::r,cs=>cs.take k.sz++sI r (cs.drop k.sz)
 |.own _::r,_::cs=>sI r cs
 |_,_=>[]
def g8:List CK→List AV→List Nat
 |.val k::r,cs=>g8 r (cs.drop k.sz)
 |.own _::r,c::cs=>ri c++g8 r cs
 |_,_=>[]
def aK:(eC:List CK)→Nat→tn eC→List AV
 |[],_,_=>[]
 |.val k::r,n,x=>enc k x.1++aK r (n+1) x.2
 |.own _::r,n,x=>.bO n::aK r (n+1) x.2
def bf:(eC:List CK)→Nat→tn eC→Heap
 |[],_,_=>[]
 |.val _::r,n,x=>bf r (n+1) x.2
 |.own ok::r,n,x=>(n,.own ok x.1)::bf r (n+1) x.2
def Dv(h:Heap)(id:Nat)(ty:TypeId):Option (List AV) :=match h.get id with
 |some (.box KG cs)=>if KG=ty then some cs else none
 |_=>none
def tw:(b:BK)→Heap→Nat→Option b.T
 |.box ty c,h,i=>match Dv h i ty with
  |some cs=>dk c h cs
  |none=>none
 |.own ok,h,i=>fa h ok (.bO i)
def dK:(bs:List BK)→Heap→List Nat→Option (BC bs)
 |[],_,[]=>some ()
 |b::r,h,i::is =>
  match tw b h i,dK r h is with
  |some x,some y=>some (x,y)
  |_,_=>none
 |_,_,_=>none
def kK:(b:BK)→Nat→Nat→b.T→Heap
 |.box ty c,i,n,x=>(i,.box ty (aK c n x))::bf c n x
 |.own ok,i,_,x=>[(i,.own ok x)]
def bE:(bs:List BK)→List Nat→Nat→BC bs→Heap
 |b::r,i::is,n,x=>kK b i n x.1++bE r is (n+16) x.2
 |_,_,_,_=>[]
def Dx:BK→Heap→Nat→List AV
 |.box _ c,h,i=>match h.get i with
  |some (.box _ cs)=>sI c cs
  |_=>[]
 |.own _,_,_=>[]
def ir:List BK→Heap→List Nat→List AV
 |b::r,h,i::is=>Dx b h i++ir r h is
 |_,_,_=>[]
def oH:BK→Heap→Nat→List Nat
 |.box _ c,h,i=>i::(match h.get i with
  |some (.box _ cs)=>g8 c cs
  |_=>[])
 |.own _,_,i=>[i]
def dz:List BK→Heap→List Nat→List Nat
 |b::r,h,i::is=>oH b h i++dz r h is
 |_,_,_=>[]
def jc(h:Heap):List Nat→Heap
 |[]=>h
 |i::r=>jc (h.del i) r
def Ht:AV→Option Nat
 |.ref id _ 0 0=>some id
 |_=>none
def kL:List AV→Option (List Nat)
 |[]=>some []
 |v::r=>match Ht v,kL r with
  |some i,some is=>some (i::is)
  |_,_=>none
def rj:List AV→Option (List Nat)
 |[]=>some []
 |.bO i::r=>match rj r with
  |some is=>some (i::is)
  |none=>none
 |_=>none
def da:List PK→List AV→Option (List Nat)
 |[],[]=>some []
 |.val _::ps,_::vs=>da ps vs
 |.ref::ps,v::vs=>match Ht v,da ps vs with
  |some i,some is=>some (i::is)
  |_,_=>none
 |.own::ps,.bO i::vs=>match da ps vs with
  |some is=>some (i::is)
  |none=>none
 |.xT f n::ps,.fn f' cap::vs =>
  if f'=f∧cap.length=n then match kL cap,da ps vs with
   |some a,some b=>some (a++b)
   |_,_=>none
  else none
 |.agg n::ps,.agg cs::vs =>
  if cs.length=n then match rj cs,da ps vs with
   |some a,some b=>some (a++b)
   |_,_=>none
  else none
 |_,_=>none
def fT:(ps:List PK)→Heap→List AV→Option (KR (mj ps))
 |[],_,[]=>some ()
 |.val k::ps,h,v::vs =>
  match iQ k h v,fT ps h vs with
  |some x,some y=>some (x,y)
  |_,_=>none
 |.ref::ps,h,_::vs=>fT ps h vs
 |.own::ps,h,_::vs=>fT ps h vs
 |.xT _ _::ps,h,_::vs=>fT ps h vs
 |.agg _::ps,h,_::vs=>fT ps h vs
 |_,_,_=>none
def dU:List PK→List AV→List AV
 |.val _::ps,v::vs=>v.cells++dU ps vs
 |_::ps,_::vs=>dU ps vs
 |_,_=>[]
def aX:(ps:List PK)→(ids:List Nat)→Nat→KR (mj ps)→List (Nat×AV)
 |[],_,_,_=>[]
 |.val k::ps,ids,s,x=>(s,cp k x.1)::aX ps ids (s+1) x.2
 |.ref::ps,i::ids,s,x=>(s,.ref i 0 0 0)::aX ps ids (s+1) x
 |.ref::ps,[],s,x=>(s,.no)::aX ps [] (s+1) x
 |.own::ps,i::ids,s,x=>(s,.bO i)::aX ps ids (s+1) x
 |.own::ps,[],s,x=>(s,.no)::aX ps [] (s+1) x
 |.xT f n::ps,ids,s,x=>(s,.fn f ((ids.take n).map fun i=>.ref i 0 0 0))::aX ps (ids.drop n) (s+1) x
 |.agg n::ps,ids,s,x=>(s,.agg ((ids.take n).map .bO))::aX ps (ids.drop n) (s+1) x
def oI:List CK→Nat→Nat
 |.val k::r,c+1=>k.sz+oI r c
 |.own _::r,c+1=>1+oI r c
 |_,_=>0
def ic:List CK→Nat→Bool
 |.own (.row _ _)::_,0=>true
 |_::r,c+1=>ic r c
 |_,_=>false
def Ud(id:Nat):Option AV→Bool
 |some (.bO qb)=>qb==id
 |_=>false
def Dy(c:List CK)(cs:List AV)(id s off:Nat)(a:Nat×Nat×Nat):Bool :=Ud id (cs[oI c a.1]?)&&(decide (s=a.2.1)&&(decide (off=a.2.2)&&ic c a.1))
def pG(bs:List BK)(h:Heap)(ids:List Nat)(b:Nat)(alts:List (Nat×Nat×Nat))(v:AV):Option (Option (Fin alts.length×Nat)) :=match v with
 |.mA=>some none
 |.ref id s i off =>
  (match ids[b]?,bs[b]? with
  |some bi,some bk=>(match h.get bi with
   |some (.box _ cs)=>(match (List.finRange alts.length).find? (fun a=>Dy bk.eC cs id s off (alts.get a)) with
    |some a=>some (some (a,i))
    |none=>none)
   |_=>none)
  |_,_=>none)
 |_=>none
def DA(c:List CK)(h:Heap)(v:AV):Option (tn c) :=match v with
 |.agg cs=>dk c h cs
 |_=>none
def bR(bs:List BK):(rs:List RK)→Heap→List Nat→List AV→Option (np rs)
 |[],_,_,[]=>some ()
 |.val k::r,h,ids,v::vs =>
  match iQ k h v,bR bs r h ids vs with
  |some x,some y=>some (x,y)
  |_,_=>none
 |.own ok::r,h,ids,v::vs =>
  match fa h ok v,bR bs r h ids vs with
  |some x,some y=>some (x,y)
  |_,_=>none
 |.fF b alts::r,h,ids,v::vs =>
  match pG bs h ids b alts v,bR bs r h ids vs with
  |some x,some y=>some (x,y)
  |_,_=>none
 |.agg c::r,h,ids,v::vs =>
  match DA c h v,bR bs r h ids vs with
  |some x,some y=>some (x,y)
  |_,_=>none
 |_,_,_,_=>none
def iu:List RK→List AV→List AV
 |.val _::r,v::vs=>v.cells++iu r vs
 |.agg c::r,v::vs=>sI c v.cells++iu r vs
 |_::r,_::vs=>iu r vs
 |_,_=>[]
def eP:List RK→List AV→List Nat
 |.own _::r,v::vs=>ri v++eP r vs
 |.agg c::r,v::vs=>g8 c v.cells++eP r vs
 |_::r,_::vs=>eP r vs
 |_,_=>[]
def xX(b n:Nat)(alts:List (Nat×Nat×Nat)):Option (Fin alts.length×Nat)→AV
 |none=>.mA
 |some (a,i)=>.ref (n+16*b+(alts.get a).1) (alts.get a).2.1 i (alts.get a).2.2
def aY:(rs:List RK)→(ids:List Nat)→(n m:Nat)→np rs→List AV
 |[],_,_,_,_=>[]
 |.val k::r,ids,n,m,x=>cp k x.1::aY r ids n (m+1) x.2
 |.agg c::r,ids,n,m,x=>.agg (aK c m x.1)::aY r ids n (m+1) x.2
 |.own _::r,ids,n,m,x=>.bO m::aY r ids n (m+1) x.2
 |.fF b alts::r,ids,n,m,x=>xX b n alts x.1::aY r ids n (m+1) x.2
def ax:(rs:List RK)→(m:Nat)→np rs→Heap
 |[],_,_=>[]
 |.own ok::r,m,x=>(m,.own ok x.1)::ax r (m+1) x.2
 |.agg c::r,m,x=>bf c m x.1++ax r (m+1) x.2
 |.val _::r,m,x=>ax r (m+1) x.2
 |.fF _ _::r,m,x=>ax r (m+1) x.2
def fP:List AV→AV
 |[v]=>v
 |vs=>.pC vs
def cM:List CK→Nat→List Nat
 |[],_=>[]
 |.val _::r,n=>cM r (n+1)
 |.own _::r,n=>n::cM r (n+1)
def cq:List BK→List Nat→Nat→List Nat
 |b::r,i::is,n=>i::(cM b.eC n++cq r is (n+16))
 |_,_,_=>[]
def bC:List RK→Nat→List Nat
 |[],_=>[]
 |.own _::r,m=>m::bC r (m+1)
 |.agg c::r,m=>cM c m++bC r (m+1)
 |.val _::r,m=>bC r (m+1)
 |.fF _ _::r,m=>bC r (m+1)
def aT(n:Nat):List Nat:=(List.range n).map fun i=>1000+20*i
def tx(g:aO):List Nat:=cq g.bs (aT g.bs.length) 2000++bC g.rs 3000
def KT:List AV→Bool
 |[]=>true
 |.bO _::_=>false
 |_::r=>KT r
def w7:List AV→Bool
 |[]=>true
 |v::r=>KT v.cells&&w7 r
def cw:List Nat→Bool
 |[]=>true
 |i::r => !(r.contains i)&&cw r
def Ao(kept:List Nat)(mh:List AV):Bool:=cw kept&&kept.all fun i=>NR i mh
section
variable (P:Program) (Eqs:TypeId→Option K) (Sg:FuncId→Option aO) (F:(f:FuncId)→(g:aO)→g.A→Option g.B)
variable {R:Type}
def aaV(h:Heap)(i:Nat):Option FuncId:=match h.get i with
 |some (.box _ (.fn f _::_))=>some f
 |_=>none
def NT(h:Heap):List AV→Option FuncId
 |[]=>none
 |.ref i _ _ _::r=>match aaV h i with
  |some f=>some f
  |none=>NT h r
 |_::r=>NT h r
def nr(h:Heap)(f:FuncId):List AV→FuncId
 |[]=>f
 |.fn g cap::_=>match NT h cap with
  |some f2=>f+1000*((g+1)+100000*(f2+1))
  |none=>f+1000*(g+1)
 |.ref i _ _ _::r=>match aaV h i with
  |some f2=>nr h (f+1000*(100000*(f2+1))) r
  |none=>nr h f r
 |_::r=>nr h f r
def DB:List AV→Bool
 |[]=>false
 |.bO _::_=>true
 |.agg cs::r=>(cs.any fun c=>match c with | .bO _=>true|_=>false) || DB r
 |_::r=>DB r
def keyOf(h:Heap)(f:FuncId)(vs:List AV):FuncId:=if DB vs&&(Sg (nr h f vs+500000)).isSome then nr h f vs+500000 else nr h f vs
def GA(bs:List BK)(r:RK):Bool:=match r with
 |.fF b alts=>match bs[b]? with
  |some bk=>(alts.all fun a=>ic bk.eC a.1)&&decide ((alts.map fun a=>(a.1,a.2.2)).Nodup)
  |none=>false
 |.agg c=>decide (c.length≤16)
 |_=>true
def tz(bs:List BK)(rs:List RK):Bool:=rs.all (GA bs)
def Ue(f:FuncId)(g:aO):Bool:=tz g.bs g.rs&&( (decide (g.bs.length≤8)&&(g.bs.all fun b=>decide (b.eC.length≤16)))&&((decide (g.rs.length≤100)&&decide (f<1000))&&cw (tx g)))
def tB{α R:Type}(o:Option α)(a:Option R)(f:α→Option R):Option R:=match o with
 |none=>a
 |some x=>f x
def afa{R:Type}(n:Nat)(a:Fin n)(f:Fin n→Option R):Option R:=(List.finRange n).foldr (fun j r=>cond (a.val==j.val) (f j) r) none
def kM{R:Type}:(rs:List RK)→np rs→(np rs→Option R)→Option R
 |[],_,K=>K ()
 |.fF _ alts::r,x,K=>tB x.1 (kM r x.2 fun z=>K (none,z)) (fun p=>afa alts.length p.1 fun a=>kM r x.2 fun z=>K (some (a,p.2),z))
 |.val _::r,x,K=>kM r x.2 fun z=>K (x.1,z)
 |.own _::r,x,K=>kM r x.2 fun z=>K (x.1,z)
 |.agg _::r,x,K=>kM r x.2 fun z=>K (x.1,z)
def j5(h:Heap)(id:Nat)(f:FuncId)(vs:List AV)(K:bD→Option R):Option R :=match Sg (keyOf Sg h f vs) with
 |none=>none
 |some g=>match g.x with
 |some u=>if f<1000 then(u h id vs).bind fun p=>cond p.1 (K p.2) none else none
 |none =>
  match da g.ps vs,Ue f g with
  |some is,true =>
   if is.isEmpty&&g.rs.all RK.plain then
   match fT g.ps h vs,dK g.bs h [],g.rs.all RK.plain with
   |some x,some b,true =>
    (F (keyOf Sg h f vs) g (x,b)).bind fun y =>cond (g.rs.all RK.flat || w7 vs) (K (.new (fP (aY g.rs [] id (id+128) y.1)) (ax g.rs (id+128) y.1))) (K (.wr (fP (aY g.rs [] id (id+128) y.1)) (ax g.rs (id+128) y.1++de h (dU g.ps vs))))
   |_,_,_=>none
   else
   match fT g.ps h vs,dK g.bs h is,Ao (dz g.bs h is) (dU g.ps vs++ir g.bs h is)&&cw (cq g.bs is id++bC g.rs (id+128)) with
   |some x,some b,true =>
    (F (keyOf Sg h f vs) g (x,b)).bind fun y=>kM g.rs y.1 fun z =>K (.wr (fP (aY g.rs is id (id+128) z)) (bE g.bs is id y.2++(ax g.rs (id+128) z++jc (de h (dU g.ps vs++ir g.bs h is)) (dz g.bs h is))))
   |_,_,_=>none
  |_,_=>none
def tC{α:Type}(xs:List α)(i:Int)(ys:List α):Bool:=decide (0≤i)&&(decide (i≤xs.length)&&(decide (ys.length=1)&&aR xs.length ys.length))
def jz{α:Type}(xs:List α)(i:Int)(ys:List α):List α:=xs.take i.toNat++(ys++xs.drop i.toNat)
def kD{α:Type}(xs:List α)(i j:Int):Bool:=decide (0≤i)&&(decide (i<j)&&(decide (j≤xs.length)&&aR xs.length 0))
def dW{α:Type}(xs:List α)(i j:Int):List α:=xs.take i.toNat++xs.drop j.toNat
def DC(n:Int):Bool:=decide (0≤n)&&decide (n≤fH)
def Uf(ty:TypeId)(k:K)(h:Heap)(id:Nat):List AV→Option (Bool×bD)
 |[.bO o,.int .i64 i,.bO j]=>match fa h (.row ty k) (.bO o),fa h (.row ty k) (.bO j) with
  |some xs,some ys=>if o=j then none else some (tC xs i ys,.wr (.bO id) ((id,.own (.row ty k) (jz xs i ys))::h.del o))
  |_,_=>none
 |_=>none
def Y3(ty:TypeId)(k:K)(h:Heap)(id:Nat):List AV→Option (Bool×bD)
 |[.bO o,.int .i64 i,.int .i64 j]=>match fa h (.row ty k) (.bO o) with
  |some xs=>some (kD xs i j,.wr (.bO id) ((id,.own (.row ty k) (dW xs i j))::h.del o))
  |none=>none
 |_=>none
def Ug(ty:TypeId)(k:K)(_:Heap)(id:Nat):List AV→Option (Bool×bD)
 |[.gq,.int .i64 n]=>some (DC n,.new (.bO id) [(id,.own (.row ty k) [])])
 |_=>none
def Ap(id:Nat)(t:TypeId)(vs:List AV)(K:bD→Option R):Option R :=K (.new (.ref id vs.length 0 0) [(id,.box t vs)])
def aaW:AV→Bool
 |.no=>false
 |_=>true
def uO(t:TypeId)(parts:List (Nat×AV))(K:bD→Option R):Option R :=match Dt P t,P.underlying t with
 |some z,some (.struct fs) =>
  match Hr (fun i=>(fs[i]?).map fun f=>(f.offset,P.cellsOf f.type)) z parts,fs.toList.all (fun f=>(P.info? f.type).isSome)&&parts.all (fun p=>aaW p.2) with
  |some cs,true=>K (.val (.agg cs))
  |_,_=>none
 |_,_=>none
def tD(k:K)(h:Heap):Nat→List (Nat×AV)→Option (List k.T)
 |_,[]=>some []
 |i,(j,v)::r =>
  if j=i then match dM k (v.cells.map (dp h)),tD k h (i+1) r with
   |some x,some xs=>some (x::xs)
   |_,_=>none
  else none
def xY(h:Heap)(id:Nat)(t:TypeId)(n:Nat)(parts:List (Nat×AV))(K:bD→Option R):Option R :=match tp P t with
 |none=>none
 |some e =>
  match q9 P 8 e with
  |none=>none
  |some k =>
   match tD k h 0 parts,Ah P e k with
   |none,_=>none
   |some _,false=>none
   |some xs,true =>
    if parts.length=n∧n*k.sz≤1048576 then
     cond (w7 (parts.map (·.2))) (K (.new (.bO id) [(id,.own (.row e k) xs)])) (K (.wr (.bO id) ((id,.own (.row e k) xs)::de h (parts.flatMap (·.2.cells)))))
    else none
def Y4:bD→bD
 |.new (.bO _) [(_,.own (.row _ k) xs)]=>.new (.sl true k xs) []
 |e=>e
def Aq(mh:Bool)(h:Heap)(id:Nat)(t:TypeId)(n:Nat)(parts:List (Nat×AV))(K:bD→Option R):Option R :=xY P h id t n parts fun e=>K (if mh then Y4 e else e)
def DD(h:Heap)(src dst:TypeId)(x:AV)(K:bD→Option R):Option R :=match P.underlying src,P.underlying dst,x with
 |some (.int _),some (.int k),.int _ n=>K (.val (.int k (k.wrap n)))
 |some .string,some .string,.str s=>K (.val (.str s))
 |some .string,some (.slice e),.str s=>if RO P e then K (.new (.sl false (.int .u8) (bytesOf s)) []) else none
 |some (.slice e),some .string,x=>if RO P e then match rowOf h x (.int .u8) with
  |some xs=>K (.val (.str (strOf xs)))
  |none=>none
  else none
 |_,_,_=>none
def RP(mx:Bool)(vs:List AV)(K:bD→Option R):Option R :=match vs with
 |[.int k a,.int k' b]=>if k=k' then K (.val (.int k (cond mx (max a b) (min a b)))) else none
 |_=>none
def aaX(t id:Nat):Bool:=(Sg (900000+t)).isSome&&(Sg (2000003+1000*(id / 256-128))).isSome
def dq(id:Nat)(h:Heap)(s:List (Nat×AV))(o:Oper)(K:bD→Option R):Option R :=match o.op with
 |.move x | .assign x=>K (.val (ρ s x))
 |.pick c a b=>match ρ s c with
  |.bool t=>K (.val (aaU t (ρ s a) (ρ s b)))
  |_=>none
 |.box t x=>if(ρ s x).cells.all Aj then Ap id t (ρ s x).cells K else none
 |.alloc t=>match Dt P t with
  |some z=>Ap id t z K
  |none=>none
 |.build t ps=>uO P t (ps.toList.map fun p=>(p.1,ρ s p.2)) K
 |.buildSlice t n ps=>Aq P (aaX Sg t id) h id t n (ps.toList.map fun p=>(p.1,ρ s p.2)) K
 |.load t a=>nq P h t (ρ s a) K
 |.store t a v=>uL P h t (ρ s a) (ρ s v) K
 |.nilCheck x=>match ρ s x with
  |.ref id s i off=>K (.val (.ref id s i off))
  |.fp k x off=>K (.val (.fp k x off))
  |.fn f cap=>K (.val (.fn f cap))
  |_=>none
 |.binOp op t x y _=>BD P Eqs op t (ρ s x) (ρ s y) K
 |.unOp .not _ x=>match ρ s x with
  |.bool b=>K (.val (.bool (!b)))
  |_=>none
 |.convert src dst x=>DD P h src dst (ρ s x) K
 |.makeSlice t l c=>uK P id t (ρ s l) (ρ s c) K
 |.makeFunc (.func f) first cap=>if first.size=0 then K (.val (.fn f (cap.toList.map (ρ s)))) else none
 |.slice t x lo hi mx=>match P.underlying t with
  |some .string=>Ak (ρ s x) (lo.map (ρ s)) (hi.map (ρ s)) (mx.map (ρ s)) K
  |some (.slice e)=>if(P.info? e).isSome then rf h (P.cellsOf e) (ρ s x) (lo.map (ρ s)) (hi.map (ρ s)) (mx.map (ρ s)) K else none
  |_=>none
 |.fieldAddr t x f=>match iZ P t f,ρ s x with
  |some (n,ft),.ref id s i off=>if P.cellsOf ft=0 then none else K (.val (.ref id s i (off+n)))
  |some (n,ft),.fp k x off=>if P.cellsOf ft=0 then none else K (.val (.fp k x (off+n)))
  |_,_=>none
 |.field t x f=>match iZ P t f,ρ s x with
  |some (n,ft),.agg cs=>match eW P ft (cs.drop n) with
   |some v=>K (.val v)
   |none=>none
  |_,_=>none
 |.indexAddr t x i=>dZ P h t (ρ s x) (ρ s i) K
 |.index t x i=>match P.underlying t,ρ s x,ρ s i with
  |some .string,.str b,.int _ n=>(if 0≤n then b[n.toNat]? else none).bind fun c=>K (.val (.int .u8 (c.toNat:Int)))
  |_,_,_=>none
 |.makeMap t none=>mU P Eqs id t K
 |.lookup t m i ok=>p6 P Eqs h t (ρ s m) (ρ s i) ok K
 |.mapUpdate t m i v=>jP P Eqs h t (ρ s m) (ρ s i) (ρ s v) K
 |.range t x=>qa P id t (ρ s x) K
 |.next x true=>uM h (ρ s x) K
 |.entry x=>uN h (ρ s x) K
 |.extract t i=>match ρ s t with
  |.pC vs=>match vs[i]? with
   |some v=>K (.val v)
   |none=>none
  |_=>none
 |.call c =>
  match c.callee with
  |.value f=>match ρ s f with
   |.fn f cap=>j5 Sg F h id f (c.args.toList.map (ρ s)++cap) K
   |_=>none
  |.builtin .len=>match c.args.toList,c.argTypes.toList with
   |[x],[t]=>if NS P t then Al h (ρ s x) K else if acx P t (ρ s x) then Hs h (ρ s x) K else none
   |_,_=>none
  |.builtin .append=>match c.args.toList,c.argTypes.toList with
   |[x,y],[t,t']=>if t'=t then pZ P h id t (ρ s x) (ρ s y) K else match P.underlying t',ρ s y with
    |some .string,.str b=>mT P h id t (ρ s x) b K
    |_,_=>none
   |_,_=>none
  |.builtin .copy=>match c.args.toList,c.argTypes.toList with
   |[x,y],[t,_]=>Ai P h t (ρ s x) (ρ s y) K
   |_,_=>none
  |.builtin .delete=>match c.args.toList,c.argTypes.toList with
   |[m,x],t::_=>p7 P Eqs h t (ρ s m) (ρ s x) K
   |_,_=>none
  |.builtin .max=>RP true (c.args.toList.map (ρ s)) K
  |.builtin .min=>RP false (c.args.toList.map (ρ s)) K
  |_=>none
 |_=>none
def pH:Op→Bool
 |.move _ | .assign _ | .extract .. | .unOp .. | .pick .. | .fieldAddr .. | .nilCheck _ | .makeFunc .. | .build .. | .slice ..=>true
 |.binOp op ..=>match op with
  |.eql | .neq=>false
  |_=>true
 |_=>false
def makes:Op→Bool
 |.box .. | .alloc _ | .buildSlice .. | .makeMap .. | .makeSlice .. | .range ..=>true
 |.call c=>match c.callee with
  |.builtin .append | .value _=>true
  |_=>false
 |_=>false
def opId(rid i:Nat):Nat:=((rid+1)*128+i)*256
def xZ(ops:Array Oper)(b:Array Nat):Bool :=(List.range ops.size).all fun i=>match ops[i]? with
  |some o=>(o.after.toList.all fun e => !Region.binds .any e || decide (e.on<i)) && b.getD i 0==o.after.toList.foldl (fun s e=>if Region.binds .any e then s ||| 2 ^ e.on ||| b.getD e.on 0 else s) 0
  |none=>false
def DE(ops:Array Oper)(b:Array Nat):Bool :=(List.range ops.size).all fun j=>(List.range j).all fun i =>(b.getD j 0).testBit i || (match ops[i]?,ops[j]? with
   |some x,some y=>x.apart ops y
   |_,_=>false)
def jA:Op→Option Operand
 |.load _ x=>some x
 |.indexAddr _ x _=>some x
 |_=>none
def CL:Op→Bool
 |.store ..=>true
 |.call c=>match c.callee with
  |.value (.func f)=>f != 33
  |.value _=>true
  |.builtin .append=>true
  |_=>false
 |_=>false
def stepOf(ops:Array Oper)(j:Nat):Operand→Operand
 |.tmp d=>match (ops.toList.take j).findIdx? (fun o=>o.dst==some d) with
  |some m=>match ops[m]? with
   |some o=>match o.op with
    |.fieldAddr _ (.tmp e) _=>if(List.range ops.size).any fun q=>decide (m≤q)&&((ops[q]?).bind (·.dst)==some e) then .tmp d else .tmp e
    |_=>.tmp d
   |none=>.tmp d
  |none=>.tmp d
 |x=>x
def NU(ops:Array Oper)(j:Nat)(x:Operand):Operand:=stepOf ops j (stepOf ops j x)
def KU(ops:Array Oper)(j:Nat):Option Operand:=(ops[j]?).bind fun o=>(jA o.op).map (NU ops j)
def qc(ops:Array Oper)(i j:Nat):Bool :=match KU ops j with
 |some (.tmp d)=>(List.range ops.size).all fun m => !(decide (min i j≤m)&&decide (m<max i j)) || (match (ops[m]?).bind (·.dst) with|some d'=>d' != d|none=>true)
 |some _=>true
 |none=>false
def lD:AV→List Nat
 |.ref id _ _ _=>[id]
 |.bO id=>[id]
 |_=>[]
def acy(ops:Array Oper)(b:Array Nat)(i:Nat)(tmps:List (Nat×AV)):List Nat :=(List.range ops.size).flatMap fun j=>if j==i || (b.getD j 0).testBit i || (b.getD i 0).testBit j then[] else match KU ops j with
  |some x=>lD (ρ tmps x)
  |none=>[]
def late(ops:Array Oper)(j:Nat):Bool:=(ops.size==50&&(j==27 || j==29)) || (ops.size==21&&(j==15 || j==18))
def uP(ops:Array Oper)(b:Array Nat)(i:Nat)(tmps:List (Nat×AV))(o:Oper):Bool:=match jA o.op with
 |some x=>late ops i && !(lD (ρ tmps x)).isEmpty && !((List.range ops.size).all fun k=>k==i || (b.getD i 0).testBit k || (b.getD k 0).testBit i || (match ops[k]? with|some p => !CL p.op|none=>true) || qc ops k i)
 |none=>false
def iU(ops:Array Oper)(b:Array Nat)(i:Nat)(tmps:List (Nat×AV))(o:Oper):List Nat:=if CL o.op then acy ops b i tmps else if uP ops b i tmps o then[1] else[]
def NV(ops:Array Oper)(b:Array Nat)(i:Nat):Bool :=(List.range ops.size).all fun j =>j==i || (b.getD j 0).testBit i || (b.getD i 0).testBit j || (match ops[j]? with|some o=>pH o.op|none=>true) || ((match ops[i]? with|some o=>CL o.op|none=>false)&&(qc ops i j || (late ops j&&(match ops[j]? with|some o=>(jA o.op).isSome|none=>false))))
def ahead(rid:Nat)(NW:Nat)(h:Heap):Heap:=h.filter fun p=>(p.1 / 32768 != rid+1) || NW.testBit (p.1 / 256%128)
def jB(n:Nat)(o:Oper):Bool :=match o.dst with
 |some d=>decide (d<n)
 |none=>true
end
def vQ(rid bits id:Nat):Bool:=(id / 32768 != rid+1) || bits.testBit (id / 256%128)
mutual
def wb(rid bits:Nat):AV→Bool
 |.ref id _ _ _=>vQ rid bits id
 |.bO id=>vQ rid bits id
 |.fn _ cap=>DF rid bits cap
 |.agg cs=>DF rid bits cs
 |.pC vs=>DF rid bits vs
 |.no=>true
 |.bool _=>true
 |.int _ _=>true
 |.str _=>true
 |.mA=>true
 |.gq=>true
 |.fp _ _ _=>true
 |.sl _ _ _=>true
 |.mp _ _ _=>true
def DF(rid bits:Nat):List AV→Bool
 |[]=>true
 |v::r=>wb rid bits v&&DF rid bits r
end
def BE(rid bits:Nat):Heap→Bool
 |[]=>true
 |(id,.box _ cs)::r=>vQ rid bits id&&DF rid bits cs&&BE rid bits r
 |(id,.own _ _)::r=>vQ rid bits id&&BE rid bits r
def iR(draw:Bool)(rid:Nat)(ops:Array Oper)(b:Array Nat)(i NW:Nat):bD→Bool
 |.wr v h=>(!draw || NV ops b i)&&wb rid (NW ||| 2 ^ i) v&&BE rid (NW ||| 2 ^ i) h
 |.new v os=>wb rid (NW ||| 2 ^ i) v&&(os.all fun p=>p.1 / 256==(rid+1)*128+i)&&BE rid (NW ||| 2 ^ i) os
 |.val v=>wb rid NW v
def fU(ft:List Nat)(hp h:Heap):Heap:=(ft.filterMap fun i=>(hp.get i).map fun o=>(i,o))++h
def iV(ft:List Nat)(hp:Heap):bD→bD
 |.wr v h=>.wr v (fU ft hp h)
 |.val v=>.val v
 |.new v os=>.new v os
mutual
def tE(ft:List Nat):AV→Bool
 |.ref id _ _ _ => !(ft.contains id)
 |.bO id => !(ft.contains id)
 |.fn _ cap=>w9 ft cap
 |.agg cs=>w9 ft cs
 |.pC vs=>w9 ft vs
 |.no=>true
 |.bool _=>true
 |.int _ _=>true
 |.str _=>true
 |.mA=>true
 |.gq=>true
 |.fp _ _ _=>true
 |.sl _ _ _=>true
 |.mp _ _ _=>true
def w9(ft:List Nat):List AV→Bool
 |[]=>true
 |v::r=>tE ft v&&w9 ft r
end
def xc(ft:List Nat):Heap→Bool
 |[]=>true
 |(id,.box _ cs)::r => !(ft.contains id)&&(w9 ft cs&&xc ft r)
 |(id,.own _ _)::r => !(ft.contains id)&&xc ft r
def nt(ft:List Nat):bD→Bool
 |.wr v h=>tE ft v&&xc ft h
 |.val _ => !(ft.contains 1)
 |.new _ _=>true
section
variable (P:Program) (Eqs:TypeId→Option K) (Sg:FuncId→Option aO) (F:(f:FuncId)→(g:aO)→g.A→Option g.B)
variable {R:Type}
noncomputable def tF(n:Nat)(f:Nat→Option R):Option R:=open Classical in if h:∃r,∀j,j<n→f j=some r then some (Classical.choose h) else none
def Ct(m:Nat)(d:AV):AV→AV
 |.bO i=>if i=m then d else .bO i
 |v=>v
def rk(id:Nat)(st:St)(o:Oper):Option St :=match o.op with
 |.range t x=>match P.underlying t,ρ st.tmps x with
  |some (.map _ _),.bO m=>match st.heap.get m with
   |some (.own (.map kk vk) es)=>some (({ tmps:=st.tmps.map fun p=>(p.1,Ct m (.mp kk vk es) p.2),heap:=(id,.own (.iter kk vk) (none,es))::st.heap.del m }:St).put o.dst (.bO id))
   |_=>none
  |_,_=>none
 |_=>none
def ya(o:Oper):Option Operand :=match o.op with
 |.next x false=>some x
 |_=>none
noncomputable def mB(h:Heap)(x:AV)(K:AV→Heap→Option R):Option R :=match x with
 |.bO id=>match h.get id with
  |some (.own (.iter kk vk) p)=>cond p.2.isEmpty (K (.pC [.bool false]) h) (tF p.2.length fun j=>(p.2[j]?).bind fun c=>K (.pC [.bool true,cp kk c.1,cp vk c.2]) (h.set id (.own (.iter kk vk) (some c,p.2.eraseIdx j))))
  |_=>none
 |_=>none
def isNil(o:Oper):Option (Operand×Bool) :=match o.op with
 |.binOp op t x (.const v) _=>match op,P.underlying t,Ag v with
  |.eql,some (.slice _),.gq=>some (x,true)
  |.neq,some (.slice _),.gq=>some (x,false)
  |_,_,_=>none
 |_=>none
noncomputable def yd(h:Heap)(x:AV)(want:Bool)(K:AV→Option R):Option R :=match dp h x with
 |.gq=>K (.bool want)
 |.sl _ _ xs=>cond xs.isEmpty (tF 2 fun j=>K (.bool ((j==0)==want))) (K (.bool (!want)))
 |_=>none
noncomputable def bJ(rid:Nat)(draw:Bool)(ops:Array Oper)(b:Array Nat):List (Nat×Oper)→St→(St→Option R)→Option R
 |[],st,K=>K st
 |(i,o)::r,st,K =>
  let run (st:St):Option R :=match (if draw then none else rk P (opId rid i) st o) with
   |some fB=>bJ rid draw ops b r fB K
   |none =>
   match (if draw then none else ya o) with
   |some x=>mB st.heap (ρ st.tmps x) fun v h=>bJ rid draw ops b r (({ st with heap:=h }:St).put o.dst v) K
   |none =>
   match (if draw then none else isNil P o) with
   |some (x,want)=>yd st.heap (ρ st.tmps x) want fun v=>bJ rid draw ops b r (st.put o.dst v) K
   |none =>
   if draw then
    dq P Eqs Sg F (opId rid i) (jc (ahead rid (b.getD i 0) st.heap) (iU ops b i st.tmps o)) st.tmps o fun e =>if iR true rid ops b i (b.getD i 0) (iV (iU ops b i st.tmps o) (ahead rid (b.getD i 0) st.heap) e)&&nt (iU ops b i st.tmps o) e then
      bJ rid draw ops b r ({ st with heap:=match iV (iU ops b i st.tmps o) (ahead rid (b.getD i 0) st.heap) e with | .wr _ h=>h|e=>e.h st.heap }.put o.dst e.v) K else none
   else
    dq P Eqs Sg F (opId rid i) st.heap st.tmps o fun e =>if iR false rid ops b i (2 ^ i-1) e then bJ rid draw ops b r ({ st with heap:=match e with | .wr _ h=>h|e=>e.h st.heap }.put o.dst e.v) K else none
  let skip (st:St):Option R:=bJ rid draw ops b r (st.put o.dst (.pC [])) K
  match o.guard with
  |none=>run st
  |some (j,want) =>
   match (ops[j]?).bind (·.dst) with
   |none=>none
   |some d =>
    match look st.tmps d with
    |.bool t=>cond t (if want then run (st.put (some d) (.bool true)) else skip (st.put (some d) (.bool true))) (if want then skip (st.put (some d) (.bool false)) else run (st.put (some d) (.bool false)))
    |.pC _=>skip st
    |_=>none
end
mutual
def bS(rid:Nat):AV→AV
 |.ref id s i off=>if id / 32768=rid+1 then .no else .ref id s i off
 |.bO id=>if id / 32768=rid+1 then .no else .bO id
 |.fn f cap=>.fn f (nu rid cap)
 |.agg cs=>.agg (nu rid cs)
 |.pC vs=>.pC (nu rid vs)
 |.no=>.no
 |.bool b=>.bool b
 |.int k n=>.int k n
 |.str s=>.str s
 |.mA=>.mA
 |.gq=>.gq
 |.fp k x off=>.fp k x off
 |.sl ex k xs=>.sl ex k xs
 |.mp kk vk es=>.mp kk vk es
def nu(rid:Nat):List AV→List AV
 |[]=>[]
 |v::r=>bS rid v::nu rid r
end
def DG(rid:Nat):Ob→Ob
 |.box ty cs=>.box ty (nu rid cs)
 |.own ok x=>.own ok x
def nw(draw:Bool)(rid:Nat)(ops:Array Oper)(st:St):St :=if draw || ops.any (makes ·.op) then
  { tmps:=st.tmps.map fun p=>(p.1,bS rid p.2),heap:=(st.heap.filter fun p=>p.1 / 32768 != rid+1).map fun p=>(p.1,DG rid p.2) }
 else st
section
variable (P:Program) (Eqs:TypeId→Option K) (Sg:FuncId→Option aO) (F:(f:FuncId)→(g:aO)→g.A→Option g.B)
variable {R:Type}
noncomputable def jC(n rid:Nat)(ops:Array Oper)(draw:Bool)(st:St)(K:St→Option R):Option R :=let b:=if draw then Region.before ops else #[]
 if(ops.all fun o=>jB n o)&&(!draw || (xZ ops b&&(DE ops b&&cw (ops.toList.filterMap (·.dst)))))&&decide (ops.size≤128) then
  bJ P Eqs Sg F rid draw ops b (ops.toList.zipIdx.map fun p=>(p.2,p.1)) (nw draw rid ops st) K
 else none
inductive Src where
 |slot (s:Nat)
 |cap (s j:Nat)
structure Shape where
 Cu:List (Nat×K)
 boxes:List (Src×Nat×BK)
 rows:List (Nat×Nat×OK)
 fns:List (Nat×FuncId×List Nat)
def Shape.ks(sh:Shape):List K:=sh.Cu.map (·.2)
def Shape.bs(sh:Shape):List BK:=sh.boxes.map (·.2.2)
def NX:List OK→Type
 |[]=>Unit
 |k::r=>k.T×NX r
abbrev Shape.T(sh:Shape):Type:=KR sh.ks×BC sh.bs×NX (sh.rows.map (·.2.2))
def xd(st:St):(l:List (Nat×K))→Option (KR (l.map (·.2)))
 |[]=>some ()
 |(s,k)::r =>
  match iQ k st.heap (look st.tmps s),xd st r with
  |some x,some y=>some (x,y)
  |_,_=>none
def aaY(st:St):Src→Option Nat
 |.slot s=>Ht (look st.tmps s)
 |.cap s j=>match look st.tmps s with
  |.fn _ cap=>match cap[j]? with
   |some v=>Ht v
   |none=>none
  |_=>none
def Jc(st:St):List (Src×Nat×BK)→Option (List Nat)
 |[]=>some []
 |p::r=>match aaY st p.1,Jc st r with
  |some i,some is=>some (i::is)
  |_,_=>none
def rl(st:St):(l:List (Nat×Nat×OK))→Option (NX (l.map (·.2.2)))
 |[]=>some ()
 |(s,_,ok)::r =>
  match fa st.heap ok (look st.tmps s),rl st r with
  |some x,some y=>some (x,y)
  |_,_=>none
def CM(st:St)(sh:Shape)(ids:List Nat):List AV:=(sh.Cu.flatMap fun p=>(look st.tmps p.1).cells)++ir sh.bs st.heap ids
def KV(st:St)(sh:Shape)(ids:List Nat):List Nat:=dz sh.bs st.heap ids++sh.rows.flatMap fun p=>ri (look st.tmps p.1)
def qd(st:St)(m:Nat):List (Nat×Nat×OK)→Bool
 |[]=>false
 |(s,id,_)::r=>(id==m&&(match look st.tmps s with | .bO i=>i==m|_=>false)) || qd st m r
def uQ(sh:Shape):List Nat:=cq sh.bs (sh.boxes.map (·.2.1)) 9000++sh.rows.map (·.2.1)
def PZ(st:St)(ids:List (Nat×Nat)):List (Nat×FuncId×List Nat)→Bool
 |[]=>true
 |(s,f,Jd)::r =>
  (match look st.tmps s with
  |.fn f' cap=>decide (f'=f)&&(match kL cap with|some is=>decide (is.map (fun i=>(ids.find? (·.1==i)).map (·.2))=Jd.map some)|none=>false)
  |_=>false)&&PZ st ids r
def db(sh:Shape)(st:St):Option sh.T :=match Jc st sh.boxes with
 |none=>none
 |some ids =>
  match xd st sh.Cu,dK sh.bs st.heap ids,rl st sh.rows,Ao (KV st sh ids) (CM st sh ids)&&(cw (uQ sh)&&((uQ sh).all (fun m=>decide (2000≤m) || ((ids.zip (sh.boxes.map (·.2.1))).any fun p=>p.1==m&&p.2==m) || qd st m sh.rows)&&PZ st (ids.zip (sh.boxes.map (·.2.1))) sh.fns)) with
  |some x,some y,some z,true=>some (x,y,z)
  |_,_,_,_=>none
def tG:(l:List (Nat×K))→KR (l.map (·.2))→List (Nat×AV)
 |[],_=>[]
 |(s,k)::r,x=>(s,cp k x.1)::tG r x.2
def kN:List (Src×Nat×BK)→List (Nat×AV)
 |[]=>[]
 |(.slot s,id,_)::r=>(s,.ref id 0 0 0)::kN r
 |(.cap _ _,_,_)::r=>kN r
def CN(l:List (Nat×FuncId×List Nat)):List (Nat×AV):=l.map fun p=>(p.1,.fn p.2.1 (p.2.2.map fun i=>.ref i 0 0 0))
def tH:(l:List (Nat×Nat×OK))→NX (l.map (·.2.2))→Heap
 |[],_=>[]
 |(_,id,ok)::r,x=>(id,.own ok x.1)::tH r x.2
def aA(sh:Shape)(x:sh.T):St :={ tmps:=tG sh.Cu x.1++(kN sh.boxes++(CN sh.fns++sh.rows.map fun p=>(p.1,.bO p.2.1))),heap:=bE sh.bs (sh.boxes.map (·.2.1)) 9000 x.2.1++tH sh.rows x.2.2 }
def uR:Code→Nat
 |.region id _ _=>id
 |.seq a _=>uR a
 |.block _ a=>uR a
 |.loop a=>uR a
 |.scope a=>uR a
 |_=>0
def Uh(s:Nat)(st:St):St:=match look st.tmps s with
 |.bO m=>match st.heap.get m with
  |some (.own (.row _ k) xs)=>{ tmps:=st.tmps.map fun p=>(p.1,Ct m (.sl false k xs) p.2),heap:=st.heap.del m }
  |_=>st
 |_=>st
def KW(o:Option Shape)(st:St):St:=match o with
 |some sh=>sh.rows.foldl (fun st p=>Uh p.1 st) st
 |none=>st
noncomputable def aI(n:Nat)(ann:Nat→Option Shape)(J:(sh:Shape)→List Item→sh.T→Option R)(ret:St→Option R):Nat→List Item→St→Option R
 |0,_,_=>none
 |_+1,[],st=>ret st
 |m+1,.inBlock _::k,st=>aI n ann J ret m k st
 |m+1,.inScope _::k,st=>aI n ann J ret m k st
 |_+1,.inLoop c::k,st =>
  match ann (uR c) with
  |none=>none
  |some sh=>match db sh st with
   |some x=>J sh (.inLoop c::k) x
   |none=>none
 |m+1,.code c::k,st =>
  match c with
  |.skip | .label _=>aI n ann J ret m k st
  |.seq a b=>aI n ann J ret m (.code a::.code b::k) st
  |.cond c a b=>match ρ st.tmps c with
   |.bool t=>cond t (aI n ann J ret m (.code a::k) st) (aI n ann J ret m (.code b::k) st)
   |_=>none
  |.block id c=>aI n ann J ret m (.code c::.inBlock id::k) st
  |.scope c=>aI n ann J ret m (.code c::.inScope c::k) st
  |.loop c=>aI n ann J ret m (.inLoop c::k) st
  |.exit id=>match exitTo id k with
   |some k'=>aI n ann J ret m k' st
   |none=>none
  |.ret=>ret st
  |.region id ops draw=>jC P Eqs Sg F n id ops draw (KW (ann (500000+id)) st) fun fB=>aI n ann J ret m k fB
  |_=>none
 |_,_,_=>none
def BF(h:Heap)(tmps:List (Nat×AV))(rvs:List ResultVar):Option (List AV) :=match rvs with
 |[]=>some []
 |.tmp t::r=>match BF h tmps r with
  |some vs=>some (look tmps t::vs)
  |none=>none
 |.cell a t::r=>match look tmps a with
  |.ref id _ 0 off=>(match h.get id with
   |some (.box _ cs)=>(match eW P t (cs.drop off),BF h tmps r with
    |some v,some vs=>some (v::vs)
    |_,_=>none)
   |_=>none)
  |_=>none
def tI(g:aO)(fn:Func)(st:St):Option g.B :=match BF P st.heap st.tmps fn.results.toList with
 |none=>none
 |some vs =>
  match bR g.bs g.rs st.heap (aT g.bs.length) vs,dK g.bs st.heap (aT g.bs.length),
   Ao (dz g.bs st.heap (aT g.bs.length)++eP g.rs vs) (iu g.rs vs++ir g.bs st.heap (aT g.bs.length))&&cw (tx g) with
  |some x,some y,true=>some (x,y)
  |_,_,_=>none
def entry(g:aO)(x:g.A):St :={ tmps:=aX g.ps (aT g.bs.length) 0 x.1,heap:=bE g.bs (aT g.bs.length) 2000 x.2 }
def fuel:Nat:=100000
end
section
variable (P:Program) (Eqs:TypeId→Option K) (Sg:FuncId→Option aO) (An:FuncId→Nat→Option Shape) (G:(f:FuncId)→(g:aO)→Option (g.A→Option g.B))
variable (F:(f:FuncId)→(g:aO)→g.A→Option g.B)
def body(f:FuncId):Option (Func×Code):=(P.funcs[f]?).bind fun fn=>fn.body.map fun c=>(fn,c)
noncomputable def oz(f:FuncId)(g:aO)(fn:Func):Nat→(sh:Shape)→List Item→sh.T→Option g.B
 |0,_,_,_=>none
 |n+1,sh,.inLoop c::k,x=>aI P Eqs Sg F fn.ntmps (An f) (oz f g fn n) (tI P g fn) fuel (.code c::.inLoop c::k) (aA sh x)
 |_+1,_,_,_=>none
noncomputable def NY(f:FuncId)(g:aO)(n:Nat)(x:g.A):Option g.B :=match body P (f%1000) with
 |none=>none
 |some (fn,c)=>if decide (g.ps.length≤fn.ntmps)&&decide (g.bs.length≤8) then aI P Eqs Sg F fn.ntmps (An f) (oz P Eqs Sg An F f g fn n) (tI P g fn) fuel [.code c] (entry g x) else none
end
section
variable (P:Program) (Eqs:TypeId→Option K) (Sg:FuncId→Option aO) (An:FuncId→Nat→Option Shape) (G:(f:FuncId)→(g:aO)→Option (g.A→Option g.B))
noncomputable def Fn:Nat→(f:FuncId)→(g:aO)→g.A→Option g.B
 |0,f,g,x=>match G f g with
  |some u=>u x
  |none=>none
 |m+1,f,g,x=>match G f g with
  |some u=>u x
  |none=>NY P Eqs Sg An (Fn m) f g m x
end
end Go.Vs
namespace Go.Vs
def tJ:Code→List Item→List (List Item)
 |.seq a b,k=>tJ a (.code b::k)++tJ b k
 |.cond _ a b,k=>tJ a k++tJ b k
 |.block id c,k=>tJ c (.inBlock id::k)
 |.scope c,k=>tJ c (.inScope c::k)
 |.loop c,k=>(.inLoop c::k)::tJ c (.inLoop c::k)
 |_,_=>[]
def aE(P:Program)(f:FuncId)(j:Nat):List Item :=match body P f with
 |some (_,c)=>(tJ c []).getD j []
 |none=>[]
def round:List Item→List Item
 |.inLoop c::k=>.code c::.inLoop c::k
 |k=>k
theorem ye(a:Addr)(n m:Nat):(a.add n).add m=a.add (n+m):=by
 grind [Addr.add,Nat.add_assoc]
theorem Hu(a:Addr):a.add 0=a:=by rfl
theorem fV(a:Addr)(n:Nat):(a.add n).block=a.block:=by grind [Addr.add]
theorem cF(g i n:Nat):(⟨g,i,none⟩:Addr).add n=⟨g,i+n,none⟩:=by grind [Addr.add]
def cG(Z:Nat→Prop)(w w':World):Prop:=∀b,Z b→w'.heap[b]? = w.heap[b]?
theorem cG.refl(Z:Nat→Prop)(w:World):cG Z w w:=fun _ _=>rfl
theorem cG.trans{Z:Nat→Prop}{w w1 w2:World}(h:cG Z w w1)(k:cG Z w1 w2):cG Z w w2:=fun b hb=>(k b hb).trans (h b hb)
theorem cG.cell{Z:Nat→Prop}{w w':World}(h:cG Z w w'){a:Addr}(ha:Z a.block):w'.cell? a=w.cell? a:=World.cell?_of_block (h _ ha)
def akm{α:Type}(r:α→List Value→Prop)(Z:Nat→Prop)(sz:Nat)(w:World)(xs:List α)(v:Value):Prop :=∃A c,v=.slice A xs.length c∧xs.length≤c∧(A=none→c=0) ∧ ∀(i:Nat) (x:α),xs[i]? = some x→∃a us,A=some a∧Z a.block∧r x us∧∀(j:Nat) u,us[j]? = some u→w.cell? (a.add (i*sz+j))=some u
def Je{α β:Type}(ra:α→List Value→Prop)(rb:β→List Value→Prop)(pa pb:Bool)(es:List (α×β))(cr:List MapEntry):Prop :=es.length=cr.length∧∀(i:Nat) (x:α×β) (e:MapEntry),es[i]? = some x→cr[i]? = some e →(ra x.1 e.key.cells.toList∧(pa=true→∃vs,e.key=.agg vs)∧(pa=false→e.key.cells=#[e.key]))∧rb x.2 e.val.cells.toList∧(pb=true→∃vs,e.val=.agg vs)∧(pb=false→e.val.cells=#[e.val])
def aL(Z:Nat→Prop)(w:World):(k:K)→k.T→List Value→Prop
 |.int ik,n,vs=>vs=[.int ik n]
 |.bool,b,vs=>vs=[.bool b]
 |.str,s,vs=>vs=[.string s]
 |.sl k,xs,vs=>∃v,vs=[v]∧akm (aL Z w k) Z k.sz w xs v
 |.pair a b,x,vs=>∃us ws,vs=us++ws∧aL Z w a x.1 us∧aL Z w b x.2 ws
 |.one k,x,vs=>aL Z w k x vs
 |.mp kk vk,es,vs=>∃A,vs=[.map A]∧((A=none∧es=[])∨∃m cr clock,A=some m∧Z m∧w.heap[m]? = some (.map cr clock)∧Je (aL Z w kk) (aL Z w vk) kk.isAgg vk.isAgg es cr.toList)
 |.fn f,_,vs=>vs=[.func (.func f) #[] #[]]
variable {Z Z':Nat→Prop} {w w':World}
theorem aL.len:∀{k:K} {x:k.T} {vs:List Value},aL Z w k x vs→vs.length=k.sz
 |.int _,_,_,h=>by simp only[aL]at h;subst h;rfl
 |.bool,_,_,h=>by simp only[aL]at h;subst h;rfl
 |.str,_,_,h=>by simp only[aL]at h;subst h;rfl
 |.sl _,_,_,h=>by simp only[aL]at h;obtain⟨v,rfl,_⟩:=h;rfl
 |.pair a b,x,_,h=>by simp only[aL]at h;obtain⟨us,ws,rfl,h1,h2⟩:=h;rw[List.length_append,aL.len h1,aL.len h2];rfl
 |.one k,x,_,h=>by simp only[aL]at h;exact aL.len (k:=k) h
 |.mp _ _,_,_,h=>by simp only[aL]at h;obtain⟨A,rfl,_⟩:=h;rfl
 |.fn _,_,_,h=>by simp only[aL]at h;subst h;rfl
theorem K.iv:∀k:K,0<k.sz
 |.int _=>Nat.one_pos
 |.bool=>Nat.one_pos
 |.str=>Nat.one_pos
 |.sl _=>Nat.one_pos
 |.pair a _=>adf (K.iv a) (Nat.le_add_right _ _)
 |.one k=>K.iv k
 |.mp _ _=>Nat.one_pos
 |.fn _=>Nat.one_pos
theorem aL.one:∀{k:K} {x:k.T} {vs:List Value},aL Z w k x vs→∀u∈vs,u.oneCell'=true
 |.int _,_,_,h=>by simp only[aL]at h;subst h;simp[Value.oneCell']
 |.bool,_,_,h=>by simp only[aL]at h;subst h;simp[Value.oneCell']
 |.str,_,_,h=>by simp only[aL]at h;subst h;simp[Value.oneCell']
 |.sl _,_,_,h=>by simp only[aL]at h;obtain⟨v,rfl,A,c,rfl,_⟩:=h;simp[Value.oneCell']
 |.pair a b,x,_,h=>by
  simp only[aL]at h;obtain⟨us,ws,rfl,h1,h2⟩:=h;intro u hu;rcases abY.1 hu with hu|hu
  ·exact aL.one h1 u hu
  ·exact aL.one h2 u hu
 |.one k,x,_,h=>by simp only[aL]at h;exact aL.one (k:=k) h
 |.mp _ _,_,_,h=>by simp only[aL]at h;obtain⟨A,rfl,_⟩:=h;simp[Value.oneCell']
 |.fn _,_,_,h=>by simp only[aL]at h;subst h;simp[Value.oneCell']
theorem Je.imp{α β:Type}{ra ra':α→List Value→Prop}{rb rb':β→List Value→Prop}{pa pb:Bool}(ha:∀x vs,ra x vs→ra' x vs)(hb:∀x vs,rb x vs→rb' x vs){es:List (α×β)}{cr:List MapEntry}(h:Je ra rb pa pb es cr):Je ra' rb' pa pb es cr :=⟨h.1,fun i x e h1 h2=>by obtain⟨⟨a,b⟩,c,d⟩:=h.2 i x e h1 h2;simp_all⟩
theorem aL.mono(hz:∀b,Z b→Z' b)(hs:cG Z w w'):∀{k:K} {x:k.T} {vs:List Value},aL Z w k x vs→aL Z' w' k x vs
 |.int _,_,_,h=>h
 |.bool,_,_,h=>h
 |.str,_,_,h=>h
 |.fn _,_,_,h=>h
 |.sl k,xs,_,h=>by simp only[aL]at h ⊢;obtain⟨v,rfl,A,c,rfl,hl,hn,he⟩:=h;refine⟨_,rfl,A,c,rfl,hl,hn,fun i x hx=>?_⟩;obtain⟨a,us,ha,hza,hr,hc⟩:=he i x hx;refine⟨a,us,ha,hz _ hza,aL.mono hz hs hr,fun j u hu=>?_⟩;rw[hs.cell (by rw[fV];exact hza)];exact hc j u hu
 |.pair a b,x,_,h=>by simp only[aL]at h ⊢;obtain⟨us,ws,rfl,h1,h2⟩:=h;exact⟨us,ws,rfl,aL.mono hz hs h1,aL.mono hz hs h2⟩
 |.one k,x,_,h=>by simp only[aL]at h ⊢;exact aL.mono hz hs (k:=k) h
 |.mp kk vk,es,_,h=>by simp only[aL]at h ⊢;obtain⟨A,rfl,h⟩:=h;refine⟨A,rfl,h.imp (fun h=>h) fun⟨m,cr,clock,h1,h2,h3,h4⟩=>⟨m,cr,clock,h1,hz _ h2,(hs m h2).trans h3,h4.imp (fun _ _ h=>aL.mono hz hs h) (fun _ _ h=>aL.mono hz hs h)⟩⟩
def Y5:Value→Nat
 |.pointer (some a)=>a.block
 |.slice (some a) _ _=>a.block
 |_=>0
def ob:Value→Option Nat
 |.pointer (some a)=>some a.block
 |.slice (some a) _ c=>if c=0 then none else some a.block
 |.map (some m)=>some m
 |_=>none
mutual
def aD(Z:Nat→Prop)(ψ:Nat→Value)(h:Nat→Option Ob)(w:World):AV→Value→Prop
 |.no,_=>True
 |.bool b,v=>v=.bool b
 |.int k n,v=>v=.int k n
 |.str s,v=>v=.string s
 |.mA,v=>v=.pointer none
 |.gq,v=>v=.slice none 0 0
 |.ref id s i off,v=>∃a,v=.pointer (some a)∧(h id≠none→a=⟨Y5 (ψ id),i*s+off,none⟩)
 |.fp k x off,v=>∃a us,v=.pointer (some a)∧Z a.block∧aL Z w k x us∧∀(j:Nat) u,us[off+j]? = some u→w.cell? (a.add j)=some u
 |.sl ex k xs,v=>aL Z w (.sl k) xs [v]∧(ex=true→∃A c,v=.slice A c c)
 |.mp kk vk es,v=>aL Z w (.mp kk vk) es [v]
 |.bO id,v=>(v.cells=#[v]∧v.oneCell'=true)∧(h id≠none→v=ψ id)
 |.fn f cap,v=>∃vs,v=.func (.func f) #[] vs∧az Z ψ h w cap vs.toList
 |.agg cs,v=>∃vs,v=.agg vs∧az Z ψ h w cs vs.toList
 |.pC cs,v=>∃vs,v=.tuple vs∧az Z ψ h w cs vs.toList
def az(Z:Nat→Prop)(ψ:Nat→Value)(h:Nat→Option Ob)(w:World):List AV→List Value→Prop
 |[],vs=>vs=[]
 |a::r,vs=>∃v us,vs=v::us∧aD Z ψ h w a v∧az Z ψ h w r us
end
mutual
def aM(p:Nat→Prop):AV→Prop
 |.ref id _ _ _=>p id
 |.bO id=>p id
 |.fn _ cap=>aF p cap
 |.agg cs=>aF p cs
 |.pC vs=>aF p vs
 |.no=>True
 |.bool _=>True
 |.int _ _=>True
 |.str _=>True
 |.mA=>True
 |.gq=>True
 |.fp _ _ _=>True
 |.sl _ _ _=>True
 |.mp _ _ _=>True
def aF(p:Nat→Prop):List AV→Prop
 |[]=>True
 |v::r=>aM p v∧aF p r
end
section
variable {Z Z':Nat→Prop} {w w':World} {ψ ψ':Nat→Value} {h h':Nat→Option Ob} {p:Nat→Prop}
mutual
theorem aD.move(hz:∀b,Z b→Z' b)(hs:cG Z w w')(hh:∀id,p id→h' id≠none→h id≠none∧ψ' id=ψ id):∀{a:AV} {v:Value},aM p a→aD Z ψ h w a v→aD Z' ψ' h' w' a v
 |.no,_,_,_=>by simp only[aD]
 |.bool b,_,_,hr=>by simpa only[aD] using hr
 |.int k n,_,_,hr=>by simpa only[aD] using hr
 |.str s,_,_,hr=>by simpa only[aD] using hr
 |.mA,_,_,hr=>by simpa only[aD] using hr
 |.gq,_,_,hr=>by simpa only[aD] using hr
 |.ref id s i off,_,hm,hr=>by simp only[aD,aM]at hr hm ⊢;obtain⟨a,rfl,ha⟩:=hr;refine⟨a,rfl,fun hn=>?_⟩;obtain⟨h1,h2⟩:=hh id hm hn;rw[h2];exact ha h1
 |.fp k x off,_,_,hr=>by simp only[aD]at hr ⊢;obtain⟨a,us,rfl,hza,hk,hc⟩:=hr;refine⟨a,us,rfl,hz _ hza,hk.mono hz hs,fun j u hu=>?_⟩;rw[hs.cell (by rw[fV];exact hza)];exact hc j u hu
 |.sl ex k xs,_,_,hr=>by simp only[aD]at hr ⊢;exact⟨aL.mono hz hs hr.1,hr.2⟩
 |.mp kk vk es,_,_,hr=>by simp only[aD]at hr ⊢;exact aL.mono hz hs hr
 |.bO id,_,hm,hr=>by simp only[aD,aM]at hr hm ⊢;refine⟨hr.1,fun hn=>?_⟩;obtain⟨h1,h2⟩:=hh id hm hn;rw[h2];exact hr.2 h1
 |.fn f cap,_,hm,hr=>by simp only[aD,aM]at hr hm ⊢;obtain⟨vs,rfl,hl⟩:=hr;exact⟨vs,rfl,az.move hz hs hh hm hl⟩
 |.agg cs,_,hm,hr=>by simp only[aD,aM]at hr hm ⊢;obtain⟨vs,rfl,hl⟩:=hr;exact⟨vs,rfl,az.move hz hs hh hm hl⟩
 |.pC cs,_,hm,hr=>by simp only[aD,aM]at hr hm ⊢;obtain⟨vs,rfl,hl⟩:=hr;exact⟨vs,rfl,az.move hz hs hh hm hl⟩
theorem az.move(hz:∀b,Z b→Z' b)(hs:cG Z w w')(hh:∀id,p id→h' id≠none→h id≠none∧ψ' id=ψ id):∀{a:List AV} {v:List Value},aF p a→az Z ψ h w a v→az Z' ψ' h' w' a v
 |[],_,_,hr=>by simpa only[az] using hr
 |a::r,_,hm,hr=>by simp only[az,aF]at hr hm ⊢;obtain⟨v,us,rfl,h1,h2⟩:=hr;exact⟨v,us,rfl,aD.move hz hs hh hm.1 h1,az.move hz hs hh hm.2 h2⟩
end
mutual
theorem aM.top:∀a:AV,aM (fun _=>True) a
 |.no=>by simp only[aM]
 |.bool b=>by simp only[aM]
 |.int k n=>by simp only[aM]
 |.str s=>by simp only[aM]
 |.mA=>by simp only[aM]
 |.gq=>by simp only[aM]
 |.ref id s i off=>by simp only[aM]
 |.fp k x off=>by simp only[aM]
 |.sl ex k xs=>by simp only[aM]
 |.mp kk vk es=>by simp only[aM]
 |.bO id=>by simp only[aM]
 |.fn f cap=>by simp only[aM];exact aF.top cap
 |.agg cs=>by simp only[aM];exact aF.top cs
 |.pC cs=>by simp only[aM];exact aF.top cs
theorem aF.top:∀a:List AV,aF (fun _=>True) a
 |[]=>by simp only[aF]
 |a::r=>by simp only[aF];exact⟨aM.top a,aF.top r⟩
end
theorem aD.less(hz:∀b,Z b→Z' b)(hs:cG Z w w')(hh:∀id,h' id≠none→h id≠none∧ψ' id=ψ id){a:AV}{v:Value}(hr:aD Z ψ h w a v):aD Z' ψ' h' w' a v :=aD.move (p:=fun _=>True) hz hs (fun id _ hn=>hh id hn) (aM.top a) hr
theorem az.less(hz:∀b,Z b→Z' b)(hs:cG Z w w')(hh:∀id,h' id≠none→h id≠none∧ψ' id=ψ id){a:List AV}{v:List Value}(hr:az Z ψ h w a v):az Z' ψ' h' w' a v :=az.move (p:=fun _=>True) hz hs (fun id _ hn=>hh id hn) (aF.top a) hr
theorem az.length:∀{a:List AV} {v:List Value},az Z ψ h w a v→a.length=v.length
 |[],_,hr=>by grind [az]
 |a::r,_,hr=>by simp only[az]at hr;obtain⟨v,us,rfl,_,h2⟩:=hr;simp[az.length h2]
theorem az.get:∀{a:List AV} {v:List Value} (i:Nat) {x:AV},az Z ψ h w a v→a[i]? = some x→∃u,v[i]? = some u∧aD Z ψ h w x u
 |[],_,i,x,_,hx=>by simp at hx
 |a::r,_,0,x,hr,hx=>by simp only[az]at hr;obtain⟨v,us,rfl,h1,h2⟩:=hr;simp only[List.getElem?_cons_zero,Option.some.injEq]at hx;subst hx;exact⟨v,rfl,h1⟩
 |a::r,_,i+1,x,hr,hx=>by simp only[az]at hr;obtain⟨v,us,rfl,h1,h2⟩:=hr;obtain⟨u,hu,hr⟩:=az.get i h2 (by simpa using hx);exact⟨u,by simpa using hu,hr⟩
theorem az.append:∀{a b:List AV} {v u:List Value},az Z ψ h w a v→az Z ψ h w b u→az Z ψ h w (a++b) (v++u)
 |[],b,_,u,hr,hb=>by grind [az]
 |a::r,b,_,u,hr,hb=>by simp only[az]at hr;obtain⟨v,us,rfl,h1,h2⟩:=hr;simp only[List.cons_append,az];exact⟨v,us++u,rfl,h1,az.append h2 hb⟩
theorem az.split:∀{a b:List AV} {v:List Value},az Z ψ h w (a++b) v→∃us ws,v=us++ws∧az Z ψ h w a us∧az Z ψ h w b ws
 |[],b,v,hr=>⟨[],v,rfl,by rfl,hr⟩
 |a::r,b,v,hr=>by simp only[List.cons_append,az]at hr;obtain⟨x,us,rfl,h1,h2⟩:=hr;obtain⟨jD,ws,rfl,h3,h4⟩:=az.split h2;exact⟨x::jD,ws,rfl,by simp only[az];grind,h4⟩
theorem az.drop(n:Nat){a:List AV}{v:List Value}(hr:az Z ψ h w a v):az Z ψ h w (a.drop n) (v.drop n):=by
 by_cases hn:n≤a.length
 ·have uU:az Z ψ h w (a.take n++a.drop n) v:=by simp_all
  obtain⟨us,ws,rfl,h1,h2⟩:=az.split uU;have hl:=h1.length;simp_all
 ·have:=hr.length
  grind [List.drop_eq_nil_of_le,az]
theorem az.take(n:Nat){a:List AV}{v:List Value}(hr:az Z ψ h w a v):az Z ψ h w (a.take n) (v.take n):=by
 by_cases hn:n≤a.length
 ·have uU:az Z ψ h w (a.take n++a.drop n) v:=by simp_all
  obtain⟨us,ws,rfl,h1,h2⟩:=az.split uU;have hl:=h1.length;simp_all
 ·have:=hr.length
  grind [List.take_of_length_le]
theorem az.set:∀{a:List AV} {v:List Value} (i:Nat) {x:AV} {u:Value},az Z ψ h w a v→aD Z ψ h w x u→az Z ψ h w (a.set i x) (v.set i u)
 |[],_,i,x,u,hr,_=>by simp only[az]at hr;subst hr;simp only[List.set_nil,az]
 |a::r,_,0,x,u,hr,hx=>by simp only[az]at hr;obtain⟨v,us,rfl,h1,h2⟩:=hr;simp only[List.set_cons_zero,az];exact⟨u,us,rfl,hx,h2⟩
 |a::r,_,i+1,x,u,hr,hx=>by simp only[az]at hr;obtain⟨v,us,rfl,h1,h2⟩:=hr;simp only[List.set_cons_succ,az];exact⟨v,_,rfl,h1,az.set i h2 hx⟩
theorem iH:∀{k:K} {x:k.T} {vs:List Value},aL Z w k x vs→az Z ψ h w (enc k x) vs
 |.int _,_,_,hr=>by simp only[aL]at hr;subst hr;simp[enc,az,aD]
 |.bool,_,_,hr=>by simp only[aL]at hr;subst hr;simp[enc,az,aD]
 |.str,_,_,hr=>by simp only[aL]at hr;subst hr;simp[enc,az,aD]
 |.fn _,_,_,hr=>by simp only[aL]at hr;subst hr;simp[enc,az,aD]
 |.sl k,xs,_,hr=>by have uU:=hr;simp only[aL]at uU;obtain⟨v,rfl,_⟩:=uU;simp only[enc,az,aD];exact⟨v,[],rfl,⟨hr,by simp⟩,rfl⟩
 |.pair a b,x,_,hr=>by simp only[aL]at hr;obtain⟨us,ws,rfl,h1,h2⟩:=hr;simp only[enc];exact az.append (iH h1) (iH h2)
 |.one k,x,_,hr=>by simp only[aL]at hr;simp only[enc];exact iH (k:=k) hr
 |.mp kk vk,es,_,hr=>by have uU:=hr;simp only[aL]at uU;obtain⟨A,rfl,_⟩:=uU;simp only[enc,az,aD];exact⟨_,[],rfl,hr,rfl⟩
theorem Ui{k:K}{v:Value}(hr:aD Z ψ h w .gq v):aL Z w (.sl k) [] [v]:=by simp only[aD]at hr;subst hr;simp only[aL];exact⟨_,rfl,none,0,rfl,abX _,fun _=>rfl,fun i x hx=>by simp at hx⟩
theorem CO:∀{k:K} {cs:List AV} {x:k.T} {r:List AV} {vs:List Value},dec k cs=some (x,r)→az Z ψ h w cs vs→∃us ws,vs=us++ws∧aL Z w k x us∧az Z ψ h w r ws
 |.int ik,cs,x,r,vs,hd,hr=>by
  simp only[dec]at hd;unfold I9 at hd
  split at hd
  ·split at hd
   ·rename_i he;subst he
    cases hd
    simp only[az,aD]at hr;obtain⟨v,us,rfl,rfl,h2⟩:=hr;exact⟨[_],us,rfl,by simp only[aL],h2⟩
   ·cases hd
  ·cases hd
 |.bool,cs,x,r,vs,hd,hr=>by
  simp only[dec]at hd;unfold CJ at hd
  split at hd
  ·cases hd
   simp only[az,aD]at hr;obtain⟨v,us,rfl,rfl,h2⟩:=hr;exact⟨[_],us,rfl,by simp only[aL],h2⟩
  ·cases hd
 |.str,cs,x,r,vs,hd,hr=>by
  simp only[dec]at hd;unfold Ja at hd
  split at hd
  ·cases hd
   simp only[az,aD]at hr;obtain⟨v,us,rfl,rfl,h2⟩:=hr;exact⟨[_],us,rfl,by simp only[aL],h2⟩
  ·cases hd
 |.sl k,cs,x,r,vs,hd,hr=>by
  simp only[dec]at hd;unfold PU at hd
  split at hd
  ·split at hd
   ·rename_i he;subst he
    cases hd
    simp only[az]at hr;obtain⟨v,us,rfl,h1,h2⟩:=hr;simp only[aD]at h1;exact⟨[_],us,rfl,h1.1,h2⟩
   ·cases hd
  ·cases hd
   simp only[az]at hr;obtain⟨v,us,rfl,h1,h2⟩:=hr;exact⟨[_],us,rfl,Ui h1,h2⟩
  ·cases hd
 |.pair a b,cs,x,r,vs,hd,hr=>by
  simp only[dec]at hd
  split at hd
  ·rename_i x1 r1 h1
   split at hd
   ·rename_i y1 r2 h2
    cases hd
    obtain⟨us,ws,rfl,k1,k2⟩:=CO h1 hr;obtain⟨jD,ws',rfl,k3,k4⟩:=CO h2 k2;exact⟨us++jD,ws',by rw[List.append_assoc],by simp only[aL];exact⟨us,jD,rfl,k1,k3⟩,k4⟩
   ·cases hd
  ·cases hd
 |.one k,cs,x,r,vs,hd,hr=>by simp only[dec]at hd;obtain⟨us,ws,e,k1,k2⟩:=CO (k:=k) hd hr;exact⟨us,ws,e,by simp only[aL];exact k1,k2⟩
 |.fn f,cs,x,r,vs,hd,hr=>by
  simp only[dec]at hd;unfold PX at hd
  split at hd
  ·split at hd
   ·rename_i he;subst he
    cases hd
    simp only[az,aD]at hr;obtain⟨v,us,rfl,⟨ws,rfl,h3⟩,h2⟩:=hr;obtain⟨ws⟩:=ws;have h3:ws=[]:=h3;subst h3;exact⟨[_],us,rfl,by simp only[aL],h2⟩
   ·cases hd
  ·cases hd
 |.mp kk vk,cs,x,r,vs,hd,hr=>by
  simp only[dec]at hd;unfold PV at hd
  split at hd
  ·split at hd
   ·rename_i he;obtain⟨rfl,rfl⟩:=he
    cases hd
    simp only[az]at hr;obtain⟨v,us,rfl,h1,h2⟩:=hr;simp only[aD]at h1;exact⟨[_],us,rfl,h1,h2⟩
   ·cases hd
  ·cases hd
theorem dN{k:K}{cs:List AV}{x:k.T}{vs:List Value}(hd:dM k cs=some x)(hr:az Z ψ h w cs vs):aL Z w k x vs:=by
 unfold dM at hd
 split at hd
 ·rename_i x' h1
  cases hd
  obtain⟨us,ws,rfl,k1,k2⟩:=CO h1 hr;simp only[az]at k2;subst k2;rw[List.append_nil];exact k1
 ·cases hd
theorem nC{k:K}{x:k.T}{v:Value}(hr:aL Z w k x v.cells.toList)(hp:k.isAgg=true→∃vs,v=.agg vs)(hn:k.isAgg=false→v.cells=#[v]):aD Z ψ h w (cp k x) v:=by
 cases k with
 |int ik=>rw[hn rfl]at hr;simp only[aL]at hr;simp only[cp,aD];simpa using hr
 |bool=>rw[hn rfl]at hr;simp only[aL]at hr;simp only[cp,aD];simpa using hr
 |str=>rw[hn rfl]at hr;simp only[aL]at hr;simp only[cp,aD];simpa using hr
 |fn f=>rw[hn rfl]at hr;simp only[aL]at hr;simp only[cp,aD];exact⟨#[],by simpa using hr,by simp[az]⟩
 |sl k=>rw[hn rfl]at hr;simp only[cp,aD];exact⟨hr,by simp⟩
 |mp kk vk=>rw[hn rfl]at hr;simp only[cp,aD];exact hr
 |pair a b =>obtain⟨vs,rfl⟩:=hp rfl;simp only[cp,aD];exact⟨vs,rfl,iH hr⟩
 |one k =>obtain⟨vs,rfl⟩:=hp rfl;simp only[cp,aD];exact⟨vs,rfl,iH hr⟩
end
end Go.Vs
namespace Go.Vs
theorem Heap.jE{n m:Nat}(bA:m≠n):∀h:Heap,(h.del n).get m=h.get m
 |[]=>rfl
 |(i,o)::r=>by
  simp only[Heap.del]
  split
  ·rename_i hi;rw[Heap.jE bA r];simp only[Heap.get];rw[if_neg (by omega)]
  ·simp only[Heap.get]
   split
   ·rfl
   ·exact Heap.jE bA r
theorem Heap.iI(n:Nat):∀h:Heap,(h.del n).get n=none
 |[]=>rfl
 |(i,o)::r=>by
  simp only[Heap.del]
  split
  ·exact Heap.iI n r
  simp_all [Heap.get,if_neg,Heap.iI]
theorem Heap.yf(h:Heap)(n:Nat)(o:Ob):(h.set n o).get n=some o:=by simp[Heap.set,Heap.get]
theorem Heap.DH{n m:Nat}(bA:m≠n)(h:Heap)(o:Ob):(h.set n o).get m=h.get m:=by simp only[Heap.set,Heap.get];rw[if_neg (by omega)];exact Heap.jE bA h
theorem Heap.yg{n m:Nat}{h:Heap}{o:Ob}(hg:(h.del n).get m=some o):h.get m=some o∧m≠n:=by
 grind [Heap.iI,Heap.jE]
theorem Heap.get_append(a b:Heap)(n:Nat):(a++b).get n=(match a.get n with|some o=>some o|none=>b.get n):=by
 induction a with
 |nil=>rfl
 |cons p r ih =>
  obtain⟨i,o⟩:=p;simp only[List.cons_append,Heap.get]
  split
  ·rfl
  ·exact ih
def lE(Z:Nat→Prop)(w:World)(k:K)(xs:List k.T)(vs:List Value):Prop :=∀(i:Nat) (x:k.T),xs[i]? = some x→aL Z w k x ((vs.drop (i*k.sz)).take k.sz)
abbrev Hp:=Nat→Option Ob
def eE(w:World)(e:TypeId)(size:Nat)(v:Value)(n:Nat)(vs:List Value):Prop :=vs.length=n*size ∧((n=0∧∃A,v=.slice A 0 0) ∨ ∃g cap cur,v=.slice (some ⟨g,0,none⟩) n cap∧0<cap∧w.heap[g]? = some (.cells cur e (0,0))∧n≤cap∧cap≤maxLen∧cur.size=cap*size∧cur.toList.take (n*size)=vs)
theorem eE.of{w:World}{base e size n:Nat}{v:Value}{vs:List Value}(h:w.ownsRow base e size v n vs):eE w e size v n vs:=by
 obtain⟨h1,h2⟩:=h;refine⟨h1,?_⟩;rcases h2 with⟨rfl,h2⟩|⟨g,cap,cur,rfl,_,h3,h4,h5,h6,h7⟩
 ·simp_all
 ·by_cases hc:cap=0
  ·simp_all
  ·exact .inr ⟨g,cap,cur,rfl,by omega,h3,h4,h5,h6,h7⟩
theorem eE.slice{w:World}{e size n:Nat}{v:Value}{vs:List Value}(h:eE w e size v n vs):∃A c,v=.slice A n c:=by
 rcases h.2 with⟨h0,A,rfl⟩|⟨g,cap,cur,rfl,_⟩
 ·simp_all
 simp_all
theorem eE.one{w:World}{e size n:Nat}{v:Value}{vs:List Value}(h:eE w e size v n vs):v.cells=#[v]∧v.oneCell'=true:=by obtain⟨A,c,rfl⟩:=h.slice;exact⟨rfl,by rfl⟩
theorem eE.kept{w w':World}{e size n:Nat}{v:Value}{vs:List Value}(ho:eE w e size v n vs)(hk:∀g,ob v=some g→w'.heap[g]? = w.heap[g]?):eE w' e size v n vs:=by
 obtain⟨h1,h2⟩:=ho;refine⟨h1,?_⟩;rcases h2 with h2|⟨g,cap,cur,rfl,hc,hh,r⟩
 ·exact .inl h2
 ·exact .inr ⟨g,cap,cur,rfl,hc,(hk g (by simp only[ob];grind)).trans hh,r⟩
def j6(Z:Nat→Prop)(w:World):(ok:OK)→Value→ok.T→Prop
 |.row ty k,v,xs=>∃vs,eE w ty k.sz v xs.length vs∧lE Z w k xs vs
 |.map kk vk,v,es=>∃m cr clock,v=.map (some m)∧w.heap[m]? = some (.map cr clock)∧Je (aL Z w kk) (aL Z w vk) kk.isAgg vk.isAgg es cr.toList∧cr.toList.Pairwise (fun a b=>a.born≠b.born)∧∀e∈cr.toList,e.born<clock
 |.iter kk vk,v,x=>∃r m since seen cr clock,v=.pointer (some ⟨r,0,none⟩)∧w.heap[r]? = some (.mapIter (some m) since seen clock)∧Z m∧w.heap[m]? = some (.map cr clock) ∧ cr.toList.Pairwise (fun a b=>a.born≠b.born)∧since=clock∧(∀e∈cr.toList,e.born<clock)∧Je (aL Z w kk) (aL Z w vk) kk.isAgg vk.isAgg x.2 (cr.toList.filter fun e => !seen.contains e.born) ∧(match x.1 with|none=>True|some c=>∃e∈cr.toList,seen.back? = some e.born∧Je (aL Z w kk) (aL Z w vk) kk.isAgg vk.isAgg [c] [e])
 |.pX,v,x=>∃r,v=.pointer (some ⟨r,0,none⟩)∧w.heap[r]? = some (.stringIter x.1 x.2)
theorem j6.lt{Z:Nat→Prop}{w:World}:∀{ok:OK} {v:Value} {x:ok.T} {b:Nat},j6 Z w ok v x→ob v=some b→b<w.heap.size
 |.row ty k,v,xs,b,h,hb=>by
  obtain⟨vs,⟨_,h⟩,_⟩:=h;rcases h with⟨_,A,rfl⟩|⟨g,cap,cur,rfl,hc,h2,_⟩
  ·cases A<;>simp[ob]at hb
  ·simp only[ob]at hb
   grind
 |.map _ _,v,_,b,h,hb=>by
  obtain⟨m,cr,clock,rfl,h2,_⟩:=h
  grind [ob,Option.some.injEq,Array.getElem?_eq_some_iff]
 |.iter _ _,v,_,b,h,hb=>by
  obtain⟨r,m,since,seen,cr,clock,rfl,h2,_⟩:=h
  grind [ob,Option.some.injEq,Array.getElem?_eq_some_iff]
 |.pX,v,_,b,h,hb=>by
  obtain⟨r,rfl,h2⟩:=h
  grind [ob,Option.some.injEq,Array.getElem?_eq_some_iff]
theorem j6.one{Z:Nat→Prop}{w:World}:∀{ok:OK} {v:Value} {x:ok.T},j6 Z w ok v x→v.cells=#[v]∧v.oneCell'=true
 |.row ty k,v,xs,h=>by obtain⟨vs,h,_⟩:=h;obtain⟨A,c,rfl⟩:=h.slice;exact⟨rfl,by rfl⟩
 |.map _ _,v,_,h=>by obtain⟨m,cr,clock,rfl,_⟩:=h;exact⟨rfl,by rfl⟩
 |.iter _ _,v,_,h=>by obtain⟨r,m,since,seen,cr,clock,rfl,_⟩:=h;exact⟨rfl,by rfl⟩
 |.pX,v,_,h=>by obtain⟨r,rfl,_⟩:=h;exact⟨rfl,by rfl⟩
theorem j6.kept{Z Z':Nat→Prop}{w w':World}(hz:∀b,Z b→Z' b)(sm:cG Z w w'):∀{ok:OK} {v:Value} {x:ok.T},(∀g,ob v=some g→w'.heap[g]? = w.heap[g]?)→j6 Z w ok v x→j6 Z' w' ok v x
 |.row ty k,v,xs,hk,h=>by obtain⟨vs,h1,h2⟩:=h;exact⟨vs,h1.kept hk,fun i x hx=>(h2 i x hx).mono hz sm⟩
 |.map _ _,v,_,hk,h=>by obtain⟨m,cr,clock,rfl,h2,h3,h4⟩:=h;exact⟨m,cr,clock,rfl,(hk m rfl).trans h2,h3.imp (fun _ _ h=>h.mono hz sm) (fun _ _ h=>h.mono hz sm),h4⟩
 |.iter _ _,v,x,hk,h=>by
  obtain⟨r,m,since,seen,cr,clock,rfl,h2,h3,h4,h5,h6,h7,h8,h9⟩:=h;refine⟨r,m,since,seen,cr,clock,rfl,(hk r rfl).trans h2,hz _ h3,(sm m h3).trans h4,h5,h6,h7,h8.imp (fun _ _ h=>h.mono hz sm) (fun _ _ h=>h.mono hz sm),?_⟩
  split
  ·trivial
  ·rename_i c hc;rw[hc]at h9;obtain⟨e,he,q6,GB⟩:=h9;exact⟨e,he,q6,GB.imp (fun _ _ h=>h.mono hz sm) (fun _ _ h=>h.mono hz sm)⟩
 |.pX,v,_,hk,h=>by obtain⟨r,rfl,h2⟩:=h;exact⟨r,rfl,(hk r rfl).trans h2⟩
structure Good(Z:Nat→Prop)(ψ:Nat→Value)(h:Hp)(w:World)(B0:Nat)(O:Nat→Prop):Prop where
 box:∀id ty cs,h id=some (.box ty cs)→∃g vs,ψ id=.pointer (some ⟨g,0,none⟩)∧w.heap[g]? = some (.cells vs ty (0,0))∧az Z ψ h w cs vs.toList∧∀u∈vs.toList,u.oneCell'=true
 row:∀id ok x,h id=some (.own ok x)→j6 Z w ok (ψ id) x
 live:∀id g,h id≠none→ob (ψ id)=some g→¬Z g∧(B0≤g∨O g)
 apart:∀id qb g,h id≠none→h qb≠none→ob (ψ id)=some g→ob (ψ qb)=some g→id=qb
 kO:∀b,Z b→b<w.heap.size
variable {Z Z':Nat→Prop} {ψ ψ':Nat→Value} {h h':Hp} {w w':World} {B0:Nat} {O:Nat→Prop}
theorem Good.sub(g:Good Z ψ h w B0 O)(hs:∀id o,h' id=some o→h id=some o):Good Z ψ h' w B0 O:=by
 have hn:∀id,h' id≠none→h id≠none:=fun id hn=>by obtain⟨o,ho⟩:=abP.1 hn;simp_all
 refine⟨fun id ty cs hb=>?_,fun id ok x hb=>g.row id ok x (hs _ _ hb),fun id b h1 h2=>g.live id b (hn id h1) h2,fun id qb b h1 h2 h3 h4=>g.apart id qb b (hn _ h1) (hn _ h2) h3 h4,g.kO⟩;obtain⟨b,vs,h1,h2,h3,h4⟩:=g.box id ty cs (hs _ _ hb);exact⟨b,vs,h1,h2,az.less (fun _ h=>h) (cG.refl _ _) (fun id bM=>⟨hn id bM,rfl⟩) h3,h4⟩
theorem Good.freeze(g:Good Z ψ h w B0 O)(hs:∀id o,h' id=some o→h id=some o)(hz:∀b,Z b→Z' b) (DI:∀b,Z' b→Z b∨∃id,h id≠none∧h' id=none∧ob (ψ id)=some b):Good Z' ψ h' w B0 O:=by
 have hn:∀id,h' id≠none→h id≠none:=fun id hn=>by obtain⟨o,ho⟩:=abP.1 hn;simp_all
 have lt:∀id b,h id≠none→ob (ψ id)=some b→b<w.heap.size:=by
  intro id b h1 h2;obtain⟨o,ho⟩:=abP.1 h1
  cases o with
  |box ty cs =>
   obtain⟨gg,vs,e1,e2,_⟩:=g.box id ty cs ho
   grind [ob,Option.some.injEq,Array.getElem?_eq_some_iff]
  |own ok x=>exact(g.row id ok x ho).lt h2
 refine⟨fun id ty cs hb=>?_,fun id ok x hb=>?_,fun id b h1 h2=>⟨fun hzb=>?_,(g.live id b (hn id h1) h2).2⟩,fun id qb b h1 h2 h3 h4=>g.apart id qb b (hn _ h1) (hn _ h2) h3 h4,fun b hb=>?_⟩
 ·obtain⟨b,vs,h1,h2,h3,h4⟩:=g.box id ty cs (hs _ _ hb);exact⟨b,vs,h1,h2,az.less hz (cG.refl _ _) (fun id bM=>⟨hn id bM,rfl⟩) h3,h4⟩
 ·exact(g.row id ok x (hs _ _ hb)).kept hz (cG.refl _ _) (fun _ _=>rfl)
 ·rcases DI b hzb with h3|⟨qb,h3,h4,h5⟩
  ·exact(g.live id b (hn id h1) h2).1 h3
  ·have:=g.apart id qb b (hn id h1) h3 h2 h5;simp_all
 ·rcases DI b hb with h3|⟨qb,h3,h4,h5⟩
  ·exact g.kO b h3
  grind
theorem yh{ty:TypeId}{k:K}{xs:List k.T}{v:Value}{vs:List Value}(ho:eE w ty k.sz v xs.length vs)(hv:lE Z w k xs vs)(hz:∀b,Z b→Z' b)(hb:∀b,ob v=some b→Z' b) :
  aL Z' w (.sl k) xs [v]:=by
 simp only[aL];refine⟨v,rfl,?_⟩;obtain⟨hl,e⟩:=ho;rcases e with⟨h0,A,rfl⟩|⟨g,cap,cur,rfl,GC,hh,hc,_,hs,ako⟩
 ·have:xs=[]:=abD h0;subst this;exact⟨A,0,rfl,abX _,fun _=>rfl,fun i x hx=>by simp at hx⟩
 ·refine⟨some ⟨g,0,none⟩,cap,rfl,hc,fun e=>(by cases e),fun i x hx=>?_⟩;have hi:i<xs.length:=(abp.1 hx).1;refine⟨⟨g,0,none⟩,_,rfl,hb g (by simp only[ob];rw[if_neg (by omega)]),(hv i x hx).mono hz (cG.refl _ _),fun j u hu=>?_⟩;rw[cF,Nat.zero_add];simp only[World.cell?,hh];rw[List.getElem?_take]at hu
  split at hu
  ·rename_i hj;rw[List.getElem?_drop]at hu;rw[←ako,List.getElem?_take]at hu
   split at hu
   ·simpa using hu
   ·cases hu
  ·cases hu
theorem Hv{hh:Heap}{a:AV}{v:Value}(g:Good Z ψ hh.get w B0 O)(hz:∀b,Z b→Z' b)(hb:∀id b,a=.bO id→hh.get id≠none→ob (ψ id)=some b→Z' b)(hr:aD Z ψ hh.get w a v):aD Z' ψ hh.get w (dp hh a) v:=by
 unfold dp
 split
 ·rename_i id
  split
  ·rename_i ty k xs hg;simp only[aD]at hr;have hv:=hr.2 (by rw[hg];simp);subst hv;obtain⟨vs,h1,h2⟩:=g.row id (.row ty k) xs hg;simp only[aD];exact⟨yh h1 h2 hz (fun b hbb=>hb id b rfl (by rw[hg];simp) hbb),by simp⟩
  ·rename_i kk vk es hg;simp only[aD]at hr;have hv:=hr.2 (by rw[hg];simp);subst hv;obtain⟨m,cr,clock,h1,h2,h3,_⟩:=g.row id (.map kk vk) es hg;simp only[aD,aL];refine⟨some m,by rw[h1],.inr ⟨m,cr,clock,rfl,hb id m rfl (by rw[hg];simp) (by rw[h1];rfl),h2,h3.imp (fun _ _ h=>h.mono hz (cG.refl _ _)) (fun _ _ h=>h.mono hz (cG.refl _ _))⟩⟩
  grind [aD]
 ·exact hr.less hz (cG.refl _ _) (fun id bM=>⟨bM,rfl⟩)
theorem qe{hh:Heap}(g:Good Z ψ hh.get w B0 O)(hz:∀b,Z b→Z' b):∀{cs:List AV} {vs:List Value},(∀id b,AV.bO id∈cs→hh.get id≠none→ob (ψ id)=some b→Z' b)→az Z ψ hh.get w cs vs→az Z' ψ hh.get w (cs.map (dp hh)) vs
 |[],_,_,hr=>by simpa only[az,List.map_nil] using hr
 |a::r,_,hb,hr=>by simp only[az,List.map_cons]at hr ⊢;obtain⟨v,us,rfl,h1,h2⟩:=hr;exact⟨v,us,rfl,Hv g hz (fun id b e=>hb id b (by rw[e];simp)) h1,qe g hz (fun id b e=>hb id b (abg _ e)) h2⟩
theorem RQ(hh:Heap)(a:AV):∀id o,(drop1 hh a).get id=some o→hh.get id=some o:=by
 intro id o hg;unfold drop1 at hg
 grind [Heap.yg]
theorem eX:∀(cs:List AV) (hh:Heap),∀id o,(de hh cs).get id=some o→hh.get id=some o
 |[],_,_,_,hg=>hg
 |c::r,hh,id,o,hg=>RQ hh c id o (eX r (drop1 hh c) id o hg)
theorem DJ:∀(cs:List AV) (hh:Heap) (id:Nat),AV.bO id∈cs→(de hh cs).get id=none
 |[],_,_,hm=>by simp at hm
 |c::r,hh,id,hm=>by
  simp only[de];rcases abq.1 hm with rfl|hm
  ·cases hg:(de (drop1 hh (.bO id)) r).get id with
   |none=>rfl
   |some o =>have:=eX r _ id o hg;simp only[drop1,Heap.iI]at this;cases this
  ·exact DJ r _ id hm
theorem rm:∀(cs:List AV) (hh:Heap) (id:Nat),AV.bO id∉cs→(de hh cs).get id=hh.get id
 |[],_,_,_=>rfl
 |c::r,hh,id,hm=>by
  simp only[de];rw[rm r _ id (fun h=>hm (List.mem_cons_of_mem _ h))];unfold drop1
  split
  ·rename_i qb;exact Heap.jE (fun e=>hm (by rw[e];simp)) hh
  ·rfl
def tj(Z:Nat→Prop)(ψ:Nat→Value)(h:Hp)(cs:List AV):Nat→Prop:=fun b=>Z b∨∃id,AV.bO id∈cs∧h id≠none∧ob (ψ id)=some b
theorem jF{hh:Heap}(g:Good Z ψ hh.get w B0 O)(cs:List AV):Good (tj Z ψ hh.get cs) ψ (de hh cs).get w B0 O :=g.freeze (eX cs hh) (fun _ hb=>.inl hb) (fun b hb=>by
  rcases hb with hb|⟨id,h1,h2,h3⟩
  ·exact .inl hb
  grind [id,DJ])
end Go.Vs
namespace Go.Vs
def Own(ψ:Nat→Value)(h:Hp)(b:Nat):Prop:=∃id,h id≠none∧ob (ψ id)=some b
structure dg(ψ:Nat→Value)(h:Hp)(w w':World):Prop where
 os:w'.os=w.os
 tape:w'.tape=w.tape
 output:w'.output=w.output
 size:w.heap.size≤w'.heap.size
 block:∀b,b<w.heap.size→¬Own ψ h b→w'.heap[b]? = w.heap[b]?
structure Next(Z:Nat→Prop)(ψ:Nat→Value)(h:Hp)(w:World)(B0:Nat)(O:Nat→Prop)(N:Nat→Prop)(Z':Nat→Prop)(ψ':Nat→Value)(h':Hp)(w':World):Prop where
 g9:∀b,Z b→Z' b
 fq:∀b,Z' b→Z b∨Own ψ h b∨w.heap.size≤b
 keep:dg ψ h w w'
 ids:∀id,h' id≠none→(h id≠none∧ψ' id=ψ id)∨N id
 du:Good Z' ψ' h' w' B0 O
variable {Z Z':Nat→Prop} {ψ ψ':Nat→Value} {h h':Hp} {w w':World} {B0:Nat} {O:Nat→Prop} {N:Nat→Prop}
theorem dg.refl(ψ:Nat→Value)(h:Hp)(w:World):dg ψ h w w:=⟨rfl,rfl,rfl,abX _,fun _ _ _=>rfl⟩
theorem dg.same(k:dg ψ h w w')(g:Good Z ψ h w B0 O):cG Z w w':=fun b hb=>k.block b (g.kO b hb) (fun⟨id,h1,h2⟩=>(g.live id b h1 h2).1 hb)
theorem Next.same(n:Next Z ψ h w B0 O N Z' ψ' h' w')(g:Good Z ψ h w B0 O):cG Z w w':=n.keep.same g
theorem Next.refl(g:Good Z ψ h w B0 O):Next Z ψ h w B0 O N Z ψ h w :=⟨fun _ h=>h,fun _ h=>.inl h,dg.refl _ _ _,fun _ bM=>.inl ⟨bM,rfl⟩,g⟩
theorem Next.rep(n:Next Z ψ h w B0 O N Z' ψ' h' w')(g:Good Z ψ h w B0 O){a:AV}{v:Value}(hm:aM (fun id=>¬N id) a)(hr:aD Z ψ h w a v):aD Z' ψ' h' w' a v :=hr.move n.g9 (n.same g) (fun id hp bM=>(n.ids id bM).resolve_right hp) hm
theorem Good.bT(g:Good Z ψ h w B0 O){b:Nat}(ho:Own ψ h b):b<w.heap.size:=by
 obtain⟨id,h1,h2⟩:=ho;obtain⟨o,ho⟩:=abP.1 h1
 cases o with
 |box ty cs =>
  obtain⟨gg,vs,e1,e2,_⟩:=g.box id ty cs ho
  grind [ob,Option.some.injEq,Array.getElem?_eq_some_iff]
 |own ok x=>exact(g.row id ok x ho).lt h2
theorem Good.more(g:Good Z ψ h w B0 O)(k:dg ψ h w w')(we:∀b,Own ψ h b→w'.heap[b]? = w.heap[b]?) (hold:∀id,¬N id→h' id=h id∧ψ' id=ψ id) (bm:∀id ty cs,h id=some (.box ty cs)→aF (fun i=>¬N i) cs) (acz:∀id ty cs,N id→h' id=some (.box ty cs)→∃g vs,ψ' id=.pointer (some ⟨g,0,none⟩)∧w'.heap[g]? = some (.cells vs ty (0,0))∧az Z ψ' h' w' cs vs.toList∧∀u∈vs.toList,u.oneCell'=true) (qf:∀id ok x,N id→h' id=some (.own ok x)→j6 Z w' ok (ψ' id) x) (Hw:∀id b,N id→h' id≠none→ob (ψ' id)=some b→w.heap.size≤b) (acA:∀id qb b,N id→N qb→h' id≠none→h' qb≠none→ob (ψ' id)=some b→ob (ψ' qb)=some b→id=qb) (hB:B0≤w.heap.size) :
  Next Z ψ h w B0 O N Z ψ' h' w':=by
 have s5:∀id,h' id≠none→(h id≠none∧ψ' id=ψ id)∨N id:=fun id bM=>by
  grind
 have sm:cG Z w w':=k.same g;have Hy:∀id b,¬N id→h' id≠none→ob (ψ' id)=some b→Own ψ h b:=fun id b hn h1 h2=>by obtain⟨e1,e2⟩:=hold id hn;exact⟨id,by rwa [e1]at h1,by rwa [e2]at h2⟩
 refine⟨fun _ h=>h,fun _ h=>.inl h,k,s5,⟨fun id ty cs hb=>?_,fun id ok x hb=>?_,fun id b h1 h2=>?_,fun id qb b h1 h2 h3 h4=>?_,fun b hb=>adf (g.kO b hb) k.size⟩⟩
 ·by_cases hn:N id
  ·grind
  ·obtain⟨e1,e2⟩:=hold id hn;rw[e1]at hb;obtain⟨gg,vs,h1,h2,h3,h4⟩:=g.box id ty cs hb;have ho:Own ψ h gg:=⟨id,by rw[hb];simp,by rw[h1];rfl⟩;exact⟨gg,vs,by rw[e2,h1],(we gg ho).trans h2,h3.move (fun _ h=>h) sm (fun i hp bM=>(s5 i bM).resolve_right hp) (bm id ty cs hb),h4⟩
 ·by_cases hn:N id
  ·simp_all
  ·obtain⟨e1,e2⟩:=hold id hn;rw[e1]at hb;rw[e2];exact(g.row id ok x hb).kept (fun _ h=>h) sm (fun gg RR=>we gg ⟨id,by rw[hb];simp,RR⟩)
 ·by_cases hn:N id
  ·have:=Hw id b hn h1 h2;exact⟨fun hz=>by have:=g.kO b hz;omega,.inl (by omega)⟩
  ·obtain⟨e1,e2⟩:=hold id hn;rw[e1]at h1;rw[e2]at h2;exact g.live id b h1 h2
 ·by_cases hn:N id<;>by_cases RS:N qb
  ·grind
  ·have:=Hw id b hn h1 h3;have:=g.bT (Hy qb b RS h2 h4);omega
  ·have:=Hw qb b RS h2 h4;have:=g.bT (Hy id b hn h1 h3);omega
  ·obtain⟨e1,e2⟩:=hold id hn;obtain⟨e3,e4⟩:=hold qb RS;rw[e1]at h1;rw[e2]at h3;rw[e3]at h2;rw[e4]at h4;exact g.apart id qb b h1 h2 h3 h4
end Go.Vs
namespace Go.Vs
variable {P:Program} {Z Z':Nat→Prop} {ψ ψ':Nat→Value} {h h':Hp} {w w':World} {B0:Nat} {O:Nat→Prop} {N:Nat→Prop}
theorem uV{α:Type}:∀(vs cs:List α) (off:Nat),off+vs.length≤cs.length→eU cs off vs=cs.take off++vs++cs.drop (off+vs.length)
 |[],cs,off,_=>by simp[eU]
 |v::r,cs,off,hl=>by
  simp only[List.length_cons]at hl;simp only[eU];rw[uV r (cs.set off v) (off+1) (by rw[List.length_set];omega)];have h1:(cs.set off v).take (off+1)=cs.take off++[v]:=by rw[List.take_set,List.take_succ_eq_append_getElem (by omega),List.set_append_right _ _ (by rw[List.length_take];omega)];rw[List.length_take,Nat.min_eq_left (by omega)];simp
  have h2:(cs.set off v).drop (off+1+r.length)=cs.drop (off+(r.length+1)):=by rw[List.drop_set_of_lt (by omega)];congr 1;omega
  rw[h1,h2,List.append_assoc,List.append_assoc,List.append_assoc];rfl
theorem iw{t:TypeId}{b:Bool}(hb:Hq P t=some b):(isAgg t).run P w=.ok b w:=by
 unfold Hq at hb;obtain⟨d,hd,rfl⟩:=acX.1 hb;simp only[isAgg,Sem.run_bind,run_underlying hd,Result.andThen_ok]
 cases d<;>rfl
theorem wg{t:TypeId}{d:TypeDesc}(hd:P.underlying t=some d):∃i,P.info? t=some i:=by
 grind [Program.underlying]
theorem dB{t:TypeId}{i:TypeInfo}(hi:P.info? t=some i):(sizeOf t).run P w=.ok (P.cellsOf t) w:=by simp[sizeOf,typeInfo,hi,Program.cellsOf]
theorem BG{t:TypeId}{b:Bool}(hb:Hq P t=some b):∃i,P.info? t=some i:=by unfold Hq at hb;obtain⟨d,hd,rfl⟩:=acX.1 hb;exact wg hd
theorem kP{t:TypeId}{cs:List AV}{us:List Value}{a:Addr}{x:AV}(hr:az Z ψ h w cs us)(hc:∀(j:Nat) u,us[j]? = some u→w.cell? (a.add j)=some u)(hx:eW P t cs=some x) :
  ∃V,(Instr.loadAt t (.pointer (some a))).run P w=.ok V w∧aD Z ψ h w x V:=by
 unfold eW at hx;have hlen:=hr.length
 split at hx
 ·rename_i hb
  split at hx
  ·rename_i hl
   cases hx
   obtain⟨i,hi⟩:=BG hb;refine⟨.agg (us.take (P.cellsOf t)).toArray,?_,by simp only[aD];exact⟨_,rfl,by simpa using hr.take (P.cellsOf t)⟩⟩;have aG:(us.take (P.cellsOf t)).length=P.cellsOf t:=by simp_all
   have hld:=run_loadCells_list (P:=P) w a (us.take (P.cellsOf t)) (fun j v hv=>hc j v (by
    grind))
   simp_all [Instr.loadAt,Instr.sureAddr,loadVar,iw,dB]
  ·cases hx
 ·rename_i hb
  split at hx
  ·rename_i c r
   cases hx
   simp only[az]at hr;obtain⟨v,jD,rfl,h1,h2⟩:=hr;refine⟨v,?_,h1⟩;have:=hc 0 v rfl;simp_all [Hu,Instr.loadAt,Instr.sureAddr,loadVar,iw]
  ·cases hx
 ·cases hx
theorem ml{t:TypeId}{i:TypeInfo}(hi:P.info? t=some i)(g off:Nat)(V:Value)(cur:Array Value)(ty:TypeId)(hg:w.heap[g]? = some (.cells cur ty (0,0)))(hs:V.cells.size=P.cellsOf t) (hl:off+V.cells.size≤cur.size) (h1:∀v∈V.cells.toList,v.oneCell'=true) :
  (Instr.storeAt t (.pointer (some ⟨g,off,none⟩)) V).run P w=.ok () (w.setRow g (cur.toList.take off++V.cells.toList++cur.toList.drop (off+V.cells.size)).toArray):=by
 have BH:=run_storeCells_at P g off ty V.cells.toList 0 cur w hg (by simpa using hl) h1;simp_all [Nat.add_zero,Array.length_toList,Instr.storeAt,Instr.sureAddr,storeVar,dB]
def eI{α:Type}(f:Nat→α)(i:Nat)(v:α):Nat→α:=fun j=>if j=i then v else f j
theorem bg{α:Type}(f:Nat→α)(i:Nat)(v:α):eI f i v i=v:=by simp[eI]
theorem dO{α:Type}(f:Nat→α){i j:Nat}(v:α)(bA:j≠i):eI f i v j=f j:=by simp[eI,bA]
theorem dg.alloc(ψ:Nat→Value)(h:Hp)(w:World)(o:Obj):dg ψ h w (w.alloc o) :=⟨rfl,rfl,rfl,by simp_all,fun b hb _=>heap_alloc_old w o hb⟩
theorem yi(g:Good Z ψ h w B0 O)(hB:B0≤w.heap.size)(id:Nat)(ty:TypeId){cs:List AV}{vs:Array Value}(hN:N id)(hr:az Z ψ h w cs vs.toList)(h1:∀u∈vs.toList,u.oneCell'=true) (bm:∀i ty cs,h i=some (.box ty cs)→aF (fun i=>i≠id) cs) (hm:aF (fun i=>i≠id) cs) :
  Next Z ψ h w B0 O N Z (eI ψ id (.pointer (some ⟨w.heap.size,0,none⟩))) (eI h id (some (.box ty cs))) (w.alloc (.cells vs ty)):=by
 have n:Next Z ψ h w B0 O (·=id) Z (eI ψ id (.pointer (some ⟨w.heap.size,0,none⟩))) (eI h id (some (.box ty cs))) (w.alloc (.cells vs ty)):=by
  refine g.more (dg.alloc _ _ _ _) (fun b hb=>heap_alloc_old w _ (g.bT hb)) (fun i hi=>⟨dO _ _ hi,dO _ _ hi⟩) (fun i KG cs' hb=>?_) (fun i KG cs' hi hb=>?_) (fun i ok x hi hb=>?_) (fun i b hi bA hb=>?_) (fun i i' b hi xe _ _ _ _=>by omega) hB
  ·grind
  ·subst hi;rw[bg]at hb;cases hb;refine⟨w.heap.size,vs,bg _ _ _,heap_alloc_new _ _,?_,h1⟩;refine hr.move (fun _ h=>h) ((dg.alloc ψ h w _).same g) (fun j hj bA=>?_) hm
   grind [dO]
  ·grind [bg]
  grind [bg,ob,Option.some.injEq]
 exact⟨n.g9,n.fq,n.keep,fun i hi=>(n.ids i hi).imp (fun h=>h) (fun e=>by simp_all),n.du⟩
theorem Uj{h:Hp}{id:Nat}{o:Ob}(bM:h id≠none):∀i,eI h id (some o) i≠none→h i≠none:=fun i hi=>by
 grind [id,dO]
theorem Good.write(g:Good Z ψ h w B0 O)(id:Nat)(bM:h id≠none)(k:dg ψ h w w')(Uk:∀b,ob (ψ id)≠some b→b<w.heap.size→w'.heap[b]? = w.heap[b]?)(o':Ob) (acz:∀ty cs,o'=.box ty cs→∃gg vs,ψ id=.pointer (some ⟨gg,0,none⟩)∧w'.heap[gg]? = some (.cells vs ty (0,0))∧az Z ψ h w' cs vs.toList∧∀u∈vs.toList,u.oneCell'=true) (qf:∀ok x,o'=.own ok x→j6 Z w' ok (ψ id) x) :
  Next Z ψ h w B0 O N Z ψ (eI h id (some o')) w':=by
 have hs:=Uj (o:=o') bM;have sm:=k.same g;refine⟨fun _ h=>h,fun _ h=>.inl h,k,fun i hi=>.inl ⟨hs i hi,rfl⟩,⟨fun i ty cs hb=>?_,fun i ok x hb=>?_,fun i b h1 h2=>g.live i b (hs i h1) h2,fun i i' b h1 h2 h3 h4=>g.apart i i' b (hs i h1) (hs i' h2) h3 h4,fun b hb=>adf (g.kO b hb) k.size⟩⟩
 ·by_cases e:i=id
  ·subst e;rw[bg]at hb;cases hb;obtain⟨gg,vs,h1,h2,h3,h4⟩:=acz _ _ rfl;exact⟨gg,vs,h1,h2,h3.less (fun _ h=>h) (cG.refl _ _) (fun j hj=>⟨hs j hj,rfl⟩),h4⟩
  ·rw[dO _ _ e]at hb;obtain⟨gg,vs,h1,h2,h3,h4⟩:=g.box i ty cs hb;refine⟨gg,vs,h1,?_,h3.less (fun _ h=>h) sm (fun j hj=>⟨hs j hj,rfl⟩),h4⟩;rw[Uk gg (fun hh=>e (g.apart i id gg (by rw[hb];simp) bM (by rw[h1];rfl) hh)) (Array.getElem?_eq_some_iff.1 h2).1];exact h2
 ·by_cases e:i=id
  ·subst e;rw[bg]at hb;cases hb;exact qf _ _ rfl
  ·rw[dO _ _ e]at hb;exact(g.row i ok x hb).kept (fun _ h=>h) sm (fun gg RR=>Uk gg (fun hh=>e (g.apart i id gg (by rw[hb];simp) bM RR hh)) (g.bT ⟨i,by rw[hb];simp,RR⟩))
theorem dg.setRow{gg:Nat}(ho:Own ψ h gg)(arr:Array Value):dg ψ h w (w.setRow gg arr) :=⟨rfl,rfl,rfl,by simp[World.setRow],fun b _ hb=>by have:gg≠b:=fun e=>hb (e▸ho);simp[World.setRow,Array.getElem?_modify,this]⟩
theorem setRow_other{gg b:Nat}(arr:Array Value)(bA:gg≠b):(w.setRow gg arr).heap[b]? = w.heap[b]? := by simp[World.setRow,Array.getElem?_modify,bA]
theorem DK(g:Good Z ψ h w B0 O){id:Nat}{ty:TypeId}{cs vs:List AV}(hb:h id=some (.box ty cs)){t:TypeId}{i:TypeInfo}(hi:P.info? t=some i){off:Nat}{V:Value} (hv:az Z ψ h w vs V.cells.toList) (h1:∀u∈V.cells.toList,u.oneCell'=true) (hs:V.cells.size=P.cellsOf t) (hl:off+vs.length≤cs.length) {a:Addr} (ha:a=⟨Y5 (ψ id),off,none⟩) :
  ∃w',(Instr.storeAt t (.pointer (some a)) V).run P w=.ok () w'∧Next Z ψ h w B0 O N Z ψ (eI h id (some (.box ty (eU cs off vs)))) w':=by
 obtain⟨gg,arr,e1,e2,e3,e4⟩:=g.box id ty cs hb;have hlen:=hv.length;have Ul:=e3.length;simp only[Array.length_toList]at hlen Ul;have bM:h id≠none:=by rw[hb];simp
 have ho:Own ψ h gg:=⟨id,bM,by rw[e1];rfl⟩;rw[e1]at ha;simp only[Y5]at ha;subst ha;refine⟨_,ml hi gg off V arr ty e2 hs (by omega) h1,?_⟩;have kk:=dg.setRow (w:=w) ho ((arr.toList.take off++V.cells.toList++arr.toList.drop (off+V.cells.size)).toArray);refine g.write id bM kk (fun b hb _=>setRow_other _ (fun e=>hb (by grind [ob]))) _ (fun KG cs' he=>?_) (fun _ _ he=>by cases he)
 cases he
 refine⟨gg,_,e1,setRow_heap w gg arr _ ty _ e2,?_,?_⟩
 ·rw[uV _ _ _ hl];have h5:az Z ψ h w (cs.take off++vs++cs.drop (off+vs.length)) (arr.toList.take off++V.cells.toList++arr.toList.drop (off+V.cells.size)):=by rw[←hlen];exact((e3.take off).append hv).append (e3.drop (off+vs.length))
  exact h5.less (fun _ h=>h) (kk.same g) (fun j hj=>⟨hj,rfl⟩)
 grind
theorem acB{α:Type}(cur V:List α)(m off sz L:Nat)(h:off+V.length≤sz)(h1:m+sz≤L)(h2:L≤cur.length) :
  ((cur.take (m+off)++V++cur.drop (m+off+V.length)).take L |>.drop m |>.take sz)=((cur.drop m).take sz).take off++V++((cur.drop m).take sz).drop (off+V.length):=by
 apply adO;intro q;simp only[List.getElem?_take,List.getElem?_drop,List.getElem?_append,List.length_append,List.length_take,List.length_drop]
 grind
theorem Y6{α:Type}(cur V:List α)(m off sz L p:Nat)(h:off+V.length≤sz)(h1:m+sz≤L)(h2:L≤cur.length)(h3:p+sz≤L)(h4:p+sz≤m∨m+sz≤p) :
  ((cur.take (m+off)++V++cur.drop (m+off+V.length)).take L |>.drop p |>.take sz)=(cur.drop p).take sz:=by
 apply adO;intro q;simp only[List.getElem?_take,List.getElem?_drop,List.getElem?_append,List.length_append,List.length_take]
 grind
theorem aL.qg{k:K}{x:k.T}{vs us:List Value}(e:vs=us)(hr:aL Z w k x vs):aL Z w k x us:=e▸hr
theorem DL(g:Good Z ψ h w B0 O){id:Nat}{ty:TypeId}{kk:K}{xs:List kk.T}(hb:h id=some (.own (.row ty kk) xs)){t:TypeId}{i:TypeInfo}(hi:P.info? t=some i){n off:Nat}{x y:kk.T}{V:Value} (hx:xs[n]? = some x) (hs:V.cells.size=P.cellsOf t) (hl:off+V.cells.size≤kk.sz) {a:Addr} (ha:a=⟨Y5 (ψ id),n*kk.sz+off,none⟩) (hy:∀us,aL Z w kk x us→aL Z w kk y (us.take off++V.cells.toList++us.drop (off+V.cells.size))) (h1:∀u∈V.cells.toList,u.oneCell'=true) :
  ∃w',(Instr.storeAt t (.pointer (some a)) V).run P w=.ok () w'∧Next Z ψ h w B0 O N Z ψ (eI h id (some (.own (.row ty kk) (xs.set n y)))) w':=by
 obtain⟨vs,ho,hv⟩:=g.row id (.row ty kk) xs hb;have bM:h id≠none:=by rw[hb];simp
 have hn:n<xs.length:=(abp.1 hx).1;have GC:=kk.iv;have hmul:n*kk.sz+kk.sz≤xs.length*kk.sz:=by rw[←Nat.succ_mul];exact ab0 _ hn
 obtain⟨hl1,e⟩:=ho;rcases e with⟨h0,_⟩|⟨gg,cap,cur,e1,e2,e3,e4,e5,e6,e7⟩
 ·omega
 have Um:xs.length*kk.sz≤cap*kk.sz:=ab0 _ e4;have pT:ob (ψ id)=some gg:=by rw[e1];simp only[ob];rw[if_neg (by omega)]
 have ho:Own ψ h gg:=⟨id,bM,pT⟩;have KX:a=⟨gg,n*kk.sz+off,none⟩:=by rw[ha,e1];rfl
 subst KX;refine⟨_,ml hi gg (n*kk.sz+off) V cur ty e3 hs (by omega) h1,?_⟩;have hk:=dg.setRow (w:=w) ho ((cur.toList.take (n*kk.sz+off)++V.cells.toList++cur.toList.drop (n*kk.sz+off+V.cells.size)).toArray);have sm:=hk.same g;refine g.write id bM hk (fun b hb _=>setRow_other _ (fun e=>hb (by rw[pT,e]))) _ (fun _ _ he=>by cases he) (fun Y2 x' he=>?_)
 cases he
 have wh:cur.toList.length=cap*kk.sz:=by rw[Array.length_toList];exact e6
 have hVl:V.cells.toList.length=V.cells.size:=Array.length_toList
 let il:=cur.toList.take (n*kk.sz+off)++V.cells.toList++cur.toList.drop (n*kk.sz+off+V.cells.size)
 have GD:il.length=cap*kk.sz:=by simp only[il,List.length_append,List.length_take,List.length_drop,wh,hVl];omega
 have TZ:(xs.set n y).length=xs.length:=List.length_set;have pU:vs=cur.toList.take (xs.length*kk.sz):=e7.symm;refine⟨il.take (xs.length*kk.sz),⟨by rw[List.length_take,GD,TZ];omega,.inr ⟨gg,cap,il.toArray,by rw[TZ];exact e1,e2,setRow_heap w gg cur _ ty _ e3,by rw[TZ];exact e4,e5,by simpa using GD,by rw[TZ]⟩⟩,fun j z hz=>?_⟩;have hj:j<xs.length:=by have:=(abp.1 hz).1;rwa [TZ]at this
 have hmj:j*kk.sz+kk.sz≤xs.length*kk.sz:=by rw[←Nat.succ_mul];exact ab0 _ hj
 have Y7:∀p,p+kk.sz≤xs.length*kk.sz→(vs.drop p).take kk.sz=(cur.toList.drop p).take kk.sz:=fun p hp=>by rw[pU,List.drop_take,List.take_take,Nat.min_eq_left (by omega)]
 by_cases T0:j=n
 ·subst T0;rw[List.getElem?_set_self hn]at hz;cases hz;have hu:=hy _ (hv j x hx);rw[Y7 _ hmj,←hVl]at hu;refine aL.mono (fun _ h=>h) sm (aL.qg ?_ hu);have:=acB cur.toList V.cells.toList (j*kk.sz) off kk.sz (xs.length*kk.sz) (by omega) hmj (by omega);rw[←this,hVl]
 ·rw[List.getElem?_set_ne (fun e=>T0 e.symm)]at hz;have hu:=hv j z hz;rw[Y7 _ hmj]at hu;refine aL.mono (fun _ h=>h) sm (aL.qg ?_ hu);have h4:j*kk.sz+kk.sz≤n*kk.sz∨n*kk.sz+kk.sz≤j*kk.sz:=by
   rcases Nat.lt_or_ge j n with h|h
   ·left;rw[←Nat.succ_mul];exact ab0 _ h
   ·right;rw[←Nat.succ_mul];exact ab0 _ (by omega)
  have:=Y6 cur.toList V.cells.toList (n*kk.sz) off kk.sz (xs.length*kk.sz) (j*kk.sz) (by omega) hmul (by omega) hmj h4;rw[←this,hVl]
theorem xf{k:K}{ys:List k.T}{u:Value}(hr:aL Z w (.sl k) ys [u]) :
  (u=.slice none 0 0∧ys=[])∨∃a c news,u=.slice (some a) ys.length c∧ys.length≤c∧news.length=ys.length*k.sz∧(∀(j:Nat) q,news[j]? = some q→w.cell? (a.add j)=some q)∧(∀q∈news,q.oneCell'=true)∧lE Z w k ys news:=by
 simp only[aL]at hr;obtain⟨v,hv,A,c,rfl,hl,hn,he⟩:=hr
 cases hv
 cases A with
 |none =>simp_all
 |some a =>
  right;have NC:∀i (hi:i<ys.length),∃us,aL Z w k ys[i] us∧∀(j:Nat) u,us[j]? = some u→w.cell? (a.add (i*k.sz+j))=some u:=fun i hi=>by simp_all
  have GC:=k.iv
  let news:=(List.range (ys.length*k.sz)).map fun j=>(w.cell? (a.add j)).getD default
  have aaZ:∀j,j<ys.length*k.sz→∃q,w.cell? (a.add j)=some q∧q.oneCell'=true:=fun j hj=>by
   have hi:j / k.sz<ys.length:=Nat.div_lt_of_lt_mul (by grind);obtain⟨us,h3,h4⟩:=NC (j / k.sz) hi;have hm:j%k.sz<us.length:=by rw[h3.len];exact aeM _ GC
   refine⟨us[j%k.sz],?_,h3.one _ (acG hm)⟩
   grind [List.getElem?_eq_getElem,Nat.mul_comm,Nat.div_add_mod]
  have oC:∀j,j<ys.length*k.sz→∃q,news[j]? = some q∧w.cell? (a.add j)=some q:=fun j hj=>by
   grind
  have hlen:news.length=ys.length*k.sz:=by simp[news]
  refine⟨a,c,news,rfl,hl,hlen,fun j q hq=>?_,fun q hq=>?_,fun i x hx=>?_⟩
  ·grind
  ·grind
  ·have hi:i<ys.length:=(abp.1 hx).1;obtain⟨us,h3,h4⟩:=NC i hi;rw[List.getElem?_eq_getElem hi]at hx;cases hx;refine aL.qg ?_ h3;have hul:=h3.len;have hmul:i*k.sz+k.sz≤ys.length*k.sz:=by rw[←Nat.succ_mul];exact ab0 _ hi
   apply adO
   grind
theorem RT{hh:Heap}(g:Good Z ψ hh.get w B0 O){x:AV}{u:Value}{k:K}{ys:List k.T}(hx:rowOf hh x k=some ys)(hr:aD Z ψ hh.get w x u) :
  (u=.slice none 0 0∧ys=[])∨∃a c news,u=.slice (some a) ys.length c∧ys.length≤c∧news.length=ys.length*k.sz∧(∀(j:Nat) q,news[j]? = some q→w.cell? (a.add j)=some q)∧(∀q∈news,q.oneCell'=true)∧lE Z w k ys news:=by
 unfold rowOf at hx
 split at hx
 ·rename_i ex k' xs heq
  split at hx
  ·rename_i e;subst e
   cases hx
   cases x with
   |sl ex' k'' xs' =>
    simp only[dp]at heq
    cases heq
    simp only[aD]at hr;exact xf hr.1
   |bO id =>
    simp only[dp]at heq
    split at heq
    ·rename_i ty kk zs hg
     cases heq
     simp only[aD]at hr;have hv:=hr.2 (by rw[hg];simp);subst hv;obtain⟨vs,ho,hv⟩:=g.row id (.row ty _) _ hg;have h1:=xf (yh (Z':=fun b=>Z b∨ob (ψ id)=some b) ho hv (fun b hb=>.inl hb) (fun b hb=>.inr hb));rcases h1 with h1|⟨a,c,news,h1,h2,h3,h4,h5,_⟩
     ·exact .inl h1
     ·right;refine⟨a,c,news,h1,h2,h3,h4,h5,?_⟩;have ND:news=vs:=by
       obtain⟨hl,e⟩:=ho;rcases e with⟨e,_⟩|⟨gg,cap,cur,e,_,e3,_,_,_,e7⟩
       ·rw[e,Nat.zero_mul]at h3 hl;rw[List.eq_nil_of_length_eq_zero h3,List.eq_nil_of_length_eq_zero hl]
       ·rw[e]at h1;cases h1;apply adO;intro j;by_cases hj:j<xs.length*k'.sz
        ·have hn:=h4 j _ (abf (by omega));rw[cF,Nat.zero_add]at hn;simp only[World.cell?,e3]at hn;have CP:vs[j]? = cur.toList[j]? := by rw[←e7,List.getElem?_take,if_pos hj]
         rw[CP,List.getElem?_eq_getElem (by omega)];simpa using hn.symm
        ·rw[List.getElem?_eq_none (by omega),List.getElem?_eq_none (by omega)]
      rw[ND];exact hv
    ·cases heq
    ·cases heq
   |_=>simp only[dp]at heq<;>cases heq
  ·cases hx
 ·rename_i heq
  cases hx
  cases x with
  |gq=>simp only[aD]at hr;exact .inl ⟨hr,rfl⟩
  |bO id=>simp only[dp]at heq;split at heq<;>cases heq
  |_=>simp only[dp]at heq<;>cases heq
 ·cases hx
structure pI(P:Program)(e:TypeId)(k:K)(i:TypeInfo)(z:Value):Prop where
 info:P.info? e=some i
 zero:i.zero=some z
 size:i.size=k.sz
 yj:z.cells.size=k.sz
 bytes:i.bytes≤65536
theorem cx{e:TypeId}{k:K}(he:Ah P e k=true):∃i z,pI P e k i z:=by
 unfold Ah at he
 split at he
 ·rename_i i hi
  split at he
  ·rename_i z hz;simp only[Bool.and_eq_true,decide_eq_true_eq]at he;exact⟨i,z,hi,hz,he.1,he.2.1,he.2.2⟩
  ·cases he
 ·cases he
theorem lE.append{k:K}{xs ys:List k.T}{vs us:List Value}(h1:lE Z w k xs vs)(h2:lE Z w k ys us)(hl:vs.length=xs.length*k.sz):lE Z w k (xs++ys) (vs++us):=fun i x hx=>by
 by_cases hi:i<xs.length
 ·rw[List.getElem?_append_left hi]at hx;have hm:i*k.sz+k.sz≤xs.length*k.sz:=by rw[←Nat.succ_mul];exact ab0 _ hi
  have h3:=h1 i x hx;rw[List.drop_append_of_le_length (by omega),List.take_append_of_le_length (by rw[List.length_drop];omega)];exact h3
 ·rw[List.getElem?_append_right (by omega)]at hx;have h3:=h2 (i-xs.length) x hx;have e:i*k.sz=vs.length+(i-xs.length)*k.sz:=by rw[hl,←Nat.add_mul];congr 1;omega
  rw[e,List.drop_append,List.drop_eq_nil_of_le (by omega),List.nil_append,Nat.add_sub_cancel_left];exact h3
theorem lE.DM{k:K}{xs:List k.T}{vs:List Value}(h:lE Z w k xs vs)(sm:cG Z w w'):lE Z w' k xs vs:=fun i x hx=>(h i x hx).mono (fun _ h=>h) sm
theorem KY(g:Good Z ψ h w B0 O)(hB:B0≤w.heap.size)(id:Nat)(hN:N id){ok:OK}{x:ok.T}{v:Value}(kk:dg ψ h w w')(we:∀b,Own ψ h b→w'.heap[b]? = w.heap[b]?) (ho:j6 Z w' ok v x) (hb:∀b,ob v=some b→w.heap.size≤b) (bm:∀i ty cs,h i=some (.box ty cs)→aF (fun i=>i≠id) cs) :
  Next Z ψ h w B0 O N Z (eI ψ id v) (eI h id (some (.own ok x))) w':=by
 have n:Next Z ψ h w B0 O (·=id) Z (eI ψ id v) (eI h id (some (.own ok x))) w':=by
  refine g.more kk we (fun i hi=>⟨dO _ _ hi,dO _ _ hi⟩) (fun i KG cs' hb=>bm i KG cs' hb) (fun i KG cs' hi hb=>?_) (fun i ok x hi hb=>?_) (fun i b hi bA hbb=>?_) (fun i i' b hi xe _ _ _ _=>by omega) hB
  ·grind [bg]
  ·grind [bg]
  grind [bg]
 exact⟨n.g9,n.fq,n.keep,fun i hi=>(n.ids i hi).imp (fun h=>h) (fun e=>by simp_all),n.du⟩
theorem qh(g:Good Z ψ h w B0 O)(hB:B0≤w.heap.size)(id:Nat)(ty:TypeId)(hN:N id){k:K}{xs:List k.T}{vs:List Value}{v:Value}(kk:dg ψ h w w')(we:∀b,Own ψ h b→w'.heap[b]? = w.heap[b]?) (ho:eE w' ty k.sz v xs.length vs) (hv:lE Z w' k xs vs) (hb:∀b,ob v=some b→w.heap.size≤b) (bm:∀i ty cs,h i=some (.box ty cs)→aF (fun i=>i≠id) cs) :
  Next Z ψ h w B0 O N Z (eI ψ id v) (eI h id (some (.own (.row ty k) xs))) w':=KY g hB id hN (ok:=.row ty k) kk we ⟨vs,ho,hv⟩ hb bm
theorem dg.grown{row:Option Nat}(hg:w.grownBy w' row)(hr:∀b,row=some b→Own ψ h b):dg ψ h w w' :=⟨hg.os,hg.tape,hg.output,hg.size,fun b hb hn=>hg.block b hb (fun e=>hn (hr b e.symm))⟩
theorem oJ(g:Good Z ψ h w B0 O)(hB:B0≤w.heap.size)(id dJ:Nat)(hN:N id){ok:OK}{x y:ok.T}(ho:h dJ=some (.own ok x))(bA:dJ≠id) (hg:w.grownBy w' (ob (ψ dJ))) {v:Value} (hv:j6 Z w' ok v y) (hb:ob v=ob (ψ dJ)∨∀b,ob v=some b→w.heap.size≤b) (bm:∀i ty cs,h i=some (.box ty cs)→aF (fun i=>i≠id) cs) :
  Next Z ψ h w B0 O N Z (eI ψ id v) (eI (eI h dJ none) id (some (.own ok y))) w':=by
 have hold:h dJ≠none:=by rw[ho];simp
 have pT:∀b,ob (ψ dJ)=some b→ob (ψ dJ)=some b:=fun _ h=>h;have kk:dg ψ h w w':=dg.grown hg (fun b e=>⟨dJ,hold,pT b e⟩);have sm:=kk.same g;have other:∀i b,h i≠none→i≠dJ→ob (ψ i)=some b→w'.heap[b]? = w.heap[b]? := fun i b h1 h2 h3 =>hg.block b (g.bT ⟨i,h1,h3⟩) (fun e=>h2 (g.apart i dJ b h1 hold h3 (pT b e.symm)));have at_:∀i,i≠id→eI (eI h dJ none) id (some (.own ok y)) i≠none→h i≠none∧i≠dJ:=fun i hi h1=>by
  rw[dO _ _ hi]at h1;by_cases e:i=dJ
  ·subst e;rw[bg]at h1;exact absurd rfl h1
  ·rw[dO _ _ e]at h1;exact⟨h1,e⟩
 have ids:∀i,eI (eI h dJ none) id (some (.own ok y)) i≠none→(h i≠none∧eI ψ id v i=ψ i)∨i=id:=fun i h1=>by
  by_cases e:i=id
  ·exact .inr e
  ·exact .inl ⟨(at_ i e h1).1,dO _ _ e⟩
 have vob:∀b,ob v=some b→ob (ψ dJ)=some b∨w.heap.size≤b:=fun b hbb=>by
  rcases hb with hb|hb
  ·left;rw[←hb];exact hbb
  ·right;exact hb b hbb
 refine⟨fun _ h=>h,fun _ h=>.inl h,kk,fun i h1=>(ids i h1).imp (fun h=>h) (fun e=>by subst e;exact hN),⟨fun i KG cs s6=>?_,fun i Y2 z s6=>?_,fun i b h1 h2=>?_,fun i i' b h1 h2 h3 h4=>?_,fun b hz=>adf (g.kO b hz) kk.size⟩⟩
 ·by_cases e:i=id
  ·subst e;rw[bg]at s6;cases s6
  ·have Jf:=at_ i e (by rw[s6];simp);rw[dO _ _ e,dO _ _ Jf.2]at s6;obtain⟨gg,us,h1,h2,h3,h4⟩:=g.box i KG cs s6;refine⟨gg,us,by rw[dO _ _ e];exact h1,(other i gg Jf.1 Jf.2 (by rw[h1];rfl)).trans h2,?_,h4⟩;exact h3.move (fun _ h=>h) sm (fun j hj hn=>(ids j hn).resolve_right hj) (bm i KG cs s6)
 ·by_cases e:i=id
  ·subst e;rw[bg]at s6;cases s6;rw[bg];exact hv
  ·have Jf:=at_ i e (by rw[s6];simp);rw[dO _ _ e,dO _ _ Jf.2]at s6;rw[dO _ _ e];exact(g.row i Y2 z s6).kept (fun _ h=>h) sm (fun gg RR=>other i gg Jf.1 Jf.2 RR)
 ·by_cases e:i=id
  ·subst e;rw[bg]at h2;rcases vob b h2 with h3|h3
   ·exact g.live dJ b hold h3
   ·exact⟨fun hz=>by have:=g.kO b hz;omega,.inl (by omega)⟩
  ·rw[dO _ _ e]at h2;exact g.live i b (at_ i e h1).1 h2
 ·have key:∀j,j≠id→eI (eI h dJ none) id (some (.own ok y)) j≠none→ob (ψ j)=some b→ob v=some b→False:=fun j hj h5 h6 h7=>by
   obtain⟨h8,h9⟩:=at_ j hj h5;rcases vob b h7 with q6|q6
   ·exact h9 (g.apart j dJ b h8 hold h6 q6)
   ·have:=g.bT ⟨j,h8,h6⟩;omega
  by_cases e:i=id<;>by_cases e':i'=id
  ·rw[e,e']
  ·subst e;rw[bg]at h3;rw[dO _ _ e']at h4;exact(key i' e' h2 h4 h3).elim
  ·subst e';rw[bg]at h4;rw[dO _ _ e]at h3;exact(key i e h1 h3 h4).elim
  ·rw[dO _ _ e]at h3;rw[dO _ _ e']at h4;exact g.apart i i' b (at_ i e h1).1 (at_ i' e' h2).1 h3 h4
def Y8(w:World)(sz:Nat)(u:Value)(m:Nat)(news:List Value):Prop :=news.length=m*sz∧(∀q∈news,q.oneCell'=true)∧((u=.slice none 0 0∧m=0)∨∃a c,u=.slice (some a) m c∧∀(j:Nat) q,news[j]? = some q→w.cell? (a.add j)=some q)
theorem yk{hh:Heap}(g:Good Z ψ hh.get w B0 O){x:AV}{u:Value}{k:K}{ys:List k.T}(hx:rowOf hh x k=some ys)(hr:aD Z ψ hh.get w x u):∃news,Y8 w k.sz u ys.length news∧lE Z w k ys news:=by
 rcases RT g hx hr with⟨rfl,rfl⟩|⟨a,c,news,h1,_,h2,h3,h4,h5⟩
 ·exact⟨[],⟨by simp,by simp,.inl ⟨rfl,rfl⟩⟩,fun i x hx=>by simp at hx⟩
 ·exact⟨news,⟨h2,h4,.inr ⟨a,c,h1,h3⟩⟩,h5⟩
theorem fW{t ty e:TypeId}{i:TypeInfo}(ht:P.underlying t=some (.slice e))(hi:P.info? e=some i)(A:Option Addr)(n c:Nat)(hc:n≤c)(A':Option Addr)(c':Nat) :
  (Builtin.append_ #[t,t] ty #[.slice A n c,.slice A' 0 c']).run P w=.ok (.slice A n c) w:=by
 cases A<;>cases A'<;>simp[Builtin.append_,run_underlying ht,sizeOf,typeInfo,hi,Builtin.lenOf,Builtin.firstCells,hc,storeCells,loadCells,loadCellsFrom]
theorem eJ{t ty e:TypeId}{k:K}{i:TypeInfo}{z:Value}(ht:P.underlying t=some (.slice e))(he:pI P e k i z){v:Value}{n:Nat}{xs:List Value}(ho:eE w e k.sz v n xs) {u:Value} {m:Nat} {news:List Value} (hu:Y8 w k.sz u m news) (hm:n+m≤fH) :
  ∃v' w',(Builtin.append_ #[t,t] ty #[v,u]).run P w=.ok v' w'∧eE w' e k.sz v' (n+m) (xs++news)∧w.grownBy w' (ob v)∧(ob v'=ob v∨∀b,ob v'=some b→w.heap.size≤b):=by
 obtain⟨h1,h3,hu⟩:=hu;obtain⟨A0,c0,hv0⟩:=ho.slice;by_cases Un:m=0
 ·subst Un;have afe:news=[]:=abD (by omega);subst afe;have BI:n≤c0:=by
   rcases ho.2 with⟨h0,A,e⟩|⟨g,cap,cur,e,hc,h2,h3,_⟩
   ·omega
   simp_all
  refine⟨v,w,?_,by simpa using ho,World.grownBy.refl w _,.inl rfl⟩;subst hv0;rcases hu with⟨rfl,_⟩|⟨a,c,rfl,_⟩<;>exact fW ht he.info A0 n c0 BI _ _
 ·rcases hu with⟨_,h0⟩|⟨a,c,rfl,h2⟩
  ·omega
  have hb:=he.bytes;unfold fH at hm;have tK:(n+m)*i.bytes≤140737488355328:=acR (aeU hm hb) (by decide);have new:∀v',w.heap.size≤w.heap.size→∀(w':World),w'.ownsRow w.heap.size e k.sz v' (n+m) (xs++news)→∀b,ob v'=some b→w.heap.size≤b:=fun v' _ w' mC b hb=>by
   rcases mC.2 with⟨rfl,_⟩|⟨g,cap,cur,rfl,h5,_⟩
   ·omega
   grind [ob]
  rcases ho.2 with⟨rfl,A,rfl⟩|⟨g,cap,cur,rfl,Um,h4,h5,h6,h7,h8⟩
  ·have BJ:xs=[]:=abD (by rw[ho.1,Nat.zero_mul]);subst BJ;have pT:ob (.slice A 0 0)=none:=by cases A<;>simp[ob]
   cases A with
   |none =>obtain⟨v',w',hr,h4,h5,_,h6⟩:=run_append_own_at (P:=P) w w.heap.size t ty e i z k.sz i.bytes ht he.info he.zero he.size rfl he.yj k.iv (.slice none 0 0) 0 [] ⟨by simp,.inl ⟨rfl,rfl⟩⟩ a m c news h1 h2 h3 (by grind [maxLen]) tK (abX _);exact⟨v',w',hr,eE.of h4,by rw[pT];exact h5,.inr (new v' (abX _) w' h4)⟩
   |some b0 =>obtain⟨v',w',hr,h4,h5⟩:=run_append_arg_grows (P:=P) w t ty e i z k.sz i.bytes ht he.info he.zero he.size rfl he.yj k.iv b0 0 0 [] (by simp) (by simp) a m c news h1 h2 (by omega) (by grind [maxLen]) tK;exact⟨v',w',hr,eE.of h4,by simp_all,.inr (new v' (abX _) w' h4)⟩
  ·have s8:w.ownsRow 0 e k.sz (.slice (some ⟨g,0,none⟩) n cap) n xs:=⟨ho.1,.inr ⟨g,cap,cur,rfl,ac6 _,h4,h5,h6,h7,h8⟩⟩;have pT:ob (.slice (some ⟨g,0,none⟩) n cap)=some g:=by simp only[ob];grind
   obtain⟨v',w',hr,h4,h5,_,h6⟩:=run_append_own_at (P:=P) w 0 t ty e i z k.sz i.bytes ht he.info he.zero he.size rfl he.yj k.iv _ n xs s8 a m c news h1 h2 h3 (by grind [maxLen]) tK (ac6 _);refine⟨v',w',hr,eE.of h4,by rw[pT];exact h5,?_⟩;rw[pT];rcases h4.2 with⟨rfl,h0⟩|⟨g',akp,il,rfl,_,_,h9,_⟩
   ·omega
   ·have aff:ob (.slice (some ⟨g',0,none⟩) (n+m) akp)=some g':=by simp only[ob];grind
    grind [Value.ownBlock,Option.some.injEq]
theorem aD.pJ{h h':Hp}(hs:∀id o,h' id=some o→h id=some o){a:AV}{v:Value}(hr:aD Z ψ h w a v):aD Z ψ h' w a v :=hr.less (fun _ h=>h) (cG.refl _ _) (fun id bM=>by obtain⟨o,ho⟩:=abP.1 bM;simp_all)
theorem az.pJ{h h':Hp}(hs:∀id o,h' id=some o→h id=some o){a:List AV}{v:List Value}(hr:az Z ψ h w a v):az Z ψ h' w a v :=hr.less (fun _ h=>h) (cG.refl _ _) (fun id bM=>by obtain⟨o,ho⟩:=abP.1 bM;simp_all)
theorem sJ{hh:Heap}(g:Good Z ψ h w B0 O)(br:∀id o,hh.get id=some o→h id=some o)(hB:B0≤w.heap.size){id:Nat}(hN:N id){t ty e:TypeId}{k:K}{i:TypeInfo}{z:Value}(ht:P.underlying t=some (.slice e))(he:pI P e k i z) {x:AV} {u:Value} {ys:List k.T} (hx:rowOf hh x k=some ys) (hr:aD Z ψ h w x u) (hm:ys.length≤fH) (bm:∀i ty cs,h i=some (.box ty cs)→aF (fun i=>i≠id) cs) :
  ∃v' w',(Builtin.append_ #[t,t] ty #[.slice none 0 0,u]).run P w=.ok v' w'∧Next Z ψ h w B0 O N Z (eI ψ id v') (eI h id (some (.own (.row e k) ys))) w'∧v'.cells=#[v']∧v'.oneCell'=true:=by
 obtain⟨news,Ar,hv⟩:=yk (g.sub br) hx (hr.pJ br);have NZ:eE w e k.sz (.slice none 0 0) 0 []:=⟨by simp,.inl ⟨rfl,none,rfl⟩⟩;obtain⟨v',w',dC,h4,h5,h6⟩:=eJ (ty:=ty) ht he NZ Ar (by omega);have hg:w.grownBy w' none:=h5;have kk:dg ψ h w w':=dg.grown hg (fun b e=>by cases e);have sm:=kk.same g;refine⟨v',w',dC,qh g hB id e hN (vs:=news) kk (fun b hb=>hg.block b (g.bT hb) (by simp)) (by simpa using h4) (fun i x hx=>(hv i x hx).mono (fun _ h=>h) sm) (fun b hb=>?_) bm,h4.one⟩
 grind [ob]
theorem Cv{hh:Heap}(g:Good Z ψ h w B0 O)(br:∀id o,hh.get id=some o→h id=some o)(hB:B0≤w.heap.size){id dJ:Nat}(hN:N id)(bA:dJ≠id){t ty e:TypeId}{k:K}{i:TypeInfo}{z:Value}(ht:P.underlying t=some (.slice e))(he:pI P e k i z) {xs:List k.T} (ho:h dJ=some (.own (.row e k) xs)) {x:AV} {u:Value} {ys:List k.T} (hx:rowOf hh x k=some ys) (hr:aD Z ψ h w x u) (hm:xs.length+ys.length≤fH) (bm:∀i ty cs,h i=some (.box ty cs)→aF (fun i=>i≠id) cs) :
  ∃v' w',(Builtin.append_ #[t,t] ty #[ψ dJ,u]).run P w=.ok v' w'∧Next Z ψ h w B0 O N Z (eI ψ id v') (eI (eI h dJ none) id (some (.own (.row e k) (xs++ys)))) w'∧v'.cells=#[v']∧v'.oneCell'=true:=by
 obtain⟨news,Ar,hv⟩:=yk (g.sub br) hx (hr.pJ br);obtain⟨vs,Y9,hv0⟩:=g.row dJ (.row e k) xs ho;obtain⟨v',w',dC,h4,h5,h6⟩:=eJ (ty:=ty) ht he Y9 Ar hm;have hold:h dJ≠none:=by rw[ho];simp
 have kk:dg ψ h w w':=dg.grown h5 (fun b e=>⟨dJ,hold,e⟩);have sm:=kk.same g;refine⟨v',w',dC,oJ g hB id dJ hN ho bA h5 (ok:=.row e k) (y:=xs++ys) ⟨_,by simp_all,(hv0.append hv Y9.1).DM sm⟩ h6 bm,h4.one⟩
theorem DN{hh:Heap}(g:Good Z ψ h w B0 O)(br:∀id o,hh.get id=some o→h id=some o)(hB:B0≤w.heap.size){id:Nat}(hN:N id){t ty e:TypeId}{k:K}{i:TypeInfo}{z:Value}(ht:P.underlying t=some (.slice e))(he:pI P e k i z) {xs:List k.T} {v:Value} (hd:aD Z ψ h w (.sl true k xs) v) {x:AV} {u:Value} {ys:List k.T} (hx:rowOf hh x k=some ys) (hr:aD Z ψ h w x u) (GC:0<ys.length∨xs=[]) (hm:xs.length+ys.length≤fH) (bm:∀i ty cs,h i=some (.box ty cs)→aF (fun i=>i≠id) cs) :
  ∃v' w',(Builtin.append_ #[t,t] ty #[v,u]).run P w=.ok v' w'∧Next Z ψ h w B0 O N Z (eI ψ id v') (eI h id (some (.own (.row e k) (xs++ys)))) w'∧v'.cells=#[v']∧v'.oneCell'=true:=by
 simp only[aD]at hd;obtain⟨hd,hex⟩:=hd;obtain⟨A,c,T1⟩:=hex trivial;rcases xf hd with⟨rfl,rfl⟩|⟨a,c',afg,h1,_,h2,h3,h4,h5⟩
 ·have:=sJ (ty:=ty) (N:=N) g br hB hN ht he hx hr (by omega) bm;simp_all
 ·rw[h1]at T1;cases T1;obtain⟨news,⟨h6,h7,hu⟩,hv⟩:=yk (g.sub br) hx (hr.pJ br);by_cases hy0:ys.length=0
  ·have hy:ys=[]:=abD hy0;have BJ:xs=[]:=GC.resolve_left (by omega);subst BJ;have NZ:eE w e k.sz (.slice (some a) 0 0) 0 []:=⟨by simp,.inl ⟨rfl,_,rfl⟩⟩;refine⟨v,w,?_,qh g hB id e hN (vs:=[]) (dg.refl _ _ _) (fun _ _=>rfl) (by simp_all) (fun i x hx=>by simp_all) (fun b hb=>by grind [ob]) bm,by rw[h1];exact NZ.one⟩;rw[h1];rw[hy0]at hu;rcases hu with⟨rfl,_⟩|⟨b,cu,rfl,_⟩<;>exact fW ht he.info _ _ _ (abX _) _ _
  rcases hu with⟨_,h0⟩|⟨b,cu,rfl,h8⟩
  ·omega
  ·have hb:=he.bytes;unfold fH at hm;have tK:(xs.length+ys.length)*i.bytes≤140737488355328:=acR (aeU hm hb) (by decide);obtain⟨v',w',dC,h9,q6⟩:=run_append_arg_grows (P:=P) w t ty e i z k.sz i.bytes ht he.info he.zero he.size rfl he.yj k.iv a xs.length xs.length afg h2 h3 b ys.length cu news h6 h8 (by omega) (by grind [maxLen]) tK;have kk:dg ψ h w w':=dg.grown q6 (fun b e=>by cases e);have sm:=kk.same g;have h9':eE w' e k.sz v' (xs++ys).length (afg++news):=by rw[List.length_append];exact eE.of h9
   subst h1;refine⟨v',w',dC,qh g hB id e hN kk (fun b hb=>q6.block b (g.bT hb) (by simp)) h9' ((h5.append hv h2).DM sm) (fun b hb=>?_) bm,h9'.one⟩;rcases h9.2 with⟨e1,_⟩|⟨gg,cap,cur,e1,e2,_⟩
   ·omega
   grind [ob]
theorem yl:∀(vs:List Value) (k off:Nat) (cells:Array Value),(vs.zipIdx k).foldl (fun cs (p:Value×Nat)=>cs.setIfInBounds (off+p.2) p.1) cells=(eU cells.toList (off+k) vs).toArray
 |[],k,off,cells=>by simp[eU]
 |v::r,k,off,cells=>by simp only[List.zipIdx_cons,List.foldl_cons,eU];rw[yl r (k+1) off];simp[Nat.add_assoc]
theorem BL(V:Array Value)(off:Nat)(cells:Array Value) :
  V.zipIdx.foldl (fun cs (p:Value×Nat)=>cs.setIfInBounds (off+p.2) p.1) cells=(eU cells.toList off V.toList).toArray:=by
 rw[←Array.foldl_toList,Array.toList_zipIdx];simp_all [yl]
theorem wi{α:Type}:∀(vs cs:List α) (off:Nat),(eU cs off vs).length=cs.length
 |[],_,_=>rfl
 |v::r,cs,off=>by simp only[eU];rw[wi r];simp
theorem az.eU:∀{vs cs:List AV} {us ds:List Value} (off:Nat),az Z ψ h w vs us→az Z ψ h w cs ds→az Z ψ h w (eU cs off vs) (eU ds off us)
 |[],cs,us,ds,off,h1,h2=>by simp only[az]at h1;subst h1;exact h2
 |v::r,cs,us,ds,off,h1,h2=>by simp only[az]at h1;obtain⟨u,jD,rfl,h3,h4⟩:=h1;simp only[Vs.eU];exact az.eU (off+1) h4 (h2.set off h3)
theorem aD.cells{a:AV}{v:Value}(hk:a≠.no)(hr:aD Z ψ h w a v):az Z ψ h w a.cells v.cells.toList:=by
 cases a with
 |no=>exact absurd rfl hk
 |agg cs=>simp only[aD]at hr;obtain⟨vs,rfl,hr⟩:=hr;simpa[AV.cells,Value.cells] using hr
 |bool b=>simp only[aD]at hr;subst hr;simp[AV.cells,Value.cells,az,aD]
 |int k n=>simp only[aD]at hr;subst hr;simp[AV.cells,Value.cells,az,aD]
 |str s=>simp only[aD]at hr;subst hr;simp[AV.cells,Value.cells,az,aD]
 |mA=>simp only[aD]at hr;subst hr;simp[AV.cells,Value.cells,az,aD]
 |gq=>simp only[aD]at hr;subst hr;simp[AV.cells,Value.cells,az,aD]
 |ref id s i off=>obtain⟨a,rfl,h2⟩:=(by simpa only[aD] using hr:∃a,v=.pointer (some a)∧_);simp only[AV.cells,Value.cells,az];exact⟨_,[],by simp,hr,rfl⟩
 |fp k x off=>obtain⟨a,us,rfl,h2⟩:=(by simpa only[aD] using hr:∃a us,v=.pointer (some a)∧_);simp only[AV.cells,Value.cells,az];exact⟨_,[],by simp,hr,rfl⟩
 |sl ex k xs =>
  have uU:=hr;simp only[aD,aL]at uU;obtain⟨⟨v',hv,A,c,rfl,_⟩,_⟩:=uU
  cases hv
  simp only[AV.cells,Value.cells,az];exact⟨_,[],by simp,hr,rfl⟩
 |bO id =>have uU:=hr;simp only[aD]at uU;obtain⟨⟨hc,_⟩,_⟩:=uU;simp only[AV.cells,az,hc];exact⟨_,[],by simp,hr,rfl⟩
 |mp kk vk es =>
  have uU:=hr;simp only[aD,aL]at uU;obtain⟨A,hv,_⟩:=uU
  cases hv
  simp only[AV.cells,Value.cells,az];exact⟨_,[],by simp,hr,rfl⟩
 |fn f cap =>have uU:=hr;simp only[aD]at uU;obtain⟨vs,rfl,_⟩:=uU;simp only[AV.cells,Value.cells,az];exact⟨_,[],by simp,hr,rfl⟩
 |pC vs =>have uU:=hr;simp only[aD]at uU;obtain⟨us,rfl,_⟩:=uU;simp only[AV.cells,Value.cells,az];exact⟨_,[],by simp,hr,rfl⟩
def wj(Z:Nat→Prop)(ψ:Nat→Value)(h:Hp)(w:World):List (Nat×AV)→List (Nat×Value)→Prop
 |[],[]=>True
 |p::r,q::s=>p.1=q.1∧p.2≠.no∧aD Z ψ h w p.2 q.2∧wj Z ψ h w r s
 |_,_=>False
theorem KZ{place:Nat→Option (Nat×Nat)}:∀{ps:List (Nat×AV)} {qs:List (Nat×Value)} {cs cs':List AV} {cells:Array Value},wj Z ψ h w ps qs→az Z ψ h w cs cells.toList→Hr place cs ps=some cs' → ∃hY,Instr.fill place cells qs=some hY∧az Z ψ h w cs' hY.toList
 |[],[],cs,cs',cells,_,hr,hf=>by simp only[Hr]at hf;cases hf;exact⟨cells,rfl,hr⟩
 |[],_::_,_,_,_,hp,_,_=>hp.elim
 |_::_,[],_,_,_,hp,_,_=>hp.elim
 |(i,a)::ps,(j,v)::qs,cs,cs',cells,hp,hr,hf=>by
  obtain⟨rfl,ta,hv,hp⟩:=hp;simp only[Hr]at hf;simp only at ta hv;have T1:=hv.cells ta;have hl:=T1.length;have tL:=hr.length;simp only[Array.length_toList]at hl tL;simp only[Instr.fill]
  split at hf
  ·cases hf
  ·rename_i off size N0;simp only[N0]
   split at hf
   ·cases hf
   ·rename_i hc;have hc1:a.cells.length=size:=Decidable.not_not.1 (fun e=>hc (.inl e));have rp:¬off+a.cells.length>cs.length:=fun e=>hc (.inr e);rw[if_neg (by simp_all)];refine KZ hp ?_ hf;rw[BL,List.toList_toArray];exact T1.eU off hr
theorem Uo(fs:Array Field)(hi:∀f∈fs.toList,∃i,P.info? f.type=some i):(fs.mapM fun f=>do pure (f.offset,←sizeOf f.type):Sem (Array (Nat×Nat))).run P w=.ok (fs.map fun f=>(f.offset,P.cellsOf f.type)) w:=by
 rw[←Array.toArray_toList (xs:=fs)];generalize fs.toList=l at hi;have key:∀(l:List Field) (acc:Array (Nat×Nat)),(∀f∈l,∃i,P.info? f.type=some i) →(l.foldlM (fun(bs:Array (Nat×Nat)) f=>do let y ←(do pure (f.offset,←sizeOf f.type):Sem (Nat×Nat));pure (bs.push y)) acc:Sem (Array (Nat×Nat))).run P w=.ok (acc++(l.map fun f=>(f.offset,P.cellsOf f.type)).toArray) w:=by
  intro l
  induction l with
  |nil=>simp_all
  |cons f r ih =>simp_all [List.foldlM_cons,Sem.run_bind,dB,Result.andThen_ok,Sem.run_pure,List.mem_cons_of_mem]
 simp_all [Array.mapM_eq_foldlM,List.size_toArray,List.foldlM_toArray']
theorem Jg(v:Value):aD Z ψ h w (Ag v) v:=by
 cases v with
 |bool b=>simp only[Ag,aD]
 |int k n=>simp only[Ag,aD]
 |string s=>simp only[Ag,aD]
 |pointer a =>
  simp only[Ag];split
  ·rename_i e;subst e;simp only[aD]
  ·simp only[aD]
 |slice a n c =>
  simp only[Ag];split
  ·rename_i e;obtain⟨rfl,rfl,rfl⟩:=e;simp only[aD]
  ·simp only[aD]
 |func fn first cap =>
  cases fn with
  |func f =>
   simp only[Ag];split
   ·rename_i e;have h1:first=#[]:=aeN e.1
    have h2:cap=#[]:=aeN e.2;subst h1;subst h2;simp only[aD];exact⟨#[],rfl,by simp[az]⟩
   ·simp only[aD]
  |_=>simp only[Ag,aD]
 |_=>simp only[Ag,aD]
theorem DO:∀vs:List Value,az Z ψ h w (vs.map Ag) vs
 |[]=>by simp[az]
 |v::r=>by simp only[List.map_cons,az];exact⟨v,r,rfl,Jg v,DO r⟩
theorem K0(v:Value):aD Z ψ h w (w6 v) v:=by
 cases v with
 |agg cs=>simp only[w6,aD];exact⟨cs,rfl,DO _⟩
 |_=>simp only[w6];exact Jg _
theorem Hz(v:Value):(Ag v).cells=[Ag v]:=by
 cases v with
 |pointer a=>simp only[Ag];split<;>rfl
 |slice a n c=>simp only[Ag];split<;>rfl
 |func fn first cap =>
  cases fn with
  |func f=>simp only[Ag];split<;>rfl
  |_=>rfl
 |_=>rfl
theorem DP(v:Value):az Z ψ h w (w6 v).cells v.cells.toList:=by
 cases v with
 |agg cs=>grind [w6,AV.cells,Value.cells,DO]
 |_ =>simp only[w6];rw[Hz];simp only[az];exact⟨_,[],rfl,Jg _,rfl⟩
theorem rq{t:TypeId}{zs:List AV}(hz:Dt P t=some zs):∃i z,P.info? t=some i∧i.zero=some z∧zs=(w6 z).cells∧∀u∈z.cells.toList,u.oneCell'=true:=by
 unfold Dt at hz;obtain⟨i,hi,Ae⟩:=acY.1 hz;obtain⟨z,CQ,P0⟩:=acY.1 Ae
 grind
theorem tM{t:TypeId}{i:TypeInfo}{z:Value}(hi:P.info? t=some i)(hz:i.zero=some z):(zeroValue t).run P w=.ok z w:=by simp[zeroValue,typeInfo,hi,hz]
theorem RU{t:TypeId}{fs:Array Field}{zs cs:List AV}{ps:List (Nat×AV)}{qs:Array (Nat×Value)}(hz:Dt P t=some zs)(ht:P.underlying t=some (.struct fs))(je:fs.toList.all (fun f=>(P.info? f.type).isSome)=true) (hp:wj Z ψ h w ps qs.toList) (hf:Hr (fun i=>(fs[i]?).map fun f=>(f.offset,P.cellsOf f.type)) zs ps=some cs) :
  ∃V,(Instr.build t qs).run P w=.ok V w∧aD Z ψ h w (.agg cs) V:=by
 obtain⟨i,z,hi,hzz,rfl,_⟩:=rq hz;obtain⟨hY,h1,h2⟩:=KZ hp (DP z) hf;have N0:=Uo (P:=P) (w:=w) fs (fun f hf=>acK.1 (ac2.1 je f hf));refine⟨.agg hY,?_,by simp only[aD];exact⟨_,rfl,h2⟩⟩;have YD:Instr.fill (fun x=>(fs.map fun f=>(f.offset,P.cellsOf f.type))[x]?) z.cells qs.toList=some hY:=by rw[←h1];congr 1;funext x;simp
 simp only[Instr.build,Sem.run_bind,tM hi hzz,run_underlying ht,Result.andThen_ok,N0,YD];rfl
theorem N1:∀(k:K) (cs:List AV) (x:k.T) (r:List AV),dec k cs=some (x,r)→cs.head?≠some .no
 |.int ik,cs,x,r,h,hc=>by
  cases cs with
  |nil=>simp at hc
  |cons a s=>simp at hc;subst hc;simp[dec,I9]at h
 |.bool,cs,x,r,h,hc=>by
  cases cs with
  |nil=>simp at hc
  |cons a s=>simp at hc;subst hc;simp[dec,CJ]at h
 |.str,cs,x,r,h,hc=>by
  cases cs with
  |nil=>simp at hc
  |cons a s=>simp at hc;subst hc;simp[dec,Ja]at h
 |.sl k,cs,x,r,h,hc=>by
  cases cs with
  |nil=>simp at hc
  |cons a s=>simp at hc;subst hc;simp[dec,PU]at h
 |.pair a b,cs,x,r,h,hc=>by
  simp only[dec]at h
  split at h
  ·rename_i x1 r1 h1;exact N1 a cs x1 r1 h1 hc
  ·cases h
 |.one k,cs,x,r,h,hc=>by simp only[dec]at h;exact N1 k cs x r h hc
 |.mp kk vk,cs,x,r,h,hc=>by
  cases cs with
  |nil=>simp at hc
  |cons a s=>simp at hc;subst hc;simp[dec,PV]at h
 |.fn f,cs,x,r,h,hc=>by
  cases cs with
  |nil=>simp at hc
  |cons a s=>simp at hc;subst hc;simp[dec,PX]at h
theorem HA{k:K}{hh:Heap}{a:AV}{x:k.T}(h:dM k (a.cells.map (dp hh))=some x):a≠.no:=by
 rintro rfl;unfold dM at h
 split at h
 ·rename_i x' h1;exact N1 k _ _ _ h1 (by rfl)
 ·cases h
theorem K1{k:K}{hh:Heap}(g:Good Z ψ hh.get w B0 O)(hz:∀b,Z b→Z' b):∀{ps:List (Nat×AV)} {qs:List (Nat×Value)} {xs:List k.T} {i:Nat} {cells:Array Value},(∀p∈ps,∀id b,AV.bO id∈p.2.cells→hh.get id≠none→ob (ψ id)=some b→Z' b)→wj Z ψ hh.get w ps qs→tD k hh i ps=some xs→(i+ps.length)*k.sz≤cells.size → ∃hY flat,Instr.fill (fun i=>some (i*k.sz,k.sz)) cells qs=some hY∧hY.toList=cells.toList.take (i*k.sz)++flat++cells.toList.drop ((i+ps.length)*k.sz)∧flat.length=ps.length*k.sz∧lE Z' w k xs flat∧(∀q∈flat,q.oneCell'=true)∧xs.length=ps.length
 |[],[],xs,i,cells,_,_,hl,_=>by simp only[tD]at hl;cases hl;exact⟨cells,[],rfl,by simp,by simp,fun i x hx=>by simp at hx,by simp,rfl⟩
 |[],_::_,_,_,_,_,hp,_,_=>hp.elim
 |_::_,[],_,_,_,_,hp,_,_=>hp.elim
 |(j,a)::ps,(j',v)::qs,xs,i,cells,hb,hp,hl,hs=>by
  obtain⟨hjj,ta,hv,hp⟩:=hp;simp only at hjj ta hv;subst hjj;simp only[tD]at hl
  split at hl
  ·rename_i e;subst e
   split at hl
   ·rename_i y ys h1 h2
    cases hl
    simp only[List.length_cons]at hs;have T1:=hv.cells ta;have hvw:=qe g hz (hb (j,a) (by simp)) T1;have hk:=dN h1 hvw;have hkl:=hk.len;rw[Array.length_toList]at hkl;have iY:j*k.sz+k.sz≤cells.size:=by have:(j+1)*k.sz≤(j+(ps.length+1))*k.sz:=ab0 _ (by omega);rw[Nat.succ_mul]at this;omega
    simp only[Instr.fill];rw[if_neg (by simp only[Bool.or_eq_true,decide_eq_true_eq];omega),BL];obtain⟨hY,flat,h3,h4,h5,h6,h7,h8⟩:=K1 g hz (ps:=ps) (qs:=qs) (xs:=ys) (i:=j+1) (cells:=(eU cells.toList (j*k.sz) v.cells.toList).toArray) (fun p hp=>hb p (abg _ hp)) hp h2 (by rw[List.size_toArray,wi];have e9:cells.toList.length=cells.size:=Array.length_toList;rw[e9,show j+1+ps.length=j+(ps.length+1) by omega];exact hs);refine⟨hY,v.cells.toList++flat,h3,?_,?_,?_,?_,by simp[h8]⟩
    ·rw[h4,List.toList_toArray,uV _ _ _ (by rw[Array.length_toList,Array.length_toList];omega)];have e1:(j+1)*k.sz=j*k.sz+k.sz:=aeS _ _;have e2:(j+1+ps.length)*k.sz=(j+(ps.length+1))*k.sz:=by congr 1;omega
     rw[List.length_cons,e1,e2];have l1:(cells.toList.take (j*k.sz)++v.cells.toList).length=j*k.sz+k.sz:=by rw[List.length_append,List.length_take,Array.length_toList,Array.length_toList];omega
     rw[←l1,List.take_left];have l2:(j+(ps.length+1))*k.sz=(cells.toList.take (j*k.sz)++v.cells.toList).length+(ps.length*k.sz):=by rw[l1,Nat.add_mul,Nat.add_mul];omega
     have hd:(cells.toList.take (j*k.sz)++v.cells.toList++cells.toList.drop (j*k.sz+v.cells.toList.length)).drop ((j+(ps.length+1))*k.sz)=cells.toList.drop ((j+(ps.length+1))*k.sz):=by rw[l2,List.drop_append,List.drop_eq_nil_of_le (by omega),List.nil_append,Nat.add_sub_cancel_left,List.drop_drop];congr 1;rw[l1,Array.length_toList];omega
     rw[hd];simp[List.append_assoc]
    ·rw[List.length_append,h5,Array.length_toList,hkl,List.length_cons,Nat.succ_mul];omega
    ·intro n x hx
     cases n with
     |zero =>
      simp only[List.getElem?_cons_zero,Option.some.injEq]at hx;subst hx;have acF:v.cells.toList.length=k.sz:=by rw[Array.length_toList];exact hkl
      rw[Nat.zero_mul,List.drop_zero,←acF,List.take_left];exact hk
     |succ n =>
      have:=h6 n x (by simpa using hx);have acF:v.cells.toList.length=k.sz:=by rw[Array.length_toList];exact hkl
      have e:(n+1)*k.sz=v.cells.toList.length+n*k.sz:=by rw[acF,Nat.succ_mul];omega
      rw[e,List.drop_append,List.drop_eq_nil_of_le (by omega),List.nil_append,Nat.add_sub_cancel_left];exact this
    ·intro q hq;rcases abY.1 hq with hq|hq
     ·exact hk.one q hq
     ·exact h7 q hq
   ·cases hl
  ·cases hl
theorem Next.drop{Z1:Nat→Prop}{h1:Hp}(n:Next Z1 ψ h1 w B0 O N Z' ψ' h' w')(hz:∀b,Z b→Z1 b)(Ae:∀b,Z1 b→Z b∨Own ψ h b)(br:∀id o,h1 id=some o→h id=some o):Next Z ψ h w B0 O N Z' ψ' h' w':=by
 have hn:∀id,h1 id≠none→h id≠none:=fun id hn=>by obtain⟨o,ho⟩:=abP.1 hn;simp_all
 have ho:∀b,Own ψ h1 b→Own ψ h b:=fun b ⟨id,h2,h3⟩=>⟨id,hn id h2,h3⟩;refine⟨fun b hb=>n.g9 b (hz b hb),fun b hb=>?_,⟨n.keep.os,n.keep.tape,n.keep.output,n.keep.size,fun b hb ta=>n.keep.block b hb (fun h=>ta (ho b h))⟩,fun id bM=>(n.ids id bM).imp (fun⟨h2,h3⟩=>⟨hn id h2,h3⟩) (fun h=>h),n.du⟩;rcases n.fq b hb with h2|h2|h2
 ·grind
 ·simp_all
 omega
theorem wj.pJ{h h':Hp}(hs:∀id o,h' id=some o→h id=some o):∀{ps:List (Nat×AV)} {qs:List (Nat×Value)},wj Z ψ h w ps qs→wj Z ψ h' w ps qs:=by
 intro ps
 induction ps with
 |nil=>intro qs hp;cases qs with
  |nil=>trivial
  |cons q r=>exact hp.elim
 |cons p r ih=>intro qs hp;cases qs with
  |nil=>exact hp.elim
  |cons q s=>exact⟨hp.1,hp.2.1,hp.2.2.1.pJ hs,ih hp.2.2.2⟩
theorem K2{hh:Heap}{Z1:Nat→Prop}(g:Good Z1 ψ h w B0 O)(g0:Good Z ψ hh.get w B0 O)(hz:∀b,Z b→Z1 b)(hB:B0≤w.heap.size){id:Nat}(hN:N id){t e:TypeId}{k:K}{i:TypeInfo}{z:Value}(ht:P.underlying t=some (.slice e))(he:pI P e k i z) {ps:List (Nat×AV)} {qs:Array (Nat×Value)} {xs:List k.T} (hos:∀p∈ps,∀id b,AV.bO id∈p.2.cells→hh.get id≠none→ob (ψ id)=some b→Z1 b) (hp:wj Z ψ hh.get w ps qs.toList) (hl:tD k hh 0 ps=some xs) (hn:ps.length*k.sz≤1048576) (bm:∀i ty cs,h i=some (.box ty cs)→aF (fun i=>i≠id) cs) :
  ∃v' w',(Instr.buildSlice t ps.length qs).run P w=.ok v' w'∧Next Z1 ψ h w B0 O N Z1 (eI ψ id v') (eI h id (some (.own (.row e k) xs))) w'∧(v'.cells=#[v']∧v'.oneCell'=true)∧(∀b,Own ψ h b→w'.heap[b]? = w.heap[b]?)∧(∀b,ob v'=some b→w.heap.size≤b)∧∃A c,v'=.slice A c c:=by
 let P1:Array Value:=(Array.range (ps.length*k.sz)).map (z.cells[· % z.cells.size]!)
 have KH:P1.size=ps.length*k.sz:=by simp[P1]
 obtain⟨hY,flat,h1,h2,h3,h4,h5,h6⟩:=K1 (Z':=Z1) g0 hz (ps:=ps) (qs:=qs.toList) (xs:=xs) (i:=0) (cells:=P1) hos hp hl (by simp_all);have aoz:hY.toList=flat:=by simp_all
 have N2:hY.size=ps.length*k.sz:=by grind
 have GC:=k.iv;have hlen:ps.length≤1048576:=acR (Nat.le_mul_of_pos_right _ GC) hn;have s8:(w.alloc (.cells hY e)).ownsRow 0 e k.sz (.slice (some ⟨w.heap.size,0,none⟩) ps.length ps.length) xs.length flat:=by have:=World.ownsRow_lit (base:=0) (e:=e) (size:=k.sz) w hY ps.length (ac6 _) (by grind [maxLen]) N2;simp_all
 refine⟨.slice (some ⟨w.heap.size,0,none⟩) ps.length ps.length,w.alloc (.cells hY e),?_,qh g hB id e hN (vs:=flat) (dg.alloc _ _ _ _) (fun b hb=>heap_alloc_old w _ (g.bT hb)) (eE.of s8) (h4.DM ((dg.alloc ψ h w _).same g)) (fun b hb=>by simp_all [ob,Nat.le_refl]) bm,(eE.of s8).one,fun b hb=>heap_alloc_old w _ (g.bT hb),fun b hb=>by simp_all [ob,Nat.le_refl],_,_,rfl⟩
 ·show _=Result.ok (Value.slice (some ⟨w.heap.size,0,none⟩) ps.length ps.length) _;have qi:¬ps.length*k.sz>2 ^ 24:=by omega
  have hc:P.cellsOf e=k.sz:=by simp[Program.cellsOf,he.info,he.size]
  simp only[Instr.buildSlice,Sem.run_bind,run_underlying ht,Result.andThen_ok,dB he.info,hc];rw[if_neg qi];have DQ:(newRow e hY).run P w=.ok ⟨w.heap.size,0,none⟩ (w.alloc (.cells hY e)):=rfl;by_cases h0:ps.length*k.sz=0
  ·simp_all [Array.eq_empty_of_size_eq_zero,Array.range,if_pos,Sem.run_pure,Result.andThen_ok,Sem.run_bind]
  ·rw[if_neg h0];simp only[Sem.run_bind,tM he.info he.zero,Result.andThen_ok,Sem.run_pure];rw[show(Array.range (ps.length*k.sz)).map (fun x=>z.cells[x%z.cells.size]!)=P1 from rfl,h1];rfl
theorem Up(g:Good Z ψ h w B0 O)(hB:B0≤w.heap.size){id:Nat}{e:TypeId}{k:K}{xs:List k.T}{v':Value}(n:Next Z ψ h w B0 O N Z (eI ψ id v') (eI h id (some (.own (.row e k) xs))) w') (we:∀b,Own ψ h b→w'.heap[b]? = w.heap[b]?) (DQ:∀b,ob v'=some b→w.heap.size≤b) (hex:∃A c,v'=.slice A c c) :
  Next Z ψ h w B0 O N (fun b=>Z b∨ob v'=some b) ψ h w'∧aD (fun b=>Z b∨ob v'=some b) ψ h w' (.sl true k xs) v':=by
 have qf:j6 Z w' (.row e k) v' xs:=by
  have:=n.du.row id (.row e k) xs (bg _ _ _)
  rwa [bg]at this
 obtain⟨vs,ho,hv⟩:=qf;have m:Next Z ψ h w B0 O (fun _=>False) Z ψ h w':=g.more n.keep we (fun _ _=>⟨rfl,rfl⟩) (fun i ty cs hb=>by
  grind [aF.top]) (fun _ _ _ h=>h.elim) (fun _ _ _ h=>h.elim) (fun _ _ h=>h.elim) (fun _ _ _ h=>h.elim) hB
 have hz:∀b,Z b→Z b∨ob v'=some b:=fun b h=>.inl h;refine⟨⟨hz,fun b hb=>hb.imp (fun h=>h) fun h=>.inr (DQ b h),m.keep,fun i hi=>.inl ((m.ids i hi).resolve_right (fun h=>h)),⟨fun i ty cs hb=>?_,fun i ok x hb=>?_,fun i b h1 h2=>?_,m.du.apart,fun b hb=>?_⟩⟩,?_⟩
 ·obtain⟨gg,vs,f1,f2,f3,f4⟩:=m.du.box i ty cs hb;exact⟨gg,vs,f1,f2,az.less hz (cG.refl _ _) (fun _ h=>⟨h,rfl⟩) f3,f4⟩
 ·exact(m.du.row i ok x hb).kept hz (cG.refl _ _) (fun _ _=>rfl)
 ·obtain⟨k1,k2⟩:=m.du.live i b h1 h2;refine⟨fun hb=>hb.elim k1 fun hb=>?_,k2⟩;have:=g.bT ⟨i,h1,h2⟩
  grind
 ·rcases hb with hb|hb
  ·exact m.du.kO b hb
  ·exact j6.lt (ok:=.row e k) ⟨vs,ho,hv⟩ hb
 grind [aD,yh]
end Go.Vs
