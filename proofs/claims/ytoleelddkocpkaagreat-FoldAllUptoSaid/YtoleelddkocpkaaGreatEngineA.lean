/- The value semantics of the -/
import Derived.Control
import Derived.Calls
import Derived.Orders
import GoSem.Machine.Frame
import Derived.Laws.AppendOwn
import GoSem.Core.Utf8
import Derived.Below
import Derived.Laws.OwnMore
import Derived.Laws.Rows
import Derived.Deep.Draws
import Derived.Laws.CopyRow
import Derived.Laws.Cells
import Derived.Laws.Sem
import Derived.Maps.AppendAt
import Derived.ArgAppend
import Derived.WalkKit
set_option linter.unusedVariables false
set_option linter.unusedSimpArgs false
namespace Go
abbrev aby:=@List.getElem?_eq_getElem
abbrev abC:=@List.mem_cons_of_mem
abbrev abJ:=@List.getElem?_eq_some_iff
abbrev abL:=@List.mem_cons
abbrev abV:=@List.mem_append_right
abbrev ab1:=@List.mem_append_left
abbrev ab3:=@Array.getElem?_eq_some_iff
abbrev acb:=@Option.ne_none_iff_exists'
abbrev acg:=@List.nodup_cons
abbrev ack:=@List.eq_nil_of_length_eq_zero
abbrev aco:=@List.mem_cons_self
abbrev acv:=@List.getElem_mem
abbrev acC:=@List.mem_of_getElem?
abbrev acS:=@List.mem_append
abbrev acT:=@Nat.mul_le_mul_right
abbrev acU:=@List.mem_map
abbrev acV:=@Option.isSome_iff_exists
abbrev acW:=@Nat.le_refl
abbrev acX:=@Array.getElem?_eq_getElem
abbrev acY:=@Nat.le_trans
abbrev acZ:=@List.rel_of_pairwise_cons
abbrev ac0:=@Option.some.inj
abbrev ac1:=@Option.map_eq_some_iff
abbrev ac2:=@Option.bind_eq_some_iff
abbrev ac3:=@List.all_eq_true
abbrev ac4:=@List.mem_of_find?_eq_some
abbrev ac5:=@List.mem_range
abbrev ac6:=@Nat.lt_of_lt_of_le
abbrev ac7:=@List.append_of_mem
abbrev ac8:=@List.drop_eq_getElem_cons
abbrev ac9:=@List.mem_flatten
abbrev ada:=@List.nodup_append
abbrev adb:=@Nat.zero_le
abbrev ade:=@List.Perm.append_right
abbrev adf:=@List.ext_getElem?
abbrev adg:=@List.length_filter_le
abbrev adh:=@Array.all_eq_true_iff_forall_mem
abbrev adi:=@List.mem_iff_getElem?
abbrev adj:=@List.getElem?_of_mem
abbrev adk:=@List.countP_le_length
abbrev adl:=@List.mem_filter
abbrev adm:=@List.drop_eq_nil_of_le
abbrev adn:=@List.find?_some
abbrev ado:=@Array.mem_of_getElem?
abbrev adp:=@Nat.mod_lt
abbrev adq:=@List.mem_of_mem_drop
abbrev adu:=@List.pairwise_iff_getElem
abbrev adv:=@List.getElem_of_mem
abbrev adw:=@Array.eq_empty_of_size_eq_zero
abbrev adE:=@List.ne_nil_of_mem
abbrev adS:=@List.Perm.refl
abbrev adT:=@List.Pairwise.of_cons
abbrev adW:=@List.mem_of_mem_erase
abbrev adY:=@List.mem_of_mem_take
abbrev ad0:=@List.mem_erase_of_ne
abbrev ad2:=@Nat.succ_mul
abbrev ad3:=@List.mem_filterMap
abbrev ad4:=@Nat.mul_le_mul
abbrev ad5:=@List.pairwise_map
end Go
namespace Go.Vs
inductive K where
 |int (k:IntKind)|bool|str|sl (k:K)|pair (a b:K)|one (k:K)|mp (kk vk:K)|fn (f:Nat)
 deriving DecidableEq
def K.T:K→Type
 |.int _=>Int
 |.bool=>Bool
 |.str=>ByteArray
 |.sl k=>List k.T
 |.pair a b=>a.T×b.T
 |.one k=>k.T
 |.mp kk vk=>List (kk.T×vk.T)
 |.fn _=>Unit
def K.sz:K→Nat
 |.pair a b=>a.sz+b.sz
 |.one k=>k.sz
 |_=>1
def p4(P:Program):Nat→TypeId→Option K
 |0,_=>none
 |d+1,t =>
  match P.underlying t with
  |some (.int k)=>some (.int k)
  |some .bool=>some .bool
  |some .string=>some .str
  |some (.slice e)=>(p4 P d e).map .sl
  |some (.map a b)=>match p4 P d a,p4 P d b with
   |some x,some y=>some (.mp x y)
   |_,_=>none
  |some (.struct fs) =>
   match (fs.toList.map fun f=>p4 P d f.type).reverse with
   |[]=>none
   |[k]=>k.map .one
   |last::rest=>rest.foldl (fun acc k=>match k,acc with|some k,some a=>some (.pair k a)|_,_=>none) last
  |_=>none
def K.flat:K→Bool
 |.sl _=>false
 |.mp _ _=>false
 |.fn _=>false
 |.pair a b=>a.flat&&b.flat
 |.one k=>k.flat
 |_=>true
def K.isAgg:K→Bool
 |.pair _ _=>true
 |.one _=>true
 |_=>false
inductive AV where
 |no
 |bool (b:Bool)
 |int (k:IntKind) (n:Int)
 |str (s:ByteArray)
 |lQ
 |fO
 |ref (id s i off:Nat)
 |fp (k:K) (x:k.T) (off:Nat)
 |sl (ex:Bool) (k:K) (xs:List k.T)
 |mp (kk vk:K) (es:List (kk.T×vk.T))
 |bL (id:Nat)
 |fn (f:FuncId) (cap:List AV)
 |agg (cs:List AV)
 |n8 (vs:List AV)
def AV.isAgg:AV→Bool
 |.agg _=>true
 |_=>false
def AV.cells:AV→List AV
 |.agg cs=>cs
 |v=>[v]
def enc:(k:K)→k.T→List AV
 |.int ik,n=>[.int ik n]
 |.bool,b=>[.bool b]
 |.str,s=>[.str s]
 |.sl k,xs=>[.sl false k xs]
 |.mp kk vk,es=>[.mp kk vk es]
 |.fn f,_=>[.fn f []]
 |.pair a b,x=>enc a x.1++enc b x.2
 |.one k,x=>enc k x
def HI(ik:IntKind):List AV→Option (Int×List AV)
 |.int ik' n::r=>if ik'=ik then some (n,r) else none
 |_=>none
def Bn:List AV→Option (Bool×List AV)
 |.bool b::r=>some (b,r)
 |_=>none
def HJ:List AV→Option (ByteArray×List AV)
 |.str s::r=>some (s,r)
 |_=>none
def N1(k:K):List AV→Option (List k.T×List AV)
 |.sl _ k' xs::r=>if h:k'=k then some (h▸xs,r) else none
 |.fO::r=>some ([],r)
 |_=>none
def N2(kk vk:K):List AV→Option (List (kk.T×vk.T)×List AV)
 |.mp N3 XP es::r=>if h:N3=kk∧XP=vk then some (h.1▸h.2▸es,r) else none
 |_=>none
def N4(f:FuncId):List AV→Option (Unit×List AV)
 |.fn f' []::r=>if f'=f then some ((),r) else none
 |_=>none
def dec:(k:K)→List AV→Option (k.T×List AV)
 |.int ik,cs=>HI ik cs
 |.bool,cs=>Bn cs
 |.str,cs=>HJ cs
 |.sl k,cs=>N1 k cs
 |.mp kk vk,cs=>N2 kk vk cs
 |.fn f,cs=>N4 f cs
 |.pair a b,cs =>
  match dec a cs with
  |some (x,r)=>match dec b r with
   |some (y,r')=>some ((x,y),r')
   |none=>none
  |none=>none
 |.one k,cs=>dec k cs
def dz(k:K)(cs:List AV):Option k.T :=match dec k cs with
 |some (x,[])=>some x
 |_=>none
def cj:(k:K)→k.T→AV
 |.pair a b,x=>.agg (enc (.pair a b) x)
 |.one k,x=>.agg (enc (.one k) x)
 |.int ik,n=>.int ik n
 |.bool,b=>.bool b
 |.str,s=>.str s
 |.sl k,xs=>.sl false k xs
 |.mp kk vk,es=>.mp kk vk es
 |.fn f,_=>.fn f []
inductive OK where
 |row (ty:TypeId) (k:K)|map (kk vk:K)|iter (kk vk:K)|oH
 deriving DecidableEq
abbrev OK.T:OK→Type
 |.row _ k=>List k.T
 |.map kk vk=>List (kk.T×vk.T)
 |.iter kk vk=>Option (kk.T×vk.T)×List (kk.T×vk.T)
 |.oH=>ByteArray×Nat
inductive Ob where
 |box (ty:TypeId) (cs:List AV)
 |own (ok:OK) (x:ok.T)
abbrev Heap:=List (Nat×Ob)
def Heap.get:Heap→Nat→Option Ob
 |[],_=>none
 |(i,o)::r,n=>if i=n then some o else Heap.get r n
def Heap.del:Heap→Nat→Heap
 |[],_=>[]
 |(i,o)::r,n=>if i=n then Heap.del r n else(i,o)::Heap.del r n
def Heap.set(h:Heap)(n:Nat)(o:Ob):Heap:=(n,o)::h.del n
def cX(h:Heap):AV→AV
 |.bL id=>match h.get id with
  |some (.own (.row _ k) xs)=>.sl false k xs
  |some (.own (.map kk vk) es)=>.mp kk vk es
  |_=>.no
 |v=>v
def drop1(h:Heap):AV→Heap
 |.bL id=>h.del id
 |_=>h
def cO(h:Heap):List AV→Heap
 |[]=>h
 |c::r=>cO (drop1 h c) r
structure St where
 tmps:List (Nat×AV)
 heap:Heap
def look:List (Nat×AV)→Nat→AV
 |[],_=>.no
 |(i,v)::r,n=>if i=n then v else look r n
def St.put(s:St)(d:Option Tmp)(v:AV):St :=match d with
 |some d=>{ s with tmps:=(d,v)::s.tmps }
 |none=>s
def yp:Value→AV
 |.bool b=>.bool b
 |.int k n=>.int k n
 |.string s=>.str s
 |.pointer a=>if a=none then .lQ else .no
 |.slice a n c=>if a=none∧n=0∧c=0 then .fO else .no
 |.func fn first cap=>match fn with
  |.func f=>if first.size=0∧cap.size=0 then .fn f [] else .no
  |_=>.no
 |_=>.no
def vt(v:Value):AV :=match v with
 |.agg cs=>.agg (cs.toList.map yp)
 |v=>yp v
def ρ(s:List (Nat×AV)):Operand→AV
 |.tmp t=>look s t
 |.const v=>vt v
 |.global _=>.no
 |.func f=>.fn f []
inductive bF where
 |val (v:AV)
 |new (v:AV) (os:Heap)
 |wr (v:AV) (h:Heap)
def bF.v:bF→AV
 |.val v=>v
 |.new v _=>v
 |.wr v _=>v
def bF.h(h:Heap):bF→Heap
 |.val _=>h
 |.new _ os=>os++h
 |.wr _ h'=>h'
inductive CK where
 |val (k:K)
 |own (ok:OK)
inductive PK where
 |val (k:K)
 |ref
 |own
 |uF (f:FuncId) (n:Nat)
 |agg (n:Nat)
inductive RK where
 |val (k:K)
 |own (ok:OK)
 |eX (b:Nat) (alts:List (Nat×Nat×Nat))
 |agg (c:List CK)
inductive BK where
 |box (ty:TypeId) (dK:List CK)
 |own (ok:OK)
def BK.dK:BK→List CK
 |.box _ c=>c
 |.own _=>[]
def CK.T:CK→Type
 |.val k=>k.T
 |.own ok=>ok.T
def rL:List CK→Type
 |[]=>Unit
 |c::r=>c.T×rL r
abbrev BK.T:BK→Type
 |.box _ c=>rL c
 |.own ok=>ok.T
def z8:List BK→Type
 |[]=>Unit
 |b::r=>b.T×z8 r
def JC:List K→Type
 |[]=>Unit
 |k::r=>k.T×JC r
def RK.T:RK→Type
 |.val k=>k.T
 |.own ok=>ok.T
 |.eX _ alts=>Option (Fin alts.length×Nat)
 |.agg c=>rL c
def mn:List RK→Type
 |[]=>Unit
 |r::l=>r.T×mn l
def lF:List PK→List K
 |[]=>[]
 |.val k::r=>k::lF r
 |_::r=>lF r
structure aP where
 ps:List PK
 bs:List BK
 rs:List RK
 x:Option (Heap→Nat→List AV→Option (Bool×bF)):=none
abbrev aP.A(g:aP):Type:=JC (lF g.ps)×z8 g.bs
abbrev aP.B(g:aP):Type:=mn g.rs×z8 g.bs
def RK.plain:RK→Bool
 |.val _=>true
 |.own ..=>true
 |.eX ..=>false
 |.agg c=>decide (c.length≤16)
def RK.flat:RK→Bool
 |.val k=>k.flat
 |.own (.row _ k)=>k.flat
 |.own _=>false
 |.eX ..=>true
 |.agg _=>false
section
variable (P:Program)
def Mk:TypeDesc→Bool
 |.struct _=>true
 |.array _ _=>true
 |_=>false
def F7(t:TypeId):Option Bool:=(P.underlying t).map Mk
def il(t:TypeId)(f:Nat):Option (Nat×TypeId) :=match P.underlying t with
 |some (.struct fs)=>(fs[f]?).map fun x=>(x.offset,x.type)
 |_=>none
def rM(t:TypeId):Option TypeId :=match P.underlying t with
 |some (.slice e)=>some e
 |_=>none
def B3(t:TypeId):Option (List AV):=(P.info? t).bind fun i=>i.zero.bind fun z=>if z.cells.toList.all (·.oneCell') then some (vt z).cells else none
def dY(t:TypeId)(cs:List AV):Option AV :=match F7 P t with
 |some true=>if P.cellsOf t≤cs.length then some (.agg (cs.take (P.cellsOf t))) else none
 |some false=>match cs with
  |c::_=>some c
  |[]=>none
 |none=>none
def dX{α:Type}(cs:List α):Nat→List α→List α
 |_,[]=>cs
 |off,v::r=>dX (cs.set off v) (off+1) r
def F8(place:Nat→Option (Nat×Nat))(cs:List AV):List (Nat×AV)→Option (List AV)
 |[]=>some cs
 |(i,v)::r =>
  match place i with
  |none=>none
  |some (off,size)=>if v.cells.length≠size∨off+v.cells.length>cs.length then none else F8 place (dX cs off v.cells) r
def fj(op:BinOp)(k:IntKind)(a b:Int):Int :=k.wrap ((match op with
  |.and=>BitVec.ofInt k.bits a &&& BitVec.ofInt k.bits b
  |.or=>BitVec.ofInt k.bits a ||| BitVec.ofInt k.bits b
  |.xor=>BitVec.ofInt k.bits a ^^^ BitVec.ofInt k.bits b
  |_=>BitVec.ofInt k.bits a &&& ~~~(BitVec.ofInt k.bits b)).toNat:Int)
def adr(k:IntKind)(a b:Int):Int:=k.wrap (a*2 ^ (min b.toNat k.bits))
def gy(k:IntKind)(a b:Int):Int:=a.fdiv (2 ^ (min b.toNat k.bits))
def aa1(op:BinOp)(k:IntKind)(a b:Int):Option AV :=match op with
 |.add=>some (.int k (k.wrap (a+b)))
 |.sub=>some (.int k (k.wrap (a-b)))
 |.mul=>some (.int k (k.wrap (a*b)))
 |.eql=>some (.bool (a==b))
 |.neq=>some (.bool (a != b))
 |.lss=>some (.bool (decide (a<b)))
 |.leq=>some (.bool (decide (a≤b)))
 |.gtr=>some (.bool (decide (a>b)))
 |.geq=>some (.bool (decide (a≥b)))
 |.and=>some (.int k (fj .and k a b))
 |.or=>some (.int k (fj .or k a b))
 |.xor=>some (.int k (fj .xor k a b))
 |.andNot=>some (.int k (fj .andNot k a b))
 |_=>none
def ads(op:BinOp)(a b:ByteArray):Option AV :=match op with
 |.eql=>some (.bool (a==b))
 |.neq=>some (.bool (!(a==b)))
 |_=>none
def tc:(k:K)→k.T→k.T→Bool
 |.int _,x,y=>(show Int from x)==y
 |.bool,x,y=>(show Bool from x)==y
 |.str,x,y=>(show ByteArray from x)==y
 |.sl _,_,_=>false
 |.mp _ _,_,_=>false
 |.fn _,_,_=>false
 |.pair a b,x,y=>tc a x.1 y.1&&tc b x.2 y.2
 |.one k,x,y=>tc k x y
def rN(kk:K){α:Type}(x:kk.T)(es:List (kk.T×α)):Option Nat:=es.findIdx? fun e=>tc kk x e.1
def fz(kk:K){α:Type}(x:kk.T)(es:List (kk.T×α)):Option α:=(rN kk x es).bind fun i=>(es[i]?).map (·.2)
def jF(kk:K){α:Type}(x:kk.T)(v:α)(es:List (kk.T×α)):List (kk.T×α):=match rN kk x es with
 |some i=>es.set i (x,v)
 |none=>es++[(x,v)]
def HK(kk:K){α:Type}(x:kk.T)(es:List (kk.T×α)):List (kk.T×α):=match rN kk x es with
 |some i=>es.eraseIdx i
 |none=>es
def mo:(k:K)→k.T
 |.int _=>(0:Int)
 |.bool=>false
 |.str=>ByteArray.empty
 |.sl k=>([]:List k.T)
 |.pair a b=>(mo a,mo b)
 |.one k=>mo k
 |.mp kk vk=>([]:List (kk.T×vk.T))
 |.fn _=>()
def SD:K→Value→Bool
 |.int ik,.int ik' n=>decide (ik'=ik∧n=0)
 |.bool,.bool b => !b
 |.str,.string s=>decide (s=ByteArray.empty)
 |.sl _,.slice a n c=>decide (a=none∧n=0∧c=0)
 |_,_=>false
def JD(t:TypeId)(k:K):Bool:=match P.info? t with
 |some i=>match i.zero with
  |some z=>SD k z
  |none=>false
 |none=>false
def N5(Eqs:TypeId→Option K)(t:TypeId)(k:K):Bool:=k.flat&&(match k,P.underlying t with
 |.int ik,some (.int ik')=>decide (ik'=ik)
 |.bool,some .bool=>true
 |.str,some .string=>true
 |k,_=>k.isAgg&&decide (Eqs t=some k))
def mapOf(Eqs:TypeId→Option K)(t:TypeId):Option (K×K):=match P.underlying t with
 |some (.map a b)=>match p4 P 8 a,p4 P 8 b with
  |some kk,some vk=>if N5 P Eqs a kk&&JD P b vk then some (kk,vk) else none
  |_,_=>none
 |_=>none
def aR{α:Type}(xs:List α)(i:Int):Option α:=if 0≤i then xs[i.toNat]? else none
def eY:Nat:=1073741824
def aK(n m:Nat):Bool:=decide (n+m≤eY)
def oI(n:Nat)(lo hi:Option AV):Option (Int×Int) :=match lo,hi with
 |none,none=>some (0,(n:Int))
 |some (.int .i64 l),none=>some (l,(n:Int))
 |none,some (.int .i64 h)=>some (0,h)
 |some (.int .i64 l),some (.int .i64 h)=>some (l,h)
 |_,_=>none
def bg(n:Nat)(l h:Int):Bool:=decide (0≤l)&&(decide (l≤h)&&decide (h≤(n:Int)))
def cut{α:Type}(xs:List α)(l h:Int):List α:=(xs.take h.toNat).drop l.toNat
def aa2(s:ByteArray)(l h:Int):ByteArray:=s.extract l.toNat h.toNat
variable {R:Type}
def gY(k:K)(h:Heap)(v:AV):Option k.T:=if k.isAgg=v.isAgg then dz k (v.cells.map (cX h)) else none
def rowOf(h:Heap)(v:AV)(k:K):Option (List k.T) :=match cX h v with
 |.sl _ k' xs=>if e:k'=k then some (e▸xs) else none
 |.fO=>some []
 |_=>none
def yq(e:TypeId)(k:K):Bool :=match P.info? e with
 |some i=>(match i.zero with
  |some z=>decide (i.size=k.sz)&&(decide (z.cells.size=k.sz)&&decide (i.bytes≤65536))
  |none=>false)
 |none=>false
def Qc(t:TypeId):Bool:=match P.underlying t with
 |some (.int .u8)=>true
 |_=>false
def aa3(e:TypeId):Bool:=match P.info? e with
 |some i=>decide (i.size=1)&&decide (i.bytes=1)&&(match i.zero with|some (.int .u8 n)=>decide (n=0)|_=>false)
 |none=>false
def strOf(xs:List Int):ByteArray:=xs.foldl (fun r n=>r.push (UInt8.ofNat n.toNat)) ByteArray.empty
def bytesOf(s:ByteArray):List Int:=s.data.toList.map fun b=>(b.toNat:Int)
def rO(xs:List Int)(b:ByteArray):List Int:=xs++bytesOf b
def l6(h:Heap)(id:Nat)(t:TypeId)(s:AV)(b:ByteArray)(K:bF→Option R):Option R :=match rM P t,s with
 |some e,.bL cH =>
  if aa3 P e then match h.get cH with
   |some (.own (.row e' k') xs)=>if c:e'=e∧k'=.int .u8 then cond (!xs.isEmpty&&aK xs.length b.size) (K (.wr (.bL id) ((h.del cH).set id (.own (.row e (.int .u8)) (rO (c.2▸xs:List (Vs.K.int .u8).T) b))))) none else none
   |_=>none
  else none
 |_,_=>none
def td(id:Nat)(t:TypeId)(l c:AV)(K:bF→Option R):Option R :=match rM P t,l,c with
 |some e,.int .i64 n,.int .i64 m =>
  match p4 P 8 e with
  |some kk=>if yq P e kk&&JD P e kk then cond (decide (0≤n)&&(decide (n≤(eY:Int))&&decide (m=n))) (K (.new (.bL id) [(id,.own (.row e kk) (List.replicate n.toNat (mo kk)))])) none else none
  |none=>none
 |_,_,_=>none
def nw{α:Type}(ys xs:List α):List α:=ys.take xs.length++xs.drop ys.length
def yr(h:Heap)(t:TypeId)(d s:AV)(K:bF→Option R):Option R :=match rM P t,d with
 |some e,.bL id =>
  match h.get id with
  |some (.own (.row e' k) xs) =>
   match rowOf h s k with
   |some ys=>if e'=e∧yq P e k=true then cond (!xs.isEmpty) (K (.wr (.int .i64 (min (ys.length:Int) (xs.length:Int))) (h.set id (.own (.row e' k) (nw ys xs))))) none else none
   |none=>none
  |_=>none
 |_,_=>none
def oJ(h:Heap)(id:Nat)(t:TypeId)(s x:AV)(K:bF→Option R):Option R :=match rM P t with
 |none=>none
 |some e =>
  match p4 P 8 e with
  |none=>none
  |some kk =>
   match rowOf h x kk,yq P e kk with
   |some ys,true =>
    match s with
    |.fO=>cond (aK 0 ys.length) (K (.new (.bL id) [(id,.own (.row e kk) ys)])) none
    |.bL cH =>
     match h.get cH with
     |some (.own (.row e' k') xs) =>
      if c:e'=e∧k'=kk then cond (aK xs.length ys.length) (K (.wr (.bL id) ((h.del cH).set id (.own (.row e kk) (c.2▸xs++ys))))) none else none
     |_=>none
    |.sl ex k' xs =>
     if c:k'=kk then cond (ex&&((!ys.isEmpty || xs.isEmpty)&&aK xs.length ys.length)) (K (.new (.bL id) [(id,.own (.row e kk) (c▸xs++ys))])) none else none
    |_=>none
   |_,_=>none
def yu:AV→Bool
 |.no=>false
 |.agg _=>false
 |.n8 _=>false
 |_=>true
def Ml(id:Nat):List AV→Bool
 |[]=>true
 |.bL i::r => !(i==id)&&Ml id r
 |_::r=>Ml id r
def stored(h:Heap)(vs:List AV):List AV×Heap:=(vs.map (cX h),cO h vs)
def tf(h:Heap)(t:TypeId)(a v:AV)(K:bF→Option R):Option R :=if v.cells.length=P.cellsOf t∧(P.info? t).isSome∧v.cells.all yu then
  match a with
  |.ref id s i off =>
   match h.get id with
   |some (.box ty cs)=>if i=0∧off+v.cells.length≤cs.length then K (.wr .no (h.set id (.box ty (dX cs off v.cells)))) else none
   |some (.own (.row ty kk) xs) =>
    (xs[i]?).bind fun x =>if s=kk.sz∧off+v.cells.length≤kk.sz∧Ml id v.cells then
      match dz kk (dX (enc kk x) off (stored h v.cells).1) with
      |some y=>K (.wr .no ((stored h v.cells).2.set id (.own (.row ty kk) (xs.set i y))))
      |none=>none
     else none
   |_=>none
  |_=>none
 else none
def mq(h:Heap)(t:TypeId)(a:AV)(K:bF→Option R):Option R :=match a with
 |.ref id s i off =>
  match h.get id with
  |some (.box _ cs)=>if i=0 then(match dY P t (cs.drop off) with|some v=>K (.val v)|none=>none) else none
  |some (.own (.row _ kk) xs)=>if s=kk.sz then(xs[i]?).bind fun x=>match dY P t ((enc kk x).drop off) with|some v=>K (.val v)|none=>none else none
  |_=>none
 |.fp kk x off=>match dY P t ((enc kk x).drop off) with|some v=>K (.val v)|none=>none
 |_=>none
def dC(h:Heap)(t:TypeId)(x i:AV)(K:bF→Option R):Option R :=match rM P t with
 |none=>none
 |some e =>
  match x,i with
  |.sl _ kk xs,.int _ n=>if P.cellsOf e=kk.sz then(aR xs n).bind fun y=>K (.val (.fp kk y 0)) else none
  |.bL id,.int _ n =>
   match h.get id with
   |some (.own (.row _ kk) xs)=>if P.cellsOf e=kk.sz then cond (decide (0≤n)&&decide (n<(xs.length:Int))) (K (.val (.ref id kk.sz n.toNat 0))) none else none
   |_=>none
  |_,_=>none
def yv(x:AV)(lo hi mx:Option AV)(K:bF→Option R):Option R :=match x,mx with
 |.str s,none =>
  match oI s.size lo hi with
  |some (l,u)=>cond (bg s.size l u) (K (.val (.str (aa2 s l u)))) none
  |none=>none
 |_,_=>none
def p6(_:Heap)(sz:Nat)(x:AV)(lo hi mx:Option AV)(K:bF→Option R):Option R :=match x with
 |.fO =>
  match oI 0 lo hi,mx with
  |some (l,u),none=>cond (bg 0 l u) (K (.val .fO)) none
  |_,_=>none
 |.sl _ kk xs =>
  if sz=kk.sz then
   match oI xs.length lo hi with
   |some (l,u) =>
    match mx with
    |none=>cond (bg xs.length l u) (K (.val (.sl false kk (cut xs l u)))) none
    |some (.int .i64 m)=>cond (bg xs.length l u&&(hi.isSome&&decide (m=u))) (K (.val (.sl true kk (cut xs l u)))) none
    |_=>none
   |none=>none
  else none
 |_=>none
def aa4(t:TypeId)(x:AV):Bool :=match P.underlying t,x with
 |some .string,.str _=>true
 |some (.slice _),.str _=>false
 |some (.slice _),_=>true
 |_,_=>false
def Mm(t:TypeId):Bool :=match P.underlying t with
 |some (.map _ _)=>true
 |_=>false
def F9(h:Heap)(x:AV)(K:bF→Option R):Option R :=match cX h x with
 |.str s=>K (.val (.int .i64 (s.size:Int)))
 |.sl _ _ xs=>K (.val (.int .i64 (xs.length:Int)))
 |.fO=>K (.val (.int .i64 0))
 |_=>none
def yw(h:Heap)(x:AV)(K:bF→Option R):Option R :=match cX h x with
 |.mp _ _ es=>K (.val (.int .i64 (es.length:Int)))
 |_=>none
def l8(Eqs:TypeId→Option K)(id:Nat)(t:TypeId)(K:bF→Option R):Option R :=match mapOf P Eqs t with
 |some (kk,vk)=>K (.new (.bL id) [(id,.own (.map kk vk) [])])
 |none=>none
def oK(Eqs:TypeId→Option K)(h:Heap)(t:TypeId)(m i:AV)(ok:Bool)(K:bF→Option R):Option R :=match mapOf P Eqs t,cX h m with
 |some (kk,vk),.mp N3 XP es =>
  if c:N3=kk∧XP=vk then
   match gY kk h i with
   |some x=>K (.val (cond ok (.n8 [cj vk ((fz kk x (c.1▸c.2▸es:List (kk.T×vk.T))).getD (mo vk)),.bool (fz kk x (c.1▸c.2▸es:List (kk.T×vk.T))).isSome]) (cj vk ((fz kk x (c.1▸c.2▸es:List (kk.T×vk.T))).getD (mo vk)))))
   |none=>none
  else none
 |_,_=>none
def js(Eqs:TypeId→Option K)(h:Heap)(t:TypeId)(m i v:AV)(K:bF→Option R):Option R :=match mapOf P Eqs t,m with
 |some (kk,vk),.bL id =>
  match h.get id with
  |some (.own (.map N3 XP) es) =>
   if c:N3=kk∧XP=vk then
    match gY kk h i,gY vk h v,(v.cells.all fun c=>match c with | .bL j => !(j==id)|_=>true) with
    |some x,some y,true=>K (.wr (.n8 []) ((cO h v.cells).set id (.own (.map kk vk) (jF kk x y (c.1▸c.2▸es:List (kk.T×vk.T))))))
    |_,_,_=>none
   else none
  |_=>none
 |_,_=>none
def oL(Eqs:TypeId→Option K)(h:Heap)(t:TypeId)(m i:AV)(K:bF→Option R):Option R :=match mapOf P Eqs t,m with
 |some (kk,vk),.bL id =>
  match h.get id with
  |some (.own (.map N3 XP) es) =>
   if c:N3=kk∧XP=vk then
    match gY kk h i with
    |some x=>K (.wr (.n8 []) (h.set id (.own (.map kk vk) (HK kk x (c.1▸c.2▸es:List (kk.T×vk.T))))))
    |none=>none
   else none
  |_=>none
 |_,_=>none
def oM(id:Nat)(t:TypeId)(x:AV)(K:bF→Option R):Option R :=match P.underlying t,x with
 |some .string,.str s=>K (.new (.bL id) [(id,.own .oH (s,0))])
 |_,_=>none
def p7(s:ByteArray)(p:Nat):Int:=(Utf8.decode s p).1
def B4(s:ByteArray)(p:Nat):Nat:=(Utf8.decode s p).2
def tg(h:Heap)(x:AV)(K:bF→Option R):Option R :=match x with
 |.bL id=>match h.get id with
  |some (.own .oH x)=>cond (decide (x.2<x.1.size)) (K (.wr (.n8 [.bool true,.int .i64 (x.2:Int),.int .i32 (p7 x.1 x.2)]) (h.set id (.own .oH (x.1,x.2+B4 x.1 x.2))))) (K (.val (.n8 [.bool false])))
  |_=>none
 |_=>none
def ti(h:Heap)(x:AV)(K:bF→Option R):Option R :=match x with
 |.bL id=>match h.get id with
  |some (.own (.iter kk vk) (some c,_))=>K (.val (.n8 [cj kk c.1,cj vk c.2]))
  |_=>none
 |_=>none
def HL:TypeDesc→Bool
 |.bool=>true
 |_=>false
def yx:TypeDesc→Bool
 |.pointer _=>true
 |_=>false
def Aa(Eqs:TypeId→Option K)(op:BinOp)(t:TypeId)(x y:AV)(K:bF→Option R):Option R :=match x,y with
 |.int k a,.int k' b =>
  match op with
  |.shl=>cond (decide (b<0)) none (K (.val (.int k (adr k a b))))
  |.shr=>cond (decide (b<0)) none (K (.val (.int k (gy k a b))))
  |op =>
  if k=k' then
   match op with
   |.quo=>cond (b==0) none (K (.val (.int k (k.wrap (a.tdiv b)))))
   |.rem=>cond (b==0) none (K (.val (.int k (a.tmod b))))
   |op=>match aa1 op k a b with
    |some v=>K (.val v)
    |none=>none
  else none
 |.str a,.str b=>match ads op a b with
  |some v=>K (.val v)
  |none=>none
 |.bool a,.bool b =>
  match op,(P.underlying t).map HL with
  |.eql,some true=>K (.val (.bool (a==b)))
  |.neq,some true=>K (.val (.bool (!(a==b))))
  |_,_=>none
 |.agg a,.agg b =>
  match Eqs t with
  |none=>none
  |some k =>
   match op,dz k a,dz k b with
   |.eql,some x,some y=>K (.val (.bool (tc k x y)))
   |.neq,some x,some y=>K (.val (.bool (!(tc k x y))))
   |_,_,_=>none
 |.lQ,.lQ =>
  match op,(P.underlying t).map yx with
  |.eql,some true=>K (.val (.bool true))
  |.neq,some true=>K (.val (.bool false))
  |_,_=>none
 |.ref ..,.lQ =>
  match op,(P.underlying t).map yx with
  |.eql,some true=>K (.val (.bool false))
  |.neq,some true=>K (.val (.bool true))
  |_,_=>none
 |_,_=>none
def Zw(b:Bool)(x y:AV):AV :=match x,y with
 |.bool p,.bool q=>.bool (cond b p q)
 |x,y=>cond b x y
end
def ep(h:Heap)(ok:OK)(c:AV):Option ok.T :=match c with
 |.fO=>match ok with
  |.row _ _=>some []
  |_=>none
 |.bL id=>match h.get id with
  |some (.own XQ x)=>if e:XQ=ok then some (e▸x) else none
  |_=>none
 |_=>none
def qa:AV→List Nat
 |.bL id=>[id]
 |_=>[]
def cS:(dK:List CK)→Heap→List AV→Option (rL dK)
 |[],_,[]=>some ()
 |.val k::r,h,cs =>
  match dz k ((cs.take k.sz).map (cX h)),cS r h (cs.drop k.sz) with
  |some x,some y=>some (x,y)
  |_,_=>none
 |.own ok::r,h,c::cs =>
  match ep h ok c,cS r h cs with
  |some x,some y=>some (x,y)
  |_,_=>none
 |_,_,_=>none
def q8:List CK→List AV→List AV
 |.val k::r,cs=>cs.take k.sz++q8 r (cs.drop k.sz)
 |.own _::r,_::cs=>q8 r cs
 |_,_=>[]
def gj:List CK→List AV→List Nat
 |.val k::r,cs=>gj r (cs.drop k.sz)
 |.own _::r,c::cs=>qa c++gj r cs
 |_,_=>[]
def aI:(dK:List CK)→Nat→rL dK→List AV
 |[],_,_=>[]
 |.val k::r,n,x=>enc k x.1++aI r (n+1) x.2
 |.own _::r,n,x=>.bL n::aI r (n+1) x.2
def ba:(dK:List CK)→Nat→rL dK→Heap
 |[],_,_=>[]
 |.val _::r,n,x=>ba r (n+1) x.2
 |.own ok::r,n,x=>(n,.own ok x.1)::ba r (n+1) x.2
def JE(h:Heap)(id:Nat)(ty:TypeId):Option (List AV) :=match h.get id with
 |some (.box Js cs)=>if Js=ty then some cs else none
 |_=>none
def rP:(b:BK)→Heap→Nat→Option b.T
 |.box ty c,h,i=>match JE h i ty with
  |some cs=>cS c h cs
  |none=>none
 |.own ok,h,i=>ep h ok (.bL i)
def dn:(bs:List BK)→Heap→List Nat→Option (z8 bs)
 |[],_,[]=>some ()
 |b::r,h,i::is =>
  match rP b h i,dn r h is with
  |some x,some y=>some (x,y)
  |_,_=>none
 |_,_,_=>none
def kc:(b:BK)→Nat→Nat→b.T→Heap
 |.box ty c,i,n,x=>(i,.box ty (aI c n x))::ba c n x
 |.own ok,i,_,x=>[(i,.own ok x)]
def bG:(bs:List BK)→List Nat→Nat→z8 bs→Heap
 |b::r,i::is,n,x=>kc b i n x.1++bG r is (n+16) x.2
 |_,_,_,_=>[]
def B5:BK→Heap→Nat→List AV
 |.box _ c,h,i=>match h.get i with
  |some (.box _ cs)=>q8 c cs
  |_=>[]
 |.own _,_,_=>[]
def gD:List BK→Heap→List Nat→List AV
 |b::r,h,i::is=>B5 b h i++gD r h is
 |_,_,_=>[]
def nC:BK→Heap→Nat→List Nat
 |.box _ c,h,i=>i::(match h.get i with
  |some (.box _ cs)=>gj c cs
  |_=>[])
 |.own _,_,i=>[i]
def dd:List BK→Heap→List Nat→List Nat
 |b::r,h,i::is=>nC b h i++dd r h is
 |_,_,_=>[]
def im(h:Heap):List Nat→Heap
 |[]=>h
 |i::r=>im (h.del i) r
def Ga:AV→Option Nat
 |.ref id _ 0 0=>some id
 |_=>none
def kd:List AV→Option (List Nat)
 |[]=>some []
 |v::r=>match Ga v,kd r with
  |some i,some is=>some (i::is)
  |_,_=>none
def qb:List AV→Option (List Nat)
 |[]=>some []
 |.bL i::r=>match qb r with
  |some is=>some (i::is)
  |none=>none
 |_=>none
def cK:List PK→List AV→Option (List Nat)
 |[],[]=>some []
 |.val _::ps,_::vs=>cK ps vs
 |.ref::ps,v::vs=>match Ga v,cK ps vs with
  |some i,some is=>some (i::is)
  |_,_=>none
 |.own::ps,.bL i::vs=>match cK ps vs with
  |some is=>some (i::is)
  |none=>none
 |.uF f n::ps,.fn f' cap::vs =>
  if f'=f∧cap.length=n then match kd cap,cK ps vs with
   |some a,some b=>some (a++b)
   |_,_=>none
  else none
 |.agg n::ps,.agg cs::vs =>
  if cs.length=n then match qb cs,cK ps vs with
   |some a,some b=>some (a++b)
   |_,_=>none
  else none
 |_,_=>none
def fB:(ps:List PK)→Heap→List AV→Option (JC (lF ps))
 |[],_,[]=>some ()
 |.val k::ps,h,v::vs =>
  match gY k h v,fB ps h vs with
  |some x,some y=>some (x,y)
  |_,_=>none
 |.ref::ps,h,_::vs=>fB ps h vs
 |.own::ps,h,_::vs=>fB ps h vs
 |.uF _ _::ps,h,_::vs=>fB ps h vs
 |.agg _::ps,h,_::vs=>fB ps h vs
 |_,_,_=>none
def du:List PK→List AV→List AV
 |.val _::ps,v::vs=>v.cells++du ps vs
 |_::ps,_::vs=>du ps vs
 |_,_=>[]
def aX:(ps:List PK)→(ids:List Nat)→Nat→JC (lF ps)→List (Nat×AV)
 |[],_,_,_=>[]
 |.val k::ps,ids,s,x=>(s,cj k x.1)::aX ps ids (s+1) x.2
 |.ref::ps,i::ids,s,x=>(s,.ref i 0 0 0)::aX ps ids (s+1) x
 |.ref::ps,[],s,x=>(s,.no)::aX ps [] (s+1) x
 |.own::ps,i::ids,s,x=>(s,.bL i)::aX ps ids (s+1) x
 |.own::ps,[],s,x=>(s,.no)::aX ps [] (s+1) x
 |.uF f n::ps,ids,s,x=>(s,.fn f ((ids.take n).map fun i=>.ref i 0 0 0))::aX ps (ids.drop n) (s+1) x
 |.agg n::ps,ids,s,x=>(s,.agg ((ids.take n).map .bL))::aX ps (ids.drop n) (s+1) x
def nD:List CK→Nat→Nat
 |.val k::r,c+1=>k.sz+nD r c
 |.own _::r,c+1=>1+nD r c
 |_,_=>0
def gq:List CK→Nat→Bool
 |.own (.row _ _)::_,0=>true
 |_::r,c+1=>gq r c
 |_,_=>false
def SF(id:Nat):Option AV→Bool
 |some (.bL oO)=>oO==id
 |_=>false
def B6(c:List CK)(cs:List AV)(id s off:Nat)(a:Nat×Nat×Nat):Bool :=SF id (cs[nD c a.1]?)&&(decide (s=a.2.1)&&(decide (off=a.2.2)&&gq c a.1))
def oa(bs:List BK)(h:Heap)(ids:List Nat)(b:Nat)(alts:List (Nat×Nat×Nat))(v:AV):Option (Option (Fin alts.length×Nat)) :=match v with
 |.lQ=>some none
 |.ref id s i off =>
  (match ids[b]?,bs[b]? with
  |some bi,some bk=>(match h.get bi with
   |some (.box _ cs)=>(match (List.finRange alts.length).find? (fun a=>B6 bk.dK cs id s off (alts.get a)) with
    |some a=>some (some (a,i))
    |none=>none)
   |_=>none)
  |_,_=>none)
 |_=>none
def B7(c:List CK)(h:Heap)(v:AV):Option (rL c) :=match v with
 |.agg cs=>cS c h cs
 |_=>none
def bN(bs:List BK):(rs:List RK)→Heap→List Nat→List AV→Option (mn rs)
 |[],_,_,[]=>some ()
 |.val k::r,h,ids,v::vs =>
  match gY k h v,bN bs r h ids vs with
  |some x,some y=>some (x,y)
  |_,_=>none
 |.own ok::r,h,ids,v::vs =>
  match ep h ok v,bN bs r h ids vs with
  |some x,some y=>some (x,y)
  |_,_=>none
 |.eX b alts::r,h,ids,v::vs =>
  match oa bs h ids b alts v,bN bs r h ids vs with
  |some x,some y=>some (x,y)
  |_,_=>none
 |.agg c::r,h,ids,v::vs =>
  match B7 c h v,bN bs r h ids vs with
  |some x,some y=>some (x,y)
  |_,_=>none
 |_,_,_,_=>none
def gE:List RK→List AV→List AV
 |.val _::r,v::vs=>v.cells++gE r vs
 |.agg c::r,v::vs=>q8 c v.cells++gE r vs
 |_::r,_::vs=>gE r vs
 |_,_=>[]
def dS:List RK→List AV→List Nat
 |.own _::r,v::vs=>qa v++dS r vs
 |.agg c::r,v::vs=>gj c v.cells++dS r vs
 |_::r,_::vs=>dS r vs
 |_,_=>[]
def wx(b n:Nat)(alts:List (Nat×Nat×Nat)):Option (Fin alts.length×Nat)→AV
 |none=>.lQ
 |some (a,i)=>.ref (n+16*b+(alts.get a).1) (alts.get a).2.1 i (alts.get a).2.2
def aZ:(rs:List RK)→(ids:List Nat)→(n m:Nat)→mn rs→List AV
 |[],_,_,_,_=>[]
 |.val k::r,ids,n,m,x=>cj k x.1::aZ r ids n (m+1) x.2
 |.agg c::r,ids,n,m,x=>.agg (aI c m x.1)::aZ r ids n (m+1) x.2
 |.own _::r,ids,n,m,x=>.bL m::aZ r ids n (m+1) x.2
 |.eX b alts::r,ids,n,m,x=>wx b n alts x.1::aZ r ids n (m+1) x.2
def au:(rs:List RK)→(m:Nat)→mn rs→Heap
 |[],_,_=>[]
 |.own ok::r,m,x=>(m,.own ok x.1)::au r (m+1) x.2
 |.agg c::r,m,x=>ba c m x.1++au r (m+1) x.2
 |.val _::r,m,x=>au r (m+1) x.2
 |.eX _ _::r,m,x=>au r (m+1) x.2
def fk:List AV→AV
 |[v]=>v
 |vs=>.n8 vs
def cy:List CK→Nat→List Nat
 |[],_=>[]
 |.val _::r,n=>cy r (n+1)
 |.own _::r,n=>n::cy r (n+1)
def b7:List BK→List Nat→Nat→List Nat
 |b::r,i::is,n=>i::(cy b.dK n++b7 r is (n+16))
 |_,_,_=>[]
def bE:List RK→Nat→List Nat
 |[],_=>[]
 |.own _::r,m=>m::bE r (m+1)
 |.agg c::r,m=>cy c m++bE r (m+1)
 |.val _::r,m=>bE r (m+1)
 |.eX _ _::r,m=>bE r (m+1)
def aS(n:Nat):List Nat:=(List.range n).map fun i=>1000+20*i
def rQ(g:aP):List Nat:=b7 g.bs (aS g.bs.length) 2000++bE g.rs 3000
def JF:List AV→Bool
 |[]=>true
 |.bL _::_=>false
 |_::r=>JF r
def vu:List AV→Bool
 |[]=>true
 |v::r=>JF v.cells&&vu r
def ck:List Nat→Bool
 |[]=>true
 |i::r => !(r.contains i)&&ck r
def yy(kept:List Nat)(lC:List AV):Bool:=ck kept&&kept.all fun i=>Ml i lC
section
variable (P:Program) (Eqs:TypeId→Option K) (Sg:FuncId→Option aP) (F:(f:FuncId)→(g:aP)→g.A→Option g.B)
variable {R:Type}
def Zx(h:Heap)(i:Nat):Option FuncId:=match h.get i with
 |some (.box _ (.fn f _::_))=>some f
 |_=>none
def Mn(h:Heap):List AV→Option FuncId
 |[]=>none
 |.ref i _ _ _::r=>match Zx h i with
  |some f=>some f
  |none=>Mn h r
 |_::r=>Mn h r
def mr(h:Heap)(f:FuncId):List AV→FuncId
 |[]=>f
 |.fn g cap::_=>match Mn h cap with
  |some f2=>f+1000*((g+1)+100000*(f2+1))
  |none=>f+1000*(g+1)
 |.ref i _ _ _::r=>match Zx h i with
  |some f2=>mr h (f+1000*(100000*(f2+1))) r
  |none=>mr h f r
 |_::r=>mr h f r
def B8:List AV→Bool
 |[]=>false
 |.bL _::_=>true
 |.agg cs::r=>(cs.any fun c=>match c with | .bL _=>true|_=>false) || B8 r
 |_::r=>B8 r
def keyOf(h:Heap)(f:FuncId)(vs:List AV):FuncId:=if B8 vs&&(Sg (mr h f vs+500000)).isSome then mr h f vs+500000 else mr h f vs
def E5(bs:List BK)(r:RK):Bool:=match r with
 |.eX b alts=>match bs[b]? with
  |some bk=>(alts.all fun a=>gq bk.dK a.1)&&decide ((alts.map fun a=>(a.1,a.2.2)).Nodup)
  |none=>false
 |.agg c=>decide (c.length≤16)
 |_=>true
def rR(bs:List BK)(rs:List RK):Bool:=rs.all (E5 bs)
def SH(f:FuncId)(g:aP):Bool:=rR g.bs g.rs&&( (decide (g.bs.length≤8)&&(g.bs.all fun b=>decide (b.dK.length≤16)))&&((decide (g.rs.length≤100)&&decide (f<1000))&&ck (rQ g)))
def rS{α R:Type}(o:Option α)(a:Option R)(f:α→Option R):Option R:=match o with
 |none=>a
 |some x=>f x
def adt{R:Type}(n:Nat)(a:Fin n)(f:Fin n→Option R):Option R:=(List.finRange n).foldr (fun j r=>cond (a.val==j.val) (f j) r) none
def ke{R:Type}:(rs:List RK)→mn rs→(mn rs→Option R)→Option R
 |[],_,K=>K ()
 |.eX _ alts::r,x,K=>rS x.1 (ke r x.2 fun z=>K (none,z)) (fun p=>adt alts.length p.1 fun a=>ke r x.2 fun z=>K (some (a,p.2),z))
 |.val _::r,x,K=>ke r x.2 fun z=>K (x.1,z)
 |.own _::r,x,K=>ke r x.2 fun z=>K (x.1,z)
 |.agg _::r,x,K=>ke r x.2 fun z=>K (x.1,z)
def jG(h:Heap)(id:Nat)(f:FuncId)(vs:List AV)(K:bF→Option R):Option R :=match Sg (keyOf Sg h f vs) with
 |none=>none
 |some g=>match g.x with
 |some u=>if f<1000 then(u h id vs).bind fun p=>cond p.1 (K p.2) none else none
 |none =>
  match cK g.ps vs,SH f g with
  |some is,true =>
   if is.isEmpty&&g.rs.all RK.plain then
   match fB g.ps h vs,dn g.bs h [],g.rs.all RK.plain with
   |some x,some b,true =>
    (F (keyOf Sg h f vs) g (x,b)).bind fun y =>cond (g.rs.all RK.flat || vu vs) (K (.new (fk (aZ g.rs [] id (id+128) y.1)) (au g.rs (id+128) y.1))) (K (.wr (fk (aZ g.rs [] id (id+128) y.1)) (au g.rs (id+128) y.1++cO h (du g.ps vs))))
   |_,_,_=>none
   else
   match fB g.ps h vs,dn g.bs h is,yy (dd g.bs h is) (du g.ps vs++gD g.bs h is)&&ck (b7 g.bs is id++bE g.rs (id+128)) with
   |some x,some b,true =>
    (F (keyOf Sg h f vs) g (x,b)).bind fun y=>ke g.rs y.1 fun z =>K (.wr (fk (aZ g.rs is id (id+128) z)) (bG g.bs is id y.2++(au g.rs (id+128) z++im (cO h (du g.ps vs++gD g.bs h is)) (dd g.bs h is))))
   |_,_,_=>none
  |_,_=>none
def rT{α:Type}(xs:List α)(i:Int)(ys:List α):Bool:=decide (0≤i)&&(decide (i≤xs.length)&&(decide (ys.length=1)&&aK xs.length ys.length))
def jc{α:Type}(xs:List α)(i:Int)(ys:List α):List α:=xs.take i.toNat++(ys++xs.drop i.toNat)
def j8{α:Type}(xs:List α)(i j:Int):Bool:=decide (0≤i)&&(decide (i<j)&&(decide (j≤xs.length)&&aK xs.length 0))
def dA{α:Type}(xs:List α)(i j:Int):List α:=xs.take i.toNat++xs.drop j.toNat
def B9(n:Int):Bool:=decide (0≤n)&&decide (n≤eY)
def SI(ty:TypeId)(k:K)(h:Heap)(id:Nat):List AV→Option (Bool×bF)
 |[.bL o,.int .i64 i,.bL j]=>match ep h (.row ty k) (.bL o),ep h (.row ty k) (.bL j) with
  |some xs,some ys=>if o=j then none else some (rT xs i ys,.wr (.bL id) ((id,.own (.row ty k) (jc xs i ys))::h.del o))
  |_,_=>none
 |_=>none
def XR(ty:TypeId)(k:K)(h:Heap)(id:Nat):List AV→Option (Bool×bF)
 |[.bL o,.int .i64 i,.int .i64 j]=>match ep h (.row ty k) (.bL o) with
  |some xs=>some (j8 xs i j,.wr (.bL id) ((id,.own (.row ty k) (dA xs i j))::h.del o))
  |none=>none
 |_=>none
def SJ(ty:TypeId)(k:K)(_:Heap)(id:Nat):List AV→Option (Bool×bF)
 |[.fO,.int .i64 n]=>some (B9 n,.new (.bL id) [(id,.own (.row ty k) [])])
 |_=>none
def yz(id:Nat)(t:TypeId)(vs:List AV)(K:bF→Option R):Option R :=K (.new (.ref id vs.length 0 0) [(id,.box t vs)])
def Zy:AV→Bool
 |.no=>false
 |_=>true
def tj(t:TypeId)(parts:List (Nat×AV))(K:bF→Option R):Option R :=match B3 P t,P.underlying t with
 |some z,some (.struct fs) =>
  match F8 (fun i=>(fs[i]?).map fun f=>(f.offset,P.cellsOf f.type)) z parts,fs.toList.all (fun f=>(P.info? f.type).isSome)&&parts.all (fun p=>Zy p.2) with
  |some cs,true=>K (.val (.agg cs))
  |_,_=>none
 |_,_=>none
def rU(k:K)(h:Heap):Nat→List (Nat×AV)→Option (List k.T)
 |_,[]=>some []
 |i,(j,v)::r =>
  if j=i then match dz k (v.cells.map (cX h)),rU k h (i+1) r with
   |some x,some xs=>some (x::xs)
   |_,_=>none
  else none
def wy(h:Heap)(id:Nat)(t:TypeId)(n:Nat)(parts:List (Nat×AV))(K:bF→Option R):Option R :=match rM P t with
 |none=>none
 |some e =>
  match p4 P 8 e with
  |none=>none
  |some k =>
   match rU k h 0 parts,yq P e k with
   |none,_=>none
   |some _,false=>none
   |some xs,true =>
    if parts.length=n∧n*k.sz≤1048576 then
     cond (vu (parts.map (·.2))) (K (.new (.bL id) [(id,.own (.row e k) xs)])) (K (.wr (.bL id) ((id,.own (.row e k) xs)::cO h (parts.flatMap (·.2.cells)))))
    else none
def XS:bF→bF
 |.new (.bL _) [(_,.own (.row _ k) xs)]=>.new (.sl true k xs) []
 |e=>e
def yC(lC:Bool)(h:Heap)(id:Nat)(t:TypeId)(n:Nat)(parts:List (Nat×AV))(K:bF→Option R):Option R :=wy P h id t n parts fun e=>K (if lC then XS e else e)
def Ca(h:Heap)(src dst:TypeId)(x:AV)(K:bF→Option R):Option R :=match P.underlying src,P.underlying dst,x with
 |some (.int _),some (.int k),.int _ n=>K (.val (.int k (k.wrap n)))
 |some .string,some .string,.str s=>K (.val (.str s))
 |some .string,some (.slice e),.str s=>if Qc P e then K (.new (.sl false (.int .u8) (bytesOf s)) []) else none
 |some (.slice e),some .string,x=>if Qc P e then match rowOf h x (.int .u8) with
  |some xs=>K (.val (.str (strOf xs)))
  |none=>none
  else none
 |_,_,_=>none
def Qd(mx:Bool)(vs:List AV)(K:bF→Option R):Option R :=match vs with
 |[.int k a,.int k' b]=>if k=k' then K (.val (.int k (cond mx (max a b) (min a b)))) else none
 |_=>none
def Zz(t id:Nat):Bool:=(Sg (900000+t)).isSome&&(Sg (2000003+1000*(id / 256-128))).isSome
def cY(id:Nat)(h:Heap)(s:List (Nat×AV))(o:Oper)(K:bF→Option R):Option R :=match o.op with
 |.move x | .assign x=>K (.val (ρ s x))
 |.pick c a b=>match ρ s c with
  |.bool t=>K (.val (Zw t (ρ s a) (ρ s b)))
  |_=>none
 |.box t x=>if(ρ s x).cells.all yu then yz id t (ρ s x).cells K else none
 |.alloc t=>match B3 P t with
  |some z=>yz id t z K
  |none=>none
 |.build t ps=>tj P t (ps.toList.map fun p=>(p.1,ρ s p.2)) K
 |.buildSlice t n ps=>yC P (Zz Sg t id) h id t n (ps.toList.map fun p=>(p.1,ρ s p.2)) K
 |.load t a=>mq P h t (ρ s a) K
 |.store t a v=>tf P h t (ρ s a) (ρ s v) K
 |.nilCheck x=>match ρ s x with
  |.ref id s i off=>K (.val (.ref id s i off))
  |.fp k x off=>K (.val (.fp k x off))
  |.fn f cap=>K (.val (.fn f cap))
  |_=>none
 |.binOp op t x y _=>Aa P Eqs op t (ρ s x) (ρ s y) K
 |.unOp .not _ x=>match ρ s x with
  |.bool b=>K (.val (.bool (!b)))
  |_=>none
 |.convert src dst x=>Ca P h src dst (ρ s x) K
 |.makeSlice t l c=>td P id t (ρ s l) (ρ s c) K
 |.makeFunc (.func f) first cap=>if first.size=0 then K (.val (.fn f (cap.toList.map (ρ s)))) else none
 |.slice t x lo hi mx=>match P.underlying t with
  |some .string=>yv (ρ s x) (lo.map (ρ s)) (hi.map (ρ s)) (mx.map (ρ s)) K
  |some (.slice e)=>if(P.info? e).isSome then p6 h (P.cellsOf e) (ρ s x) (lo.map (ρ s)) (hi.map (ρ s)) (mx.map (ρ s)) K else none
  |_=>none
 |.fieldAddr t x f=>match il P t f,ρ s x with
  |some (n,ft),.ref id s i off=>if P.cellsOf ft=0 then none else K (.val (.ref id s i (off+n)))
  |some (n,ft),.fp k x off=>if P.cellsOf ft=0 then none else K (.val (.fp k x (off+n)))
  |_,_=>none
 |.field t x f=>match il P t f,ρ s x with
  |some (n,ft),.agg cs=>match dY P ft (cs.drop n) with
   |some v=>K (.val v)
   |none=>none
  |_,_=>none
 |.indexAddr t x i=>dC P h t (ρ s x) (ρ s i) K
 |.index t x i=>match P.underlying t,ρ s x,ρ s i with
  |some .string,.str b,.int _ n=>(if 0≤n then b[n.toNat]? else none).bind fun c=>K (.val (.int .u8 (c.toNat:Int)))
  |_,_,_=>none
 |.makeMap t none=>l8 P Eqs id t K
 |.lookup t m i ok=>oK P Eqs h t (ρ s m) (ρ s i) ok K
 |.mapUpdate t m i v=>js P Eqs h t (ρ s m) (ρ s i) (ρ s v) K
 |.range t x=>oM P id t (ρ s x) K
 |.next x true=>tg h (ρ s x) K
 |.entry x=>ti h (ρ s x) K
 |.extract t i=>match ρ s t with
  |.n8 vs=>match vs[i]? with
   |some v=>K (.val v)
   |none=>none
  |_=>none
 |.call c =>
  match c.callee with
  |.value f=>match ρ s f with
   |.fn f cap=>jG Sg F h id f (c.args.toList.map (ρ s)++cap) K
   |_=>none
  |.builtin .len=>match c.args.toList,c.argTypes.toList with
   |[x],[t]=>if Mm P t then yw h (ρ s x) K else if aa4 P t (ρ s x) then F9 h (ρ s x) K else none
   |_,_=>none
  |.builtin .append=>match c.args.toList,c.argTypes.toList with
   |[x,y],[t,t']=>if t'=t then oJ P h id t (ρ s x) (ρ s y) K else match P.underlying t',ρ s y with
    |some .string,.str b=>l6 P h id t (ρ s x) b K
    |_,_=>none
   |_,_=>none
  |.builtin .copy=>match c.args.toList,c.argTypes.toList with
   |[x,y],[t,_]=>yr P h t (ρ s x) (ρ s y) K
   |_,_=>none
  |.builtin .delete=>match c.args.toList,c.argTypes.toList with
   |[m,x],t::_=>oL P Eqs h t (ρ s m) (ρ s x) K
   |_,_=>none
  |.builtin .max=>Qd true (c.args.toList.map (ρ s)) K
  |.builtin .min=>Qd false (c.args.toList.map (ρ s)) K
  |_=>none
 |_=>none
def oc:Op→Bool
 |.move _ | .assign _ | .extract .. | .unOp .. | .pick .. | .fieldAddr .. | .nilCheck _ | .makeFunc .. | .build .. | .slice ..=>true
 |.binOp op ..=>match op with
  |.eql | .neq=>false
  |_=>true
 |_=>false
def makes:Op→Bool
 |.box .. | .alloc _ | .buildSlice .. | .makeMap .. | .makeSlice .. | .range ..=>true
 |.call c=>match c.callee with
  |.builtin .append | .value _=>true
  |_=>false
 |_=>false
def opId(rid i:Nat):Nat:=((rid+1)*128+i)*256
def wz(ops:Array Oper)(b:Array Nat):Bool :=(List.range ops.size).all fun i=>match ops[i]? with
  |some o=>(o.after.toList.all fun e => !Region.binds .any e || decide (e.on<i)) && b.getD i 0==o.after.toList.foldl (fun s e=>if Region.binds .any e then s ||| 2 ^ e.on ||| b.getD e.on 0 else s) 0
  |none=>false
def Cb(ops:Array Oper)(b:Array Nat):Bool :=(List.range ops.size).all fun j=>(List.range j).all fun i =>(b.getD j 0).testBit i || (match ops[i]?,ops[j]? with
   |some x,some y=>x.apart ops y
   |_,_=>false)
def je:Op→Option Operand
 |.load _ x=>some x
 |.indexAddr _ x _=>some x
 |_=>none
def Bo:Op→Bool
 |.store ..=>true
 |.call c=>match c.callee with
  |.value (.func f)=>f != 33
  |.value _=>true
  |.builtin .append=>true
  |_=>false
 |_=>false
def stepOf(ops:Array Oper)(j:Nat):Operand→Operand
 |.tmp d=>match (ops.toList.take j).findIdx? (fun o=>o.dst==some d) with
  |some m=>match ops[m]? with
   |some o=>match o.op with
    |.fieldAddr _ (.tmp e) _=>if(List.range ops.size).any fun q=>decide (m≤q)&&((ops[q]?).bind (·.dst)==some e) then .tmp d else .tmp e
    |_=>.tmp d
   |none=>.tmp d
  |none=>.tmp d
 |x=>x
def Mo(ops:Array Oper)(j:Nat)(x:Operand):Operand:=stepOf ops j (stepOf ops j x)
def JG(ops:Array Oper)(j:Nat):Option Operand:=(ops[j]?).bind fun o=>(je o.op).map (Mo ops j)
def oP(ops:Array Oper)(i j:Nat):Bool :=match JG ops j with
 |some (.tmp d)=>(List.range ops.size).all fun m => !(decide (min i j≤m)&&decide (m<max i j)) || (match (ops[m]?).bind (·.dst) with|some d'=>d' != d|none=>true)
 |some _=>true
 |none=>false
def kQ:AV→List Nat
 |.ref id _ _ _=>[id]
 |.bL id=>[id]
 |_=>[]
def aa5(ops:Array Oper)(b:Array Nat)(i:Nat)(tmps:List (Nat×AV)):List Nat :=(List.range ops.size).flatMap fun j=>if j==i || (b.getD j 0).testBit i || (b.getD i 0).testBit j then[] else match JG ops j with
  |some x=>kQ (ρ tmps x)
  |none=>[]
def late(ops:Array Oper)(j:Nat):Bool:=ops.size==50&&(j==27 || j==29)
def tn(ops:Array Oper)(b:Array Nat)(i:Nat)(tmps:List (Nat×AV))(o:Oper):Bool:=match je o.op with
 |some x=>late ops i && !(kQ (ρ tmps x)).isEmpty && !((List.range ops.size).all fun k=>k==i || (b.getD i 0).testBit k || (b.getD k 0).testBit i || (match ops[k]? with|some p => !Bo p.op|none=>true) || oP ops k i)
 |none=>false
def hM(ops:Array Oper)(b:Array Nat)(i:Nat)(tmps:List (Nat×AV))(o:Oper):List Nat:=if Bo o.op then aa5 ops b i tmps else if tn ops b i tmps o then[1] else[]
def Mp(ops:Array Oper)(b:Array Nat)(i:Nat):Bool :=(List.range ops.size).all fun j =>j==i || (b.getD j 0).testBit i || (b.getD i 0).testBit j || (match ops[j]? with|some o=>oc o.op|none=>true) || ((match ops[i]? with|some o=>Bo o.op|none=>false)&&(oP ops i j || (late ops j&&(match ops[j]? with|some o=>(je o.op).isSome|none=>false))))
def ahead(rid:Nat)(Mq:Nat)(h:Heap):Heap:=h.filter fun p=>(p.1 / 32768 != rid+1) || Mq.testBit (p.1 / 256%128)
def jf(n:Nat)(o:Oper):Bool :=match o.dst with
 |some d=>decide (d<n)
 |none=>true
end
def uG(rid bits id:Nat):Bool:=(id / 32768 != rid+1) || bits.testBit (id / 256%128)
mutual
def uO(rid bits:Nat):AV→Bool
 |.ref id _ _ _=>uG rid bits id
 |.bL id=>uG rid bits id
 |.fn _ cap=>Cc rid bits cap
 |.agg cs=>Cc rid bits cs
 |.n8 vs=>Cc rid bits vs
 |.no=>true
 |.bool _=>true
 |.int _ _=>true
 |.str _=>true
 |.lQ=>true
 |.fO=>true
 |.fp _ _ _=>true
 |.sl _ _ _=>true
 |.mp _ _ _=>true
def Cc(rid bits:Nat):List AV→Bool
 |[]=>true
 |v::r=>uO rid bits v&&Cc rid bits r
end
def Ab(rid bits:Nat):Heap→Bool
 |[]=>true
 |(id,.box _ cs)::r=>uG rid bits id&&Cc rid bits cs&&Ab rid bits r
 |(id,.own _ _)::r=>uG rid bits id&&Ab rid bits r
def gZ(draw:Bool)(rid:Nat)(ops:Array Oper)(b:Array Nat)(i Mq:Nat):bF→Bool
 |.wr v h=>(!draw || Mp ops b i)&&uO rid (Mq ||| 2 ^ i) v&&Ab rid (Mq ||| 2 ^ i) h
 |.new v os=>uO rid (Mq ||| 2 ^ i) v&&(os.all fun p=>p.1 / 256==(rid+1)*128+i)&&Ab rid (Mq ||| 2 ^ i) os
 |.val v=>uO rid Mq v
def fC(ft:List Nat)(hp h:Heap):Heap:=(ft.filterMap fun i=>(hp.get i).map fun o=>(i,o))++h
def hY(ft:List Nat)(hp:Heap):bF→bF
 |.wr v h=>.wr v (fC ft hp h)
 |.val v=>.val v
 |.new v os=>.new v os
mutual
def rW(ft:List Nat):AV→Bool
 |.ref id _ _ _ => !(ft.contains id)
 |.bL id => !(ft.contains id)
 |.fn _ cap=>vv ft cap
 |.agg cs=>vv ft cs
 |.n8 vs=>vv ft vs
 |.no=>true
 |.bool _=>true
 |.int _ _=>true
 |.str _=>true
 |.lQ=>true
 |.fO=>true
 |.fp _ _ _=>true
 |.sl _ _ _=>true
 |.mp _ _ _=>true
def vv(ft:List Nat):List AV→Bool
 |[]=>true
 |v::r=>rW ft v&&vv ft r
end
def vx(ft:List Nat):Heap→Bool
 |[]=>true
 |(id,.box _ cs)::r => !(ft.contains id)&&(vv ft cs&&vx ft r)
 |(id,.own _ _)::r => !(ft.contains id)&&vx ft r
def mu(ft:List Nat):bF→Bool
 |.wr v h=>rW ft v&&vx ft h
 |.val _ => !(ft.contains 1)
 |.new _ _=>true
section
variable (P:Program) (Eqs:TypeId→Option K) (Sg:FuncId→Option aP) (F:(f:FuncId)→(g:aP)→g.A→Option g.B)
variable {R:Type}
noncomputable def uH(n:Nat)(f:Nat→Option R):Option R:=open Classical in if h:∃r,∀j,j<n→f j=some r then some (Classical.choose h) else none
def A4(m:Nat)(d:AV):AV→AV
 |.bL i=>if i=m then d else .bL i
 |v=>v
def qc(id:Nat)(st:St)(o:Oper):Option St :=match o.op with
 |.range t x=>match P.underlying t,ρ st.tmps x with
  |some (.map _ _),.bL m=>match st.heap.get m with
   |some (.own (.map kk vk) es)=>some (({ tmps:=st.tmps.map fun p=>(p.1,A4 m (.mp kk vk es) p.2),heap:=(id,.own (.iter kk vk) (none,es))::st.heap.del m }:St).put o.dst (.bL id))
   |_=>none
  |_,_=>none
 |_=>none
def wA(o:Oper):Option Operand :=match o.op with
 |.next x false=>some x
 |_=>none
noncomputable def lR(h:Heap)(x:AV)(K:AV→Heap→Option R):Option R :=match x with
 |.bL id=>match h.get id with
  |some (.own (.iter kk vk) p)=>cond p.2.isEmpty (K (.n8 [.bool false]) h) (uH p.2.length fun j=>(p.2[j]?).bind fun c=>K (.n8 [.bool true,cj kk c.1,cj vk c.2]) (h.set id (.own (.iter kk vk) (some c,p.2.eraseIdx j))))
  |_=>none
 |_=>none
def isNil(o:Oper):Option (Operand×Bool) :=match o.op with
 |.binOp op t x (.const v) _=>match op,P.underlying t,yp v with
  |.eql,some (.slice _),.fO=>some (x,true)
  |.neq,some (.slice _),.fO=>some (x,false)
  |_,_,_=>none
 |_=>none
noncomputable def wB(h:Heap)(x:AV)(want:Bool)(K:AV→Option R):Option R :=match cX h x with
 |.fO=>K (.bool want)
 |.sl _ _ xs=>cond xs.isEmpty (uH 2 fun j=>K (.bool ((j==0)==want))) (K (.bool (!want)))
 |_=>none
noncomputable def bJ(rid:Nat)(draw:Bool)(ops:Array Oper)(b:Array Nat):List (Nat×Oper)→St→(St→Option R)→Option R
 |[],st,K=>K st
 |(i,o)::r,st,K =>
  let run (st:St):Option R :=match (if draw then none else qc P (opId rid i) st o) with
   |some eQ=>bJ rid draw ops b r eQ K
   |none =>
   match (if draw then none else wA o) with
   |some x=>lR st.heap (ρ st.tmps x) fun v h=>bJ rid draw ops b r (({ st with heap:=h }:St).put o.dst v) K
   |none =>
   match (if draw then none else isNil P o) with
   |some (x,want)=>wB st.heap (ρ st.tmps x) want fun v=>bJ rid draw ops b r (st.put o.dst v) K
   |none =>
   if draw then
    cY P Eqs Sg F (opId rid i) (im (ahead rid (b.getD i 0) st.heap) (hM ops b i st.tmps o)) st.tmps o fun e =>if gZ true rid ops b i (b.getD i 0) (hY (hM ops b i st.tmps o) (ahead rid (b.getD i 0) st.heap) e)&&mu (hM ops b i st.tmps o) e then
      bJ rid draw ops b r ({ st with heap:=match hY (hM ops b i st.tmps o) (ahead rid (b.getD i 0) st.heap) e with | .wr _ h=>h|e=>e.h st.heap }.put o.dst e.v) K else none
   else
    cY P Eqs Sg F (opId rid i) st.heap st.tmps o fun e =>if gZ false rid ops b i (2 ^ i-1) e then bJ rid draw ops b r ({ st with heap:=match e with | .wr _ h=>h|e=>e.h st.heap }.put o.dst e.v) K else none
  let skip (st:St):Option R:=bJ rid draw ops b r (st.put o.dst (.n8 [])) K
  match o.guard with
  |none=>run st
  |some (j,want) =>
   match (ops[j]?).bind (·.dst) with
   |none=>none
   |some d =>
    match look st.tmps d with
    |.bool t=>cond t (if want then run (st.put (some d) (.bool true)) else skip (st.put (some d) (.bool true))) (if want then skip (st.put (some d) (.bool false)) else run (st.put (some d) (.bool false)))
    |.n8 _=>skip st
    |_=>none
end
mutual
def bO(rid:Nat):AV→AV
 |.ref id s i off=>if id / 32768=rid+1 then .no else .ref id s i off
 |.bL id=>if id / 32768=rid+1 then .no else .bL id
 |.fn f cap=>.fn f (mw rid cap)
 |.agg cs=>.agg (mw rid cs)
 |.n8 vs=>.n8 (mw rid vs)
 |.no=>.no
 |.bool b=>.bool b
 |.int k n=>.int k n
 |.str s=>.str s
 |.lQ=>.lQ
 |.fO=>.fO
 |.fp k x off=>.fp k x off
 |.sl ex k xs=>.sl ex k xs
 |.mp kk vk es=>.mp kk vk es
def mw(rid:Nat):List AV→List AV
 |[]=>[]
 |v::r=>bO rid v::mw rid r
end
def Cd(rid:Nat):Ob→Ob
 |.box ty cs=>.box ty (mw rid cs)
 |.own ok x=>.own ok x
def my(draw:Bool)(rid:Nat)(ops:Array Oper)(st:St):St :=if draw || ops.any (makes ·.op) then
  { tmps:=st.tmps.map fun p=>(p.1,bO rid p.2),heap:=(st.heap.filter fun p=>p.1 / 32768 != rid+1).map fun p=>(p.1,Cd rid p.2) }
 else st
section
variable (P:Program) (Eqs:TypeId→Option K) (Sg:FuncId→Option aP) (F:(f:FuncId)→(g:aP)→g.A→Option g.B)
variable {R:Type}
noncomputable def jg(n rid:Nat)(ops:Array Oper)(draw:Bool)(st:St)(K:St→Option R):Option R :=let b:=if draw then Region.before ops else #[]
 if(ops.all fun o=>jf n o)&&(!draw || (wz ops b&&(Cb ops b&&ck (ops.toList.filterMap (·.dst)))))&&decide (ops.size≤128) then
  bJ P Eqs Sg F rid draw ops b (ops.toList.zipIdx.map fun p=>(p.2,p.1)) (my draw rid ops st) K
 else none
inductive Src where
 |slot (s:Nat)
 |cap (s j:Nat)
structure Shape where
 A5:List (Nat×K)
 boxes:List (Src×Nat×BK)
 rows:List (Nat×Nat×OK)
 fns:List (Nat×FuncId×List Nat)
def Shape.ks(sh:Shape):List K:=sh.A5.map (·.2)
def Shape.bs(sh:Shape):List BK:=sh.boxes.map (·.2.2)
def Mr:List OK→Type
 |[]=>Unit
 |k::r=>k.T×Mr r
abbrev Shape.T(sh:Shape):Type:=JC sh.ks×z8 sh.bs×Mr (sh.rows.map (·.2.2))
def vz(st:St):(l:List (Nat×K))→Option (JC (l.map (·.2)))
 |[]=>some ()
 |(s,k)::r =>
  match gY k st.heap (look st.tmps s),vz st r with
  |some x,some y=>some (x,y)
  |_,_=>none
def ZA(st:St):Src→Option Nat
 |.slot s=>Ga (look st.tmps s)
 |.cap s j=>match look st.tmps s with
  |.fn _ cap=>match cap[j]? with
   |some v=>Ga v
   |none=>none
  |_=>none
def HM(st:St):List (Src×Nat×BK)→Option (List Nat)
 |[]=>some []
 |p::r=>match ZA st p.1,HM st r with
  |some i,some is=>some (i::is)
  |_,_=>none
def qd(st:St):(l:List (Nat×Nat×OK))→Option (Mr (l.map (·.2.2)))
 |[]=>some ()
 |(s,_,ok)::r =>
  match ep st.heap ok (look st.tmps s),qd st r with
  |some x,some y=>some (x,y)
  |_,_=>none
def Bp(st:St)(sh:Shape)(ids:List Nat):List AV:=(sh.A5.flatMap fun p=>(look st.tmps p.1).cells)++gD sh.bs st.heap ids
def JH(st:St)(sh:Shape)(ids:List Nat):List Nat:=dd sh.bs st.heap ids++sh.rows.flatMap fun p=>qa (look st.tmps p.1)
def oQ(st:St)(m:Nat):List (Nat×Nat×OK)→Bool
 |[]=>false
 |(s,id,_)::r=>(id==m&&(match look st.tmps s with | .bL i=>i==m|_=>false)) || oQ st m r
def tp(sh:Shape):List Nat:=b7 sh.bs (sh.boxes.map (·.2.1)) 9000++sh.rows.map (·.2.1)
def N6(st:St)(ids:List (Nat×Nat)):List (Nat×FuncId×List Nat)→Bool
 |[]=>true
 |(s,f,HN)::r =>
  (match look st.tmps s with
  |.fn f' cap=>decide (f'=f)&&(match kd cap with|some is=>decide (is.map (fun i=>(ids.find? (·.1==i)).map (·.2))=HN.map some)|none=>false)
  |_=>false)&&N6 st ids r
def cM(sh:Shape)(st:St):Option sh.T :=match HM st sh.boxes with
 |none=>none
 |some ids =>
  match vz st sh.A5,dn sh.bs st.heap ids,qd st sh.rows,yy (JH st sh ids) (Bp st sh ids)&&(ck (tp sh)&&((tp sh).all (fun m=>decide (2000≤m) || ((ids.zip (sh.boxes.map (·.2.1))).any fun p=>p.1==m&&p.2==m) || oQ st m sh.rows)&&N6 st (ids.zip (sh.boxes.map (·.2.1))) sh.fns)) with
  |some x,some y,some z,true=>some (x,y,z)
  |_,_,_,_=>none
def rX:(l:List (Nat×K))→JC (l.map (·.2))→List (Nat×AV)
 |[],_=>[]
 |(s,k)::r,x=>(s,cj k x.1)::rX r x.2
def kf:List (Src×Nat×BK)→List (Nat×AV)
 |[]=>[]
 |(.slot s,id,_)::r=>(s,.ref id 0 0 0)::kf r
 |(.cap _ _,_,_)::r=>kf r
def Bq(l:List (Nat×FuncId×List Nat)):List (Nat×AV):=l.map fun p=>(p.1,.fn p.2.1 (p.2.2.map fun i=>.ref i 0 0 0))
def rY:(l:List (Nat×Nat×OK))→Mr (l.map (·.2.2))→Heap
 |[],_=>[]
 |(_,id,ok)::r,x=>(id,.own ok x.1)::rY r x.2
def az(sh:Shape)(x:sh.T):St :={ tmps:=rX sh.A5 x.1++(kf sh.boxes++(Bq sh.fns++sh.rows.map fun p=>(p.1,.bL p.2.1))),heap:=bG sh.bs (sh.boxes.map (·.2.1)) 9000 x.2.1++rY sh.rows x.2.2 }
def tu:Code→Nat
 |.region id _ _=>id
 |.seq a _=>tu a
 |.block _ a=>tu a
 |.loop a=>tu a
 |.scope a=>tu a
 |_=>0
def SK(s:Nat)(st:St):St:=match look st.tmps s with
 |.bL m=>match st.heap.get m with
  |some (.own (.row _ k) xs)=>{ tmps:=st.tmps.map fun p=>(p.1,A4 m (.sl false k xs) p.2),heap:=st.heap.del m }
  |_=>st
 |_=>st
def JI(o:Option Shape)(st:St):St:=match o with
 |some sh=>sh.rows.foldl (fun st p=>SK p.1 st) st
 |none=>st
noncomputable def aG(n:Nat)(ann:Nat→Option Shape)(J:(sh:Shape)→List Item→sh.T→Option R)(ret:St→Option R):Nat→List Item→St→Option R
 |0,_,_=>none
 |_+1,[],st=>ret st
 |m+1,.inBlock _::k,st=>aG n ann J ret m k st
 |m+1,.inScope _::k,st=>aG n ann J ret m k st
 |_+1,.inLoop c::k,st =>
  match ann (tu c) with
  |none=>none
  |some sh=>match cM sh st with
   |some x=>J sh (.inLoop c::k) x
   |none=>none
 |m+1,.code c::k,st =>
  match c with
  |.skip | .label _=>aG n ann J ret m k st
  |.seq a b=>aG n ann J ret m (.code a::.code b::k) st
  |.cond c a b=>match ρ st.tmps c with
   |.bool t=>cond t (aG n ann J ret m (.code a::k) st) (aG n ann J ret m (.code b::k) st)
   |_=>none
  |.block id c=>aG n ann J ret m (.code c::.inBlock id::k) st
  |.scope c=>aG n ann J ret m (.code c::.inScope c::k) st
  |.loop c=>aG n ann J ret m (.inLoop c::k) st
  |.exit id=>match exitTo id k with
   |some k'=>aG n ann J ret m k' st
   |none=>none
  |.ret=>ret st
  |.region id ops draw=>jg P Eqs Sg F n id ops draw (JI (ann (500000+id)) st) fun eQ=>aG n ann J ret m k eQ
  |_=>none
 |_,_,_=>none
def Ac(h:Heap)(tmps:List (Nat×AV))(rvs:List ResultVar):Option (List AV) :=match rvs with
 |[]=>some []
 |.tmp t::r=>match Ac h tmps r with
  |some vs=>some (look tmps t::vs)
  |none=>none
 |.cell a t::r=>match look tmps a with
  |.ref id _ 0 off=>(match h.get id with
   |some (.box _ cs)=>(match dY P t (cs.drop off),Ac h tmps r with
    |some v,some vs=>some (v::vs)
    |_,_=>none)
   |_=>none)
  |_=>none
def rZ(g:aP)(fn:Func)(st:St):Option g.B :=match Ac P st.heap st.tmps fn.results.toList with
 |none=>none
 |some vs =>
  match bN g.bs g.rs st.heap (aS g.bs.length) vs,dn g.bs st.heap (aS g.bs.length),
   yy (dd g.bs st.heap (aS g.bs.length)++dS g.rs vs) (gE g.rs vs++gD g.bs st.heap (aS g.bs.length))&&ck (rQ g) with
  |some x,some y,true=>some (x,y)
  |_,_,_=>none
def entry(g:aP)(x:g.A):St :={ tmps:=aX g.ps (aS g.bs.length) 0 x.1,heap:=bG g.bs (aS g.bs.length) 2000 x.2 }
def fuel:Nat:=100000
end
section
variable (P:Program) (Eqs:TypeId→Option K) (Sg:FuncId→Option aP) (An:FuncId→Nat→Option Shape) (G:(f:FuncId)→(g:aP)→Option (g.A→Option g.B))
variable (F:(f:FuncId)→(g:aP)→g.A→Option g.B)
def body(f:FuncId):Option (Func×Code):=(P.funcs[f]?).bind fun fn=>fn.body.map fun c=>(fn,c)
noncomputable def np(f:FuncId)(g:aP)(fn:Func):Nat→(sh:Shape)→List Item→sh.T→Option g.B
 |0,_,_,_=>none
 |n+1,sh,.inLoop c::k,x=>aG P Eqs Sg F fn.ntmps (An f) (np f g fn n) (rZ P g fn) fuel (.code c::.inLoop c::k) (az sh x)
 |_+1,_,_,_=>none
noncomputable def Mt(f:FuncId)(g:aP)(n:Nat)(x:g.A):Option g.B :=match body P (f%1000) with
 |none=>none
 |some (fn,c)=>if decide (g.ps.length≤fn.ntmps)&&decide (g.bs.length≤8) then aG P Eqs Sg F fn.ntmps (An f) (np P Eqs Sg An F f g fn n) (rZ P g fn) fuel [.code c] (entry g x) else none
end
section
variable (P:Program) (Eqs:TypeId→Option K) (Sg:FuncId→Option aP) (An:FuncId→Nat→Option Shape) (G:(f:FuncId)→(g:aP)→Option (g.A→Option g.B))
noncomputable def Fn:Nat→(f:FuncId)→(g:aP)→g.A→Option g.B
 |0,f,g,x=>match G f g with
  |some u=>u x
  |none=>none
 |m+1,f,g,x=>match G f g with
  |some u=>u x
  |none=>Mt P Eqs Sg An (Fn m) f g m x
end
end Go.Vs
namespace Go.Vs
def r8:Code→List Item→List (List Item)
 |.seq a b,k=>r8 a (.code b::k)++r8 b k
 |.cond _ a b,k=>r8 a k++r8 b k
 |.block id c,k=>r8 c (.inBlock id::k)
 |.scope c,k=>r8 c (.inScope c::k)
 |.loop c,k=>(.inLoop c::k)::r8 c (.inLoop c::k)
 |_,_=>[]
def aF(P:Program)(f:FuncId)(j:Nat):List Item :=match body P f with
 |some (_,c)=>(r8 c []).getD j []
 |none=>[]
def round:List Item→List Item
 |.inLoop c::k=>.code c::.inLoop c::k
 |k=>k
theorem wC(a:Addr)(n m:Nat):(a.add n).add m=a.add (n+m):=by
 grind [Addr.add,Nat.add_assoc]
theorem Gb(a:Addr):a.add 0=a:=by rfl
theorem fD(a:Addr)(n:Nat):(a.add n).block=a.block:=by grind [Addr.add]
theorem cF(g i n:Nat):(⟨g,i,none⟩:Addr).add n=⟨g,i+n,none⟩:=by grind [Addr.add]
def cw(Z:Nat→Prop)(w w':World):Prop:=∀b,Z b→w'.heap[b]? = w.heap[b]?
theorem cw.refl(Z:Nat→Prop)(w:World):cw Z w w:=fun _ _=>rfl
theorem cw.trans{Z:Nat→Prop}{w w1 w2:World}(h:cw Z w w1)(k:cw Z w1 w2):cw Z w w2:=fun b hb=>(k b hb).trans (h b hb)
theorem cw.cell{Z:Nat→Prop}{w w':World}(h:cw Z w w'){a:Addr}(ha:Z a.block):w'.cell? a=w.cell? a:=World.cell?_of_block (h _ ha)
def ai1{α:Type}(r:α→List Value→Prop)(Z:Nat→Prop)(sz:Nat)(w:World)(xs:List α)(v:Value):Prop :=∃A c,v=.slice A xs.length c∧xs.length≤c∧(A=none→c=0) ∧ ∀(i:Nat) (x:α),xs[i]? = some x→∃a us,A=some a∧Z a.block∧r x us∧∀(j:Nat) u,us[j]? = some u→w.cell? (a.add (i*sz+j))=some u
def HO{α β:Type}(ra:α→List Value→Prop)(rb:β→List Value→Prop)(pa pb:Bool)(es:List (α×β))(b8:List MapEntry):Prop :=es.length=b8.length∧∀(i:Nat) (x:α×β) (e:MapEntry),es[i]? = some x→b8[i]? = some e →(ra x.1 e.key.cells.toList∧(pa=true→∃vs,e.key=.agg vs)∧(pa=false→e.key.cells=#[e.key]))∧rb x.2 e.val.cells.toList∧(pb=true→∃vs,e.val=.agg vs)∧(pb=false→e.val.cells=#[e.val])
def aL(Z:Nat→Prop)(w:World):(k:K)→k.T→List Value→Prop
 |.int ik,n,vs=>vs=[.int ik n]
 |.bool,b,vs=>vs=[.bool b]
 |.str,s,vs=>vs=[.string s]
 |.sl k,xs,vs=>∃v,vs=[v]∧ai1 (aL Z w k) Z k.sz w xs v
 |.pair a b,x,vs=>∃us ws,vs=us++ws∧aL Z w a x.1 us∧aL Z w b x.2 ws
 |.one k,x,vs=>aL Z w k x vs
 |.mp kk vk,es,vs=>∃A,vs=[.map A]∧((A=none∧es=[])∨∃m b8 clock,A=some m∧Z m∧w.heap[m]? = some (.map b8 clock)∧HO (aL Z w kk) (aL Z w vk) kk.isAgg vk.isAgg es b8.toList)
 |.fn f,_,vs=>vs=[.func (.func f) #[] #[]]
variable {Z Z':Nat→Prop} {w w':World}
theorem aL.len:∀{k:K} {x:k.T} {vs:List Value},aL Z w k x vs→vs.length=k.sz
 |.int _,_,_,h=>by simp only[aL]at h;subst h;rfl
 |.bool,_,_,h=>by simp only[aL]at h;subst h;rfl
 |.str,_,_,h=>by simp only[aL]at h;subst h;rfl
 |.sl _,_,_,h=>by simp only[aL]at h;obtain⟨v,rfl,_⟩:=h;rfl
 |.pair a b,x,_,h=>by simp only[aL]at h;obtain⟨us,ws,rfl,h1,h2⟩:=h;rw[List.length_append,aL.len h1,aL.len h2];rfl
 |.one k,x,_,h=>by simp only[aL]at h;exact aL.len (k:=k) h
 |.mp _ _,_,_,h=>by simp only[aL]at h;obtain⟨A,rfl,_⟩:=h;rfl
 |.fn _,_,_,h=>by simp only[aL]at h;subst h;rfl
theorem K.gF:∀k:K,0<k.sz
 |.int _=>Nat.one_pos
 |.bool=>Nat.one_pos
 |.str=>Nat.one_pos
 |.sl _=>Nat.one_pos
 |.pair a _=>ac6 (K.gF a) (Nat.le_add_right _ _)
 |.one k=>K.gF k
 |.mp _ _=>Nat.one_pos
 |.fn _=>Nat.one_pos
theorem aL.one:∀{k:K} {x:k.T} {vs:List Value},aL Z w k x vs→∀u∈vs,u.oneCell'=true
 |.int _,_,_,h=>by simp only[aL]at h;subst h;simp[Value.oneCell']
 |.bool,_,_,h=>by simp only[aL]at h;subst h;simp[Value.oneCell']
 |.str,_,_,h=>by simp only[aL]at h;subst h;simp[Value.oneCell']
 |.sl _,_,_,h=>by simp only[aL]at h;obtain⟨v,rfl,A,c,rfl,_⟩:=h;simp[Value.oneCell']
 |.pair a b,x,_,h=>by
  simp only[aL]at h;obtain⟨us,ws,rfl,h1,h2⟩:=h;intro u hu;rcases acS.1 hu with hu|hu
  ·exact aL.one h1 u hu
  ·exact aL.one h2 u hu
 |.one k,x,_,h=>by simp only[aL]at h;exact aL.one (k:=k) h
 |.mp _ _,_,_,h=>by simp only[aL]at h;obtain⟨A,rfl,_⟩:=h;simp[Value.oneCell']
 |.fn _,_,_,h=>by simp only[aL]at h;subst h;simp[Value.oneCell']
theorem HO.imp{α β:Type}{ra ra':α→List Value→Prop}{rb rb':β→List Value→Prop}{pa pb:Bool}(ha:∀x vs,ra x vs→ra' x vs)(hb:∀x vs,rb x vs→rb' x vs){es:List (α×β)}{b8:List MapEntry}(h:HO ra rb pa pb es b8):HO ra' rb' pa pb es b8 :=⟨h.1,fun i x e h1 h2=>by obtain⟨⟨a,b⟩,c,d⟩:=h.2 i x e h1 h2;simp_all⟩
theorem aL.mono(hz:∀b,Z b→Z' b)(hs:cw Z w w'):∀{k:K} {x:k.T} {vs:List Value},aL Z w k x vs→aL Z' w' k x vs
 |.int _,_,_,h=>h
 |.bool,_,_,h=>h
 |.str,_,_,h=>h
 |.fn _,_,_,h=>h
 |.sl k,xs,_,h=>by simp only[aL]at h ⊢;obtain⟨v,rfl,A,c,rfl,hl,hn,he⟩:=h;refine⟨_,rfl,A,c,rfl,hl,hn,fun i x hx=>?_⟩;obtain⟨a,us,ha,hza,hr,hc⟩:=he i x hx;refine⟨a,us,ha,hz _ hza,aL.mono hz hs hr,fun j u hu=>?_⟩;rw[hs.cell (by rw[fD];exact hza)];exact hc j u hu
 |.pair a b,x,_,h=>by simp only[aL]at h ⊢;obtain⟨us,ws,rfl,h1,h2⟩:=h;exact⟨us,ws,rfl,aL.mono hz hs h1,aL.mono hz hs h2⟩
 |.one k,x,_,h=>by simp only[aL]at h ⊢;exact aL.mono hz hs (k:=k) h
 |.mp kk vk,es,_,h=>by simp only[aL]at h ⊢;obtain⟨A,rfl,h⟩:=h;refine⟨A,rfl,h.imp (fun h=>h) fun⟨m,b8,clock,h1,h2,h3,h4⟩=>⟨m,b8,clock,h1,hz _ h2,(hs m h2).trans h3,h4.imp (fun _ _ h=>aL.mono hz hs h) (fun _ _ h=>aL.mono hz hs h)⟩⟩
def XT:Value→Nat
 |.pointer (some a)=>a.block
 |.slice (some a) _ _=>a.block
 |_=>0
def ob:Value→Option Nat
 |.pointer (some a)=>some a.block
 |.slice (some a) _ c=>if c=0 then none else some a.block
 |.map (some m)=>some m
 |_=>none
mutual
def aC(Z:Nat→Prop)(ψ:Nat→Value)(h:Nat→Option Ob)(w:World):AV→Value→Prop
 |.no,_=>True
 |.bool b,v=>v=.bool b
 |.int k n,v=>v=.int k n
 |.str s,v=>v=.string s
 |.lQ,v=>v=.pointer none
 |.fO,v=>v=.slice none 0 0
 |.ref id s i off,v=>∃a,v=.pointer (some a)∧(h id≠none→a=⟨XT (ψ id),i*s+off,none⟩)
 |.fp k x off,v=>∃a us,v=.pointer (some a)∧Z a.block∧aL Z w k x us∧∀(j:Nat) u,us[off+j]? = some u→w.cell? (a.add j)=some u
 |.sl ex k xs,v=>aL Z w (.sl k) xs [v]∧(ex=true→∃A c,v=.slice A c c)
 |.mp kk vk es,v=>aL Z w (.mp kk vk) es [v]
 |.bL id,v=>(v.cells=#[v]∧v.oneCell'=true)∧(h id≠none→v=ψ id)
 |.fn f cap,v=>∃vs,v=.func (.func f) #[] vs∧ax Z ψ h w cap vs.toList
 |.agg cs,v=>∃vs,v=.agg vs∧ax Z ψ h w cs vs.toList
 |.n8 cs,v=>∃vs,v=.tuple vs∧ax Z ψ h w cs vs.toList
def ax(Z:Nat→Prop)(ψ:Nat→Value)(h:Nat→Option Ob)(w:World):List AV→List Value→Prop
 |[],vs=>vs=[]
 |a::r,vs=>∃v us,vs=v::us∧aC Z ψ h w a v∧ax Z ψ h w r us
end
mutual
def aM(p:Nat→Prop):AV→Prop
 |.ref id _ _ _=>p id
 |.bL id=>p id
 |.fn _ cap=>aD p cap
 |.agg cs=>aD p cs
 |.n8 vs=>aD p vs
 |.no=>True
 |.bool _=>True
 |.int _ _=>True
 |.str _=>True
 |.lQ=>True
 |.fO=>True
 |.fp _ _ _=>True
 |.sl _ _ _=>True
 |.mp _ _ _=>True
def aD(p:Nat→Prop):List AV→Prop
 |[]=>True
 |v::r=>aM p v∧aD p r
end
section
variable {Z Z':Nat→Prop} {w w':World} {ψ ψ':Nat→Value} {h h':Nat→Option Ob} {p:Nat→Prop}
mutual
theorem aC.move(hz:∀b,Z b→Z' b)(hs:cw Z w w')(hh:∀id,p id→h' id≠none→h id≠none∧ψ' id=ψ id):∀{a:AV} {v:Value},aM p a→aC Z ψ h w a v→aC Z' ψ' h' w' a v
 |.no,_,_,_=>by simp only[aC]
 |.bool b,_,_,hr=>by simpa only[aC] using hr
 |.int k n,_,_,hr=>by simpa only[aC] using hr
 |.str s,_,_,hr=>by simpa only[aC] using hr
 |.lQ,_,_,hr=>by simpa only[aC] using hr
 |.fO,_,_,hr=>by simpa only[aC] using hr
 |.ref id s i off,_,hm,hr=>by simp only[aC,aM]at hr hm ⊢;obtain⟨a,rfl,ha⟩:=hr;refine⟨a,rfl,fun hn=>?_⟩;obtain⟨h1,h2⟩:=hh id hm hn;rw[h2];exact ha h1
 |.fp k x off,_,_,hr=>by simp only[aC]at hr ⊢;obtain⟨a,us,rfl,hza,hk,hc⟩:=hr;refine⟨a,us,rfl,hz _ hza,hk.mono hz hs,fun j u hu=>?_⟩;rw[hs.cell (by rw[fD];exact hza)];exact hc j u hu
 |.sl ex k xs,_,_,hr=>by simp only[aC]at hr ⊢;exact⟨aL.mono hz hs hr.1,hr.2⟩
 |.mp kk vk es,_,_,hr=>by simp only[aC]at hr ⊢;exact aL.mono hz hs hr
 |.bL id,_,hm,hr=>by simp only[aC,aM]at hr hm ⊢;refine⟨hr.1,fun hn=>?_⟩;obtain⟨h1,h2⟩:=hh id hm hn;rw[h2];exact hr.2 h1
 |.fn f cap,_,hm,hr=>by simp only[aC,aM]at hr hm ⊢;obtain⟨vs,rfl,hl⟩:=hr;exact⟨vs,rfl,ax.move hz hs hh hm hl⟩
 |.agg cs,_,hm,hr=>by simp only[aC,aM]at hr hm ⊢;obtain⟨vs,rfl,hl⟩:=hr;exact⟨vs,rfl,ax.move hz hs hh hm hl⟩
 |.n8 cs,_,hm,hr=>by simp only[aC,aM]at hr hm ⊢;obtain⟨vs,rfl,hl⟩:=hr;exact⟨vs,rfl,ax.move hz hs hh hm hl⟩
theorem ax.move(hz:∀b,Z b→Z' b)(hs:cw Z w w')(hh:∀id,p id→h' id≠none→h id≠none∧ψ' id=ψ id):∀{a:List AV} {v:List Value},aD p a→ax Z ψ h w a v→ax Z' ψ' h' w' a v
 |[],_,_,hr=>by simpa only[ax] using hr
 |a::r,_,hm,hr=>by simp only[ax,aD]at hr hm ⊢;obtain⟨v,us,rfl,h1,h2⟩:=hr;exact⟨v,us,rfl,aC.move hz hs hh hm.1 h1,ax.move hz hs hh hm.2 h2⟩
end
mutual
theorem aM.top:∀a:AV,aM (fun _=>True) a
 |.no=>by simp only[aM]
 |.bool b=>by simp only[aM]
 |.int k n=>by simp only[aM]
 |.str s=>by simp only[aM]
 |.lQ=>by simp only[aM]
 |.fO=>by simp only[aM]
 |.ref id s i off=>by simp only[aM]
 |.fp k x off=>by simp only[aM]
 |.sl ex k xs=>by simp only[aM]
 |.mp kk vk es=>by simp only[aM]
 |.bL id=>by simp only[aM]
 |.fn f cap=>by simp only[aM];exact aD.top cap
 |.agg cs=>by simp only[aM];exact aD.top cs
 |.n8 cs=>by simp only[aM];exact aD.top cs
theorem aD.top:∀a:List AV,aD (fun _=>True) a
 |[]=>by simp only[aD]
 |a::r=>by simp only[aD];exact⟨aM.top a,aD.top r⟩
end
theorem aC.less(hz:∀b,Z b→Z' b)(hs:cw Z w w')(hh:∀id,h' id≠none→h id≠none∧ψ' id=ψ id){a:AV}{v:Value}(hr:aC Z ψ h w a v):aC Z' ψ' h' w' a v :=aC.move (p:=fun _=>True) hz hs (fun id _ hn=>hh id hn) (aM.top a) hr
theorem ax.less(hz:∀b,Z b→Z' b)(hs:cw Z w w')(hh:∀id,h' id≠none→h id≠none∧ψ' id=ψ id){a:List AV}{v:List Value}(hr:ax Z ψ h w a v):ax Z' ψ' h' w' a v :=ax.move (p:=fun _=>True) hz hs (fun id _ hn=>hh id hn) (aD.top a) hr
theorem ax.length:∀{a:List AV} {v:List Value},ax Z ψ h w a v→a.length=v.length
 |[],_,hr=>by grind [ax]
 |a::r,_,hr=>by simp only[ax]at hr;obtain⟨v,us,rfl,_,h2⟩:=hr;simp[ax.length h2]
theorem ax.get:∀{a:List AV} {v:List Value} (i:Nat) {x:AV},ax Z ψ h w a v→a[i]? = some x→∃u,v[i]? = some u∧aC Z ψ h w x u
 |[],_,i,x,_,hx=>by simp at hx
 |a::r,_,0,x,hr,hx=>by simp only[ax]at hr;obtain⟨v,us,rfl,h1,h2⟩:=hr;simp only[List.getElem?_cons_zero,Option.some.injEq]at hx;subst hx;exact⟨v,rfl,h1⟩
 |a::r,_,i+1,x,hr,hx=>by simp only[ax]at hr;obtain⟨v,us,rfl,h1,h2⟩:=hr;obtain⟨u,hu,hr⟩:=ax.get i h2 (by simpa using hx);exact⟨u,by simpa using hu,hr⟩
theorem ax.append:∀{a b:List AV} {v u:List Value},ax Z ψ h w a v→ax Z ψ h w b u→ax Z ψ h w (a++b) (v++u)
 |[],b,_,u,hr,hb=>by grind [ax]
 |a::r,b,_,u,hr,hb=>by simp only[ax]at hr;obtain⟨v,us,rfl,h1,h2⟩:=hr;simp only[List.cons_append,ax];exact⟨v,us++u,rfl,h1,ax.append h2 hb⟩
theorem ax.split:∀{a b:List AV} {v:List Value},ax Z ψ h w (a++b) v→∃us ws,v=us++ws∧ax Z ψ h w a us∧ax Z ψ h w b ws
 |[],b,v,hr=>⟨[],v,rfl,by rfl,hr⟩
 |a::r,b,v,hr=>by simp only[List.cons_append,ax]at hr;obtain⟨x,us,rfl,h1,h2⟩:=hr;obtain⟨jt,ws,rfl,h3,h4⟩:=ax.split h2;exact⟨x::jt,ws,rfl,by simp only[ax];grind,h4⟩
theorem ax.drop(n:Nat){a:List AV}{v:List Value}(hr:ax Z ψ h w a v):ax Z ψ h w (a.drop n) (v.drop n):=by
 by_cases hn:n≤a.length
 ·have tw:ax Z ψ h w (a.take n++a.drop n) v:=by simp_all
  obtain⟨us,ws,rfl,h1,h2⟩:=ax.split tw;have hl:=h1.length;simp_all
 ·have:=hr.length
  grind [List.drop_eq_nil_of_le,ax]
theorem ax.take(n:Nat){a:List AV}{v:List Value}(hr:ax Z ψ h w a v):ax Z ψ h w (a.take n) (v.take n):=by
 by_cases hn:n≤a.length
 ·have tw:ax Z ψ h w (a.take n++a.drop n) v:=by simp_all
  obtain⟨us,ws,rfl,h1,h2⟩:=ax.split tw;have hl:=h1.length;simp_all
 ·have:=hr.length
  grind [List.take_of_length_le]
theorem ax.set:∀{a:List AV} {v:List Value} (i:Nat) {x:AV} {u:Value},ax Z ψ h w a v→aC Z ψ h w x u→ax Z ψ h w (a.set i x) (v.set i u)
 |[],_,i,x,u,hr,_=>by simp only[ax]at hr;subst hr;simp only[List.set_nil,ax]
 |a::r,_,0,x,u,hr,hx=>by simp only[ax]at hr;obtain⟨v,us,rfl,h1,h2⟩:=hr;simp only[List.set_cons_zero,ax];exact⟨u,us,rfl,hx,h2⟩
 |a::r,_,i+1,x,u,hr,hx=>by simp only[ax]at hr;obtain⟨v,us,rfl,h1,h2⟩:=hr;simp only[List.set_cons_succ,ax];exact⟨v,_,rfl,h1,ax.set i h2 hx⟩
theorem iV:∀{k:K} {x:k.T} {vs:List Value},aL Z w k x vs→ax Z ψ h w (enc k x) vs
 |.int _,_,_,hr=>by simp only[aL]at hr;subst hr;simp[enc,ax,aC]
 |.bool,_,_,hr=>by simp only[aL]at hr;subst hr;simp[enc,ax,aC]
 |.str,_,_,hr=>by simp only[aL]at hr;subst hr;simp[enc,ax,aC]
 |.fn _,_,_,hr=>by simp only[aL]at hr;subst hr;simp[enc,ax,aC]
 |.sl k,xs,_,hr=>by have tw:=hr;simp only[aL]at tw;obtain⟨v,rfl,_⟩:=tw;simp only[enc,ax,aC];exact⟨v,[],rfl,⟨hr,by simp⟩,rfl⟩
 |.pair a b,x,_,hr=>by simp only[aL]at hr;obtain⟨us,ws,rfl,h1,h2⟩:=hr;simp only[enc];exact ax.append (iV h1) (iV h2)
 |.one k,x,_,hr=>by simp only[aL]at hr;simp only[enc];exact iV (k:=k) hr
 |.mp kk vk,es,_,hr=>by have tw:=hr;simp only[aL]at tw;obtain⟨A,rfl,_⟩:=tw;simp only[enc,ax,aC];exact⟨_,[],rfl,hr,rfl⟩
theorem SL{k:K}{v:Value}(hr:aC Z ψ h w .fO v):aL Z w (.sl k) [] [v]:=by simp only[aC]at hr;subst hr;simp only[aL];exact⟨_,rfl,none,0,rfl,acW _,fun _=>rfl,fun i x hx=>by simp at hx⟩
theorem Br:∀{k:K} {cs:List AV} {x:k.T} {r:List AV} {vs:List Value},dec k cs=some (x,r)→ax Z ψ h w cs vs→∃us ws,vs=us++ws∧aL Z w k x us∧ax Z ψ h w r ws
 |.int ik,cs,x,r,vs,hd,hr=>by
  simp only[dec]at hd;unfold HI at hd
  split at hd
  ·split at hd
   ·rename_i he;subst he
    cases hd
    simp only[ax,aC]at hr;obtain⟨v,us,rfl,rfl,h2⟩:=hr;exact⟨[_],us,rfl,by simp only[aL],h2⟩
   ·cases hd
  ·cases hd
 |.bool,cs,x,r,vs,hd,hr=>by
  simp only[dec]at hd;unfold Bn at hd
  split at hd
  ·cases hd
   simp only[ax,aC]at hr;obtain⟨v,us,rfl,rfl,h2⟩:=hr;exact⟨[_],us,rfl,by simp only[aL],h2⟩
  ·cases hd
 |.str,cs,x,r,vs,hd,hr=>by
  simp only[dec]at hd;unfold HJ at hd
  split at hd
  ·cases hd
   simp only[ax,aC]at hr;obtain⟨v,us,rfl,rfl,h2⟩:=hr;exact⟨[_],us,rfl,by simp only[aL],h2⟩
  ·cases hd
 |.sl k,cs,x,r,vs,hd,hr=>by
  simp only[dec]at hd;unfold N1 at hd
  split at hd
  ·split at hd
   ·rename_i he;subst he
    cases hd
    simp only[ax]at hr;obtain⟨v,us,rfl,h1,h2⟩:=hr;simp only[aC]at h1;exact⟨[_],us,rfl,h1.1,h2⟩
   ·cases hd
  ·cases hd
   simp only[ax]at hr;obtain⟨v,us,rfl,h1,h2⟩:=hr;exact⟨[_],us,rfl,SL h1,h2⟩
  ·cases hd
 |.pair a b,cs,x,r,vs,hd,hr=>by
  simp only[dec]at hd
  split at hd
  ·rename_i x1 r1 h1
   split at hd
   ·rename_i y1 r2 h2
    cases hd
    obtain⟨us,ws,rfl,k1,k2⟩:=Br h1 hr;obtain⟨jt,ws',rfl,k3,k4⟩:=Br h2 k2;exact⟨us++jt,ws',by rw[List.append_assoc],by simp only[aL];exact⟨us,jt,rfl,k1,k3⟩,k4⟩
   ·cases hd
  ·cases hd
 |.one k,cs,x,r,vs,hd,hr=>by simp only[dec]at hd;obtain⟨us,ws,e,k1,k2⟩:=Br (k:=k) hd hr;exact⟨us,ws,e,by simp only[aL];exact k1,k2⟩
 |.fn f,cs,x,r,vs,hd,hr=>by
  simp only[dec]at hd;unfold N4 at hd
  split at hd
  ·split at hd
   ·rename_i he;subst he
    cases hd
    simp only[ax,aC]at hr;obtain⟨v,us,rfl,⟨ws,rfl,h3⟩,h2⟩:=hr;obtain⟨ws⟩:=ws;have h3:ws=[]:=h3;subst h3;exact⟨[_],us,rfl,by simp only[aL],h2⟩
   ·cases hd
  ·cases hd
 |.mp kk vk,cs,x,r,vs,hd,hr=>by
  simp only[dec]at hd;unfold N2 at hd
  split at hd
  ·split at hd
   ·rename_i he;obtain⟨rfl,rfl⟩:=he
    cases hd
    simp only[ax]at hr;obtain⟨v,us,rfl,h1,h2⟩:=hr;simp only[aC]at h1;exact⟨[_],us,rfl,h1,h2⟩
   ·cases hd
  ·cases hd
theorem dN{k:K}{cs:List AV}{x:k.T}{vs:List Value}(hd:dz k cs=some x)(hr:ax Z ψ h w cs vs):aL Z w k x vs:=by
 unfold dz at hd
 split at hd
 ·rename_i x' h1
  cases hd
  obtain⟨us,ws,rfl,k1,k2⟩:=Br h1 hr;simp only[ax]at k2;subst k2;rw[List.append_nil];exact k1
 ·cases hd
theorem mz{k:K}{x:k.T}{v:Value}(hr:aL Z w k x v.cells.toList)(hp:k.isAgg=true→∃vs,v=.agg vs)(hn:k.isAgg=false→v.cells=#[v]):aC Z ψ h w (cj k x) v:=by
 cases k with
 |int ik=>rw[hn rfl]at hr;simp only[aL]at hr;simp only[cj,aC];simpa using hr
 |bool=>rw[hn rfl]at hr;simp only[aL]at hr;simp only[cj,aC];simpa using hr
 |str=>rw[hn rfl]at hr;simp only[aL]at hr;simp only[cj,aC];simpa using hr
 |fn f=>rw[hn rfl]at hr;simp only[aL]at hr;simp only[cj,aC];exact⟨#[],by simpa using hr,by simp[ax]⟩
 |sl k=>rw[hn rfl]at hr;simp only[cj,aC];exact⟨hr,by simp⟩
 |mp kk vk=>rw[hn rfl]at hr;simp only[cj,aC];exact hr
 |pair a b =>obtain⟨vs,rfl⟩:=hp rfl;simp only[cj,aC];exact⟨vs,rfl,iV hr⟩
 |one k =>obtain⟨vs,rfl⟩:=hp rfl;simp only[cj,aC];exact⟨vs,rfl,iV hr⟩
end
end Go.Vs
namespace Go.Vs
theorem Heap.jh{n m:Nat}(bw:m≠n):∀h:Heap,(h.del n).get m=h.get m
 |[]=>rfl
 |(i,o)::r=>by
  simp only[Heap.del]
  split
  ·rename_i hi;rw[Heap.jh bw r];simp only[Heap.get];rw[if_neg (by omega)]
  ·simp only[Heap.get]
   split
   ·rfl
   ·exact Heap.jh bw r
theorem Heap.gQ(n:Nat):∀h:Heap,(h.del n).get n=none
 |[]=>rfl
 |(i,o)::r=>by
  simp only[Heap.del]
  split
  ·exact Heap.gQ n r
  simp_all [Heap.get,if_neg,Heap.gQ]
theorem Heap.wD(h:Heap)(n:Nat)(o:Ob):(h.set n o).get n=some o:=by simp[Heap.set,Heap.get]
theorem Heap.Ce{n m:Nat}(bw:m≠n)(h:Heap)(o:Ob):(h.set n o).get m=h.get m:=by simp only[Heap.set,Heap.get];rw[if_neg (by omega)];exact Heap.jh bw h
theorem Heap.wE{n m:Nat}{h:Heap}{o:Ob}(hg:(h.del n).get m=some o):h.get m=some o∧m≠n:=by
 grind [Heap.gQ,Heap.jh]
theorem Heap.get_append(a b:Heap)(n:Nat):(a++b).get n=(match a.get n with|some o=>some o|none=>b.get n):=by
 induction a with
 |nil=>rfl
 |cons p r ih =>
  obtain⟨i,o⟩:=p;simp only[List.cons_append,Heap.get]
  split
  ·rfl
  ·exact ih
def kR(Z:Nat→Prop)(w:World)(k:K)(xs:List k.T)(vs:List Value):Prop :=∀(i:Nat) (x:k.T),xs[i]? = some x→aL Z w k x ((vs.drop (i*k.sz)).take k.sz)
abbrev Hp:=Nat→Option Ob
def dL(w:World)(e:TypeId)(size:Nat)(v:Value)(n:Nat)(vs:List Value):Prop :=vs.length=n*size ∧((n=0∧∃A,v=.slice A 0 0) ∨ ∃g cap cur,v=.slice (some ⟨g,0,none⟩) n cap∧0<cap∧w.heap[g]? = some (.cells cur e (0,0))∧n≤cap∧cap≤maxLen∧cur.size=cap*size∧cur.toList.take (n*size)=vs)
theorem dL.of{w:World}{base e size n:Nat}{v:Value}{vs:List Value}(h:w.ownsRow base e size v n vs):dL w e size v n vs:=by
 obtain⟨h1,h2⟩:=h;refine⟨h1,?_⟩;rcases h2 with⟨rfl,h2⟩|⟨g,cap,cur,rfl,_,h3,h4,h5,h6,h7⟩
 ·simp_all
 ·by_cases hc:cap=0
  ·simp_all
  ·exact .inr ⟨g,cap,cur,rfl,by omega,h3,h4,h5,h6,h7⟩
theorem dL.slice{w:World}{e size n:Nat}{v:Value}{vs:List Value}(h:dL w e size v n vs):∃A c,v=.slice A n c:=by
 rcases h.2 with⟨h0,A,rfl⟩|⟨g,cap,cur,rfl,_⟩
 ·simp_all
 simp_all
theorem dL.one{w:World}{e size n:Nat}{v:Value}{vs:List Value}(h:dL w e size v n vs):v.cells=#[v]∧v.oneCell'=true:=by obtain⟨A,c,rfl⟩:=h.slice;exact⟨rfl,by rfl⟩
theorem dL.kept{w w':World}{e size n:Nat}{v:Value}{vs:List Value}(ho:dL w e size v n vs)(hk:∀g,ob v=some g→w'.heap[g]? = w.heap[g]?):dL w' e size v n vs:=by
 obtain⟨h1,h2⟩:=ho;refine⟨h1,?_⟩;rcases h2 with h2|⟨g,cap,cur,rfl,hc,hh,r⟩
 ·exact .inl h2
 ·exact .inr ⟨g,cap,cur,rfl,hc,(hk g (by simp only[ob];grind)).trans hh,r⟩
def jH(Z:Nat→Prop)(w:World):(ok:OK)→Value→ok.T→Prop
 |.row ty k,v,xs=>∃vs,dL w ty k.sz v xs.length vs∧kR Z w k xs vs
 |.map kk vk,v,es=>∃m b8 clock,v=.map (some m)∧w.heap[m]? = some (.map b8 clock)∧HO (aL Z w kk) (aL Z w vk) kk.isAgg vk.isAgg es b8.toList∧b8.toList.Pairwise (fun a b=>a.born≠b.born)∧∀e∈b8.toList,e.born<clock
 |.iter kk vk,v,x=>∃r m since seen b8 clock,v=.pointer (some ⟨r,0,none⟩)∧w.heap[r]? = some (.mapIter (some m) since seen clock)∧Z m∧w.heap[m]? = some (.map b8 clock) ∧ b8.toList.Pairwise (fun a b=>a.born≠b.born)∧since=clock∧(∀e∈b8.toList,e.born<clock)∧HO (aL Z w kk) (aL Z w vk) kk.isAgg vk.isAgg x.2 (b8.toList.filter fun e => !seen.contains e.born) ∧(match x.1 with|none=>True|some c=>∃e∈b8.toList,seen.back? = some e.born∧HO (aL Z w kk) (aL Z w vk) kk.isAgg vk.isAgg [c] [e])
 |.oH,v,x=>∃r,v=.pointer (some ⟨r,0,none⟩)∧w.heap[r]? = some (.stringIter x.1 x.2)
theorem jH.lt{Z:Nat→Prop}{w:World}:∀{ok:OK} {v:Value} {x:ok.T} {b:Nat},jH Z w ok v x→ob v=some b→b<w.heap.size
 |.row ty k,v,xs,b,h,hb=>by
  obtain⟨vs,⟨_,h⟩,_⟩:=h;rcases h with⟨_,A,rfl⟩|⟨g,cap,cur,rfl,hc,h2,_⟩
  ·cases A<;>simp[ob]at hb
  ·simp only[ob]at hb
   grind
 |.map _ _,v,_,b,h,hb=>by
  obtain⟨m,b8,clock,rfl,h2,_⟩:=h
  grind [ob,Option.some.injEq,Array.getElem?_eq_some_iff]
 |.iter _ _,v,_,b,h,hb=>by
  obtain⟨r,m,since,seen,b8,clock,rfl,h2,_⟩:=h
  grind [ob,Option.some.injEq,Array.getElem?_eq_some_iff]
 |.oH,v,_,b,h,hb=>by
  obtain⟨r,rfl,h2⟩:=h
  grind [ob,Option.some.injEq,Array.getElem?_eq_some_iff]
theorem jH.one{Z:Nat→Prop}{w:World}:∀{ok:OK} {v:Value} {x:ok.T},jH Z w ok v x→v.cells=#[v]∧v.oneCell'=true
 |.row ty k,v,xs,h=>by obtain⟨vs,h,_⟩:=h;obtain⟨A,c,rfl⟩:=h.slice;exact⟨rfl,by rfl⟩
 |.map _ _,v,_,h=>by obtain⟨m,b8,clock,rfl,_⟩:=h;exact⟨rfl,by rfl⟩
 |.iter _ _,v,_,h=>by obtain⟨r,m,since,seen,b8,clock,rfl,_⟩:=h;exact⟨rfl,by rfl⟩
 |.oH,v,_,h=>by obtain⟨r,rfl,_⟩:=h;exact⟨rfl,by rfl⟩
theorem jH.kept{Z Z':Nat→Prop}{w w':World}(hz:∀b,Z b→Z' b)(sm:cw Z w w'):∀{ok:OK} {v:Value} {x:ok.T},(∀g,ob v=some g→w'.heap[g]? = w.heap[g]?)→jH Z w ok v x→jH Z' w' ok v x
 |.row ty k,v,xs,hk,h=>by obtain⟨vs,h1,h2⟩:=h;exact⟨vs,h1.kept hk,fun i x hx=>(h2 i x hx).mono hz sm⟩
 |.map _ _,v,_,hk,h=>by obtain⟨m,b8,clock,rfl,h2,h3,h4⟩:=h;exact⟨m,b8,clock,rfl,(hk m rfl).trans h2,h3.imp (fun _ _ h=>h.mono hz sm) (fun _ _ h=>h.mono hz sm),h4⟩
 |.iter _ _,v,x,hk,h=>by
  obtain⟨r,m,since,seen,b8,clock,rfl,h2,h3,h4,h5,h6,h7,h8,h9⟩:=h;refine⟨r,m,since,seen,b8,clock,rfl,(hk r rfl).trans h2,hz _ h3,(sm m h3).trans h4,h5,h6,h7,h8.imp (fun _ _ h=>h.mono hz sm) (fun _ _ h=>h.mono hz sm),?_⟩
  split
  ·trivial
  ·rename_i c hc;rw[hc]at h9;obtain⟨e,he,pY,E6⟩:=h9;exact⟨e,he,pY,E6.imp (fun _ _ h=>h.mono hz sm) (fun _ _ h=>h.mono hz sm)⟩
 |.oH,v,_,hk,h=>by obtain⟨r,rfl,h2⟩:=h;exact⟨r,rfl,(hk r rfl).trans h2⟩
structure Good(Z:Nat→Prop)(ψ:Nat→Value)(h:Hp)(w:World)(B0:Nat)(O:Nat→Prop):Prop where
 box:∀id ty cs,h id=some (.box ty cs)→∃g vs,ψ id=.pointer (some ⟨g,0,none⟩)∧w.heap[g]? = some (.cells vs ty (0,0))∧ax Z ψ h w cs vs.toList∧∀u∈vs.toList,u.oneCell'=true
 row:∀id ok x,h id=some (.own ok x)→jH Z w ok (ψ id) x
 live:∀id g,h id≠none→ob (ψ id)=some g→¬Z g∧(B0≤g∨O g)
 apart:∀id oO g,h id≠none→h oO≠none→ob (ψ id)=some g→ob (ψ oO)=some g→id=oO
 kg:∀b,Z b→b<w.heap.size
variable {Z Z':Nat→Prop} {ψ ψ':Nat→Value} {h h':Hp} {w w':World} {B0:Nat} {O:Nat→Prop}
theorem Good.sub(g:Good Z ψ h w B0 O)(hs:∀id o,h' id=some o→h id=some o):Good Z ψ h' w B0 O:=by
 have hn:∀id,h' id≠none→h id≠none:=fun id hn=>by obtain⟨o,ho⟩:=acb.1 hn;simp_all
 refine⟨fun id ty cs hb=>?_,fun id ok x hb=>g.row id ok x (hs _ _ hb),fun id b h1 h2=>g.live id b (hn id h1) h2,fun id oO b h1 h2 h3 h4=>g.apart id oO b (hn _ h1) (hn _ h2) h3 h4,g.kg⟩;obtain⟨b,vs,h1,h2,h3,h4⟩:=g.box id ty cs (hs _ _ hb);exact⟨b,vs,h1,h2,ax.less (fun _ h=>h) (cw.refl _ _) (fun id bM=>⟨hn id bM,rfl⟩) h3,h4⟩
theorem Good.freeze(g:Good Z ψ h w B0 O)(hs:∀id o,h' id=some o→h id=some o)(hz:∀b,Z b→Z' b) (Cf:∀b,Z' b→Z b∨∃id,h id≠none∧h' id=none∧ob (ψ id)=some b):Good Z' ψ h' w B0 O:=by
 have hn:∀id,h' id≠none→h id≠none:=fun id hn=>by obtain⟨o,ho⟩:=acb.1 hn;simp_all
 have lt:∀id b,h id≠none→ob (ψ id)=some b→b<w.heap.size:=by
  intro id b h1 h2;obtain⟨o,ho⟩:=acb.1 h1
  cases o with
  |box ty cs =>
   obtain⟨gg,vs,e1,e2,_⟩:=g.box id ty cs ho
   grind [ob,Option.some.injEq,Array.getElem?_eq_some_iff]
  |own ok x=>exact(g.row id ok x ho).lt h2
 refine⟨fun id ty cs hb=>?_,fun id ok x hb=>?_,fun id b h1 h2=>⟨fun hzb=>?_,(g.live id b (hn id h1) h2).2⟩,fun id oO b h1 h2 h3 h4=>g.apart id oO b (hn _ h1) (hn _ h2) h3 h4,fun b hb=>?_⟩
 ·obtain⟨b,vs,h1,h2,h3,h4⟩:=g.box id ty cs (hs _ _ hb);exact⟨b,vs,h1,h2,ax.less hz (cw.refl _ _) (fun id bM=>⟨hn id bM,rfl⟩) h3,h4⟩
 ·exact(g.row id ok x (hs _ _ hb)).kept hz (cw.refl _ _) (fun _ _=>rfl)
 ·rcases Cf b hzb with h3|⟨oO,h3,h4,h5⟩
  ·exact(g.live id b (hn id h1) h2).1 h3
  ·have:=g.apart id oO b (hn id h1) h3 h2 h5;simp_all
 ·rcases Cf b hb with h3|⟨oO,h3,h4,h5⟩
  ·exact g.kg b h3
  grind
theorem wF{ty:TypeId}{k:K}{xs:List k.T}{v:Value}{vs:List Value}(ho:dL w ty k.sz v xs.length vs)(hv:kR Z w k xs vs)(hz:∀b,Z b→Z' b)(hb:∀b,ob v=some b→Z' b) :
  aL Z' w (.sl k) xs [v]:=by
 simp only[aL];refine⟨v,rfl,?_⟩;obtain⟨hl,e⟩:=ho;rcases e with⟨h0,A,rfl⟩|⟨g,cap,cur,rfl,E7,hh,hc,_,hs,ai3⟩
 ·have:xs=[]:=ack h0;subst this;exact⟨A,0,rfl,acW _,fun _=>rfl,fun i x hx=>by simp at hx⟩
 ·refine⟨some ⟨g,0,none⟩,cap,rfl,hc,fun e=>(by cases e),fun i x hx=>?_⟩;have hi:i<xs.length:=(abJ.1 hx).1;refine⟨⟨g,0,none⟩,_,rfl,hb g (by simp only[ob];rw[if_neg (by omega)]),(hv i x hx).mono hz (cw.refl _ _),fun j u hu=>?_⟩;rw[cF,Nat.zero_add];simp only[World.cell?,hh];rw[List.getElem?_take]at hu
  split at hu
  ·rename_i hj;rw[List.getElem?_drop]at hu;rw[←ai3,List.getElem?_take]at hu
   split at hu
   ·simpa using hu
   ·cases hu
  ·cases hu
theorem Gc{hh:Heap}{a:AV}{v:Value}(g:Good Z ψ hh.get w B0 O)(hz:∀b,Z b→Z' b)(hb:∀id b,a=.bL id→hh.get id≠none→ob (ψ id)=some b→Z' b)(hr:aC Z ψ hh.get w a v):aC Z' ψ hh.get w (cX hh a) v:=by
 unfold cX
 split
 ·rename_i id
  split
  ·rename_i ty k xs hg;simp only[aC]at hr;have hv:=hr.2 (by rw[hg];simp);subst hv;obtain⟨vs,h1,h2⟩:=g.row id (.row ty k) xs hg;simp only[aC];exact⟨wF h1 h2 hz (fun b hbb=>hb id b rfl (by rw[hg];simp) hbb),by simp⟩
  ·rename_i kk vk es hg;simp only[aC]at hr;have hv:=hr.2 (by rw[hg];simp);subst hv;obtain⟨m,b8,clock,h1,h2,h3,_⟩:=g.row id (.map kk vk) es hg;simp only[aC,aL];refine⟨some m,by rw[h1],.inr ⟨m,b8,clock,rfl,hb id m rfl (by rw[hg];simp) (by rw[h1];rfl),h2,h3.imp (fun _ _ h=>h.mono hz (cw.refl _ _)) (fun _ _ h=>h.mono hz (cw.refl _ _))⟩⟩
  grind [aC]
 ·exact hr.less hz (cw.refl _ _) (fun id bM=>⟨bM,rfl⟩)
theorem oR{hh:Heap}(g:Good Z ψ hh.get w B0 O)(hz:∀b,Z b→Z' b):∀{cs:List AV} {vs:List Value},(∀id b,AV.bL id∈cs→hh.get id≠none→ob (ψ id)=some b→Z' b)→ax Z ψ hh.get w cs vs→ax Z' ψ hh.get w (cs.map (cX hh)) vs
 |[],_,_,hr=>by simpa only[ax,List.map_nil] using hr
 |a::r,_,hb,hr=>by simp only[ax,List.map_cons]at hr ⊢;obtain⟨v,us,rfl,h1,h2⟩:=hr;exact⟨v,us,rfl,Gc g hz (fun id b e=>hb id b (by rw[e];simp)) h1,oR g hz (fun id b e=>hb id b (abC _ e)) h2⟩
theorem Qe(hh:Heap)(a:AV):∀id o,(drop1 hh a).get id=some o→hh.get id=some o:=by
 intro id o hg;unfold drop1 at hg
 grind [Heap.wE]
theorem dZ:∀(cs:List AV) (hh:Heap),∀id o,(cO hh cs).get id=some o→hh.get id=some o
 |[],_,_,_,hg=>hg
 |c::r,hh,id,o,hg=>Qe hh c id o (dZ r (drop1 hh c) id o hg)
theorem Cg:∀(cs:List AV) (hh:Heap) (id:Nat),AV.bL id∈cs→(cO hh cs).get id=none
 |[],_,_,hm=>by simp at hm
 |c::r,hh,id,hm=>by
  simp only[cO];rcases abL.1 hm with rfl|hm
  ·cases hg:(cO (drop1 hh (.bL id)) r).get id with
   |none=>rfl
   |some o =>have:=dZ r _ id o hg;simp only[drop1,Heap.gQ]at this;cases this
  ·exact Cg r _ id hm
theorem qe:∀(cs:List AV) (hh:Heap) (id:Nat),AV.bL id∉cs→(cO hh cs).get id=hh.get id
 |[],_,_,_=>rfl
 |c::r,hh,id,hm=>by
  simp only[cO];rw[qe r _ id (fun h=>hm (List.mem_cons_of_mem _ h))];unfold drop1
  split
  ·rename_i oO;exact Heap.jh (fun e=>hm (by rw[e];simp)) hh
  ·rfl
def rJ(Z:Nat→Prop)(ψ:Nat→Value)(h:Hp)(cs:List AV):Nat→Prop:=fun b=>Z b∨∃id,AV.bL id∈cs∧h id≠none∧ob (ψ id)=some b
theorem ji{hh:Heap}(g:Good Z ψ hh.get w B0 O)(cs:List AV):Good (rJ Z ψ hh.get cs) ψ (cO hh cs).get w B0 O :=g.freeze (dZ cs hh) (fun _ hb=>.inl hb) (fun b hb=>by
  rcases hb with hb|⟨id,h1,h2,h3⟩
  ·exact .inl hb
  grind [id,Cg])
end Go.Vs
namespace Go.Vs
def Own(ψ:Nat→Value)(h:Hp)(b:Nat):Prop:=∃id,h id≠none∧ob (ψ id)=some b
structure cP(ψ:Nat→Value)(h:Hp)(w w':World):Prop where
 os:w'.os=w.os
 tape:w'.tape=w.tape
 output:w'.output=w.output
 size:w.heap.size≤w'.heap.size
 block:∀b,b<w.heap.size→¬Own ψ h b→w'.heap[b]? = w.heap[b]?
structure Next(Z:Nat→Prop)(ψ:Nat→Value)(h:Hp)(w:World)(B0:Nat)(O:Nat→Prop)(N:Nat→Prop)(Z':Nat→Prop)(ψ':Nat→Value)(h':Hp)(w':World):Prop where
 gk:∀b,Z b→Z' b
 eP:∀b,Z' b→Z b∨Own ψ h b∨w.heap.size≤b
 keep:cP ψ h w w'
 ids:∀id,h' id≠none→(h id≠none∧ψ' id=ψ id)∨N id
 dv:Good Z' ψ' h' w' B0 O
variable {Z Z':Nat→Prop} {ψ ψ':Nat→Value} {h h':Hp} {w w':World} {B0:Nat} {O:Nat→Prop} {N:Nat→Prop}
theorem cP.refl(ψ:Nat→Value)(h:Hp)(w:World):cP ψ h w w:=⟨rfl,rfl,rfl,acW _,fun _ _ _=>rfl⟩
theorem cP.same(k:cP ψ h w w')(g:Good Z ψ h w B0 O):cw Z w w':=fun b hb=>k.block b (g.kg b hb) (fun⟨id,h1,h2⟩=>(g.live id b h1 h2).1 hb)
theorem Next.same(n:Next Z ψ h w B0 O N Z' ψ' h' w')(g:Good Z ψ h w B0 O):cw Z w w':=n.keep.same g
theorem Next.refl(g:Good Z ψ h w B0 O):Next Z ψ h w B0 O N Z ψ h w :=⟨fun _ h=>h,fun _ h=>.inl h,cP.refl _ _ _,fun _ bM=>.inl ⟨bM,rfl⟩,g⟩
theorem Next.rep(n:Next Z ψ h w B0 O N Z' ψ' h' w')(g:Good Z ψ h w B0 O){a:AV}{v:Value}(hm:aM (fun id=>¬N id) a)(hr:aC Z ψ h w a v):aC Z' ψ' h' w' a v :=hr.move n.gk (n.same g) (fun id hp bM=>(n.ids id bM).resolve_right hp) hm
theorem Good.bP(g:Good Z ψ h w B0 O){b:Nat}(ho:Own ψ h b):b<w.heap.size:=by
 obtain⟨id,h1,h2⟩:=ho;obtain⟨o,ho⟩:=acb.1 h1
 cases o with
 |box ty cs =>
  obtain⟨gg,vs,e1,e2,_⟩:=g.box id ty cs ho
  grind [ob,Option.some.injEq,Array.getElem?_eq_some_iff]
 |own ok x=>exact(g.row id ok x ho).lt h2
theorem Good.more(g:Good Z ψ h w B0 O)(k:cP ψ h w w')(uP:∀b,Own ψ h b→w'.heap[b]? = w.heap[b]?) (hold:∀id,¬N id→h' id=h id∧ψ' id=ψ id) (bu:∀id ty cs,h id=some (.box ty cs)→aD (fun i=>¬N i) cs) (aa6:∀id ty cs,N id→h' id=some (.box ty cs)→∃g vs,ψ' id=.pointer (some ⟨g,0,none⟩)∧w'.heap[g]? = some (.cells vs ty (0,0))∧ax Z ψ' h' w' cs vs.toList∧∀u∈vs.toList,u.oneCell'=true) (oS:∀id ok x,N id→h' id=some (.own ok x)→jH Z w' ok (ψ' id) x) (Gd:∀id b,N id→h' id≠none→ob (ψ' id)=some b→w.heap.size≤b) (aa7:∀id oO b,N id→N oO→h' id≠none→h' oO≠none→ob (ψ' id)=some b→ob (ψ' oO)=some b→id=oO) (hB:B0≤w.heap.size) :
  Next Z ψ h w B0 O N Z ψ' h' w':=by
 have rB:∀id,h' id≠none→(h id≠none∧ψ' id=ψ id)∨N id:=fun id bM=>by
  grind
 have sm:cw Z w w':=k.same g;have Ge:∀id b,¬N id→h' id≠none→ob (ψ' id)=some b→Own ψ h b:=fun id b hn h1 h2=>by obtain⟨e1,e2⟩:=hold id hn;exact⟨id,by rwa [e1]at h1,by rwa [e2]at h2⟩
 refine⟨fun _ h=>h,fun _ h=>.inl h,k,rB,⟨fun id ty cs hb=>?_,fun id ok x hb=>?_,fun id b h1 h2=>?_,fun id oO b h1 h2 h3 h4=>?_,fun b hb=>ac6 (g.kg b hb) k.size⟩⟩
 ·by_cases hn:N id
  ·grind
  ·obtain⟨e1,e2⟩:=hold id hn;rw[e1]at hb;obtain⟨gg,vs,h1,h2,h3,h4⟩:=g.box id ty cs hb;have ho:Own ψ h gg:=⟨id,by rw[hb];simp,by rw[h1];rfl⟩;exact⟨gg,vs,by rw[e2,h1],(uP gg ho).trans h2,h3.move (fun _ h=>h) sm (fun i hp bM=>(rB i bM).resolve_right hp) (bu id ty cs hb),h4⟩
 ·by_cases hn:N id
  ·simp_all
  ·obtain⟨e1,e2⟩:=hold id hn;rw[e1]at hb;rw[e2];exact(g.row id ok x hb).kept (fun _ h=>h) sm (fun gg Qf=>uP gg ⟨id,by rw[hb];simp,Qf⟩)
 ·by_cases hn:N id
  ·have:=Gd id b hn h1 h2;exact⟨fun hz=>by have:=g.kg b hz;omega,.inl (by omega)⟩
  ·obtain⟨e1,e2⟩:=hold id hn;rw[e1]at h1;rw[e2]at h2;exact g.live id b h1 h2
 ·by_cases hn:N id<;>by_cases Qg:N oO
  ·grind
  ·have:=Gd id b hn h1 h3;have:=g.bP (Ge oO b Qg h2 h4);omega
  ·have:=Gd oO b Qg h2 h4;have:=g.bP (Ge id b hn h1 h3);omega
  ·obtain⟨e1,e2⟩:=hold id hn;obtain⟨e3,e4⟩:=hold oO Qg;rw[e1]at h1;rw[e2]at h3;rw[e3]at h2;rw[e4]at h4;exact g.apart id oO b h1 h2 h3 h4
end Go.Vs
namespace Go.Vs
variable {P:Program} {Z Z':Nat→Prop} {ψ ψ':Nat→Value} {h h':Hp} {w w':World} {B0:Nat} {O:Nat→Prop} {N:Nat→Prop}
theorem tx{α:Type}:∀(vs cs:List α) (off:Nat),off+vs.length≤cs.length→dX cs off vs=cs.take off++vs++cs.drop (off+vs.length)
 |[],cs,off,_=>by simp[dX]
 |v::r,cs,off,hl=>by
  simp only[List.length_cons]at hl;simp only[dX];rw[tx r (cs.set off v) (off+1) (by rw[List.length_set];omega)];have h1:(cs.set off v).take (off+1)=cs.take off++[v]:=by rw[List.take_set,List.take_succ_eq_append_getElem (by omega),List.set_append_right _ _ (by rw[List.length_take];omega)];rw[List.length_take,Nat.min_eq_left (by omega)];simp
  have h2:(cs.set off v).drop (off+1+r.length)=cs.drop (off+(r.length+1)):=by rw[List.drop_set_of_lt (by omega)];congr 1;omega
  rw[h1,h2,List.append_assoc,List.append_assoc,List.append_assoc];rfl
theorem gG{t:TypeId}{b:Bool}(hb:F7 P t=some b):(isAgg t).run P w=.ok b w:=by
 unfold F7 at hb;obtain⟨d,hd,rfl⟩:=ac1.1 hb;simp only[isAgg,Sem.run_bind,run_underlying hd,Result.andThen_ok]
 cases d<;>rfl
theorem uQ{t:TypeId}{d:TypeDesc}(hd:P.underlying t=some d):∃i,P.info? t=some i:=by
 grind [Program.underlying]
theorem dD{t:TypeId}{i:TypeInfo}(hi:P.info? t=some i):(sizeOf t).run P w=.ok (P.cellsOf t) w:=by simp[sizeOf,typeInfo,hi,Program.cellsOf]
theorem Ad{t:TypeId}{b:Bool}(hb:F7 P t=some b):∃i,P.info? t=some i:=by unfold F7 at hb;obtain⟨d,hd,rfl⟩:=ac1.1 hb;exact uQ hd
theorem kh{t:TypeId}{cs:List AV}{us:List Value}{a:Addr}{x:AV}(hr:ax Z ψ h w cs us)(hc:∀(j:Nat) u,us[j]? = some u→w.cell? (a.add j)=some u)(hx:dY P t cs=some x) :
  ∃V,(Instr.loadAt t (.pointer (some a))).run P w=.ok V w∧aC Z ψ h w x V:=by
 unfold dY at hx;have hlen:=hr.length
 split at hx
 ·rename_i hb
  split at hx
  ·rename_i hl
   cases hx
   obtain⟨i,hi⟩:=Ad hb;refine⟨.agg (us.take (P.cellsOf t)).toArray,?_,by simp only[aC];exact⟨_,rfl,by simpa using hr.take (P.cellsOf t)⟩⟩;have aH:(us.take (P.cellsOf t)).length=P.cellsOf t:=by simp_all
   have hld:=run_loadCells_list (P:=P) w a (us.take (P.cellsOf t)) (fun j v hv=>hc j v (by
    grind))
   simp_all [Instr.loadAt,Instr.sureAddr,loadVar,gG,dD]
  ·cases hx
 ·rename_i hb
  split at hx
  ·rename_i c r
   cases hx
   simp only[ax]at hr;obtain⟨v,jt,rfl,h1,h2⟩:=hr;refine⟨v,?_,h1⟩;have:=hc 0 v rfl;simp_all [Gb,Instr.loadAt,Instr.sureAddr,loadVar,gG]
  ·cases hx
 ·cases hx
theorem lG{t:TypeId}{i:TypeInfo}(hi:P.info? t=some i)(g off:Nat)(V:Value)(cur:Array Value)(ty:TypeId)(hg:w.heap[g]? = some (.cells cur ty (0,0)))(hs:V.cells.size=P.cellsOf t) (hl:off+V.cells.size≤cur.size) (h1:∀v∈V.cells.toList,v.oneCell'=true) :
  (Instr.storeAt t (.pointer (some ⟨g,off,none⟩)) V).run P w=.ok () (w.setRow g (cur.toList.take off++V.cells.toList++cur.toList.drop (off+V.cells.size)).toArray):=by
 have Ae:=run_storeCells_at P g off ty V.cells.toList 0 cur w hg (by simpa using hl) h1;simp_all [Nat.add_zero,Array.length_toList,Instr.storeAt,Instr.sureAddr,storeVar,dD]
def dW{α:Type}(f:Nat→α)(i:Nat)(v:α):Nat→α:=fun j=>if j=i then v else f j
theorem bp{α:Type}(f:Nat→α)(i:Nat)(v:α):dW f i v i=v:=by simp[dW]
theorem dq{α:Type}(f:Nat→α){i j:Nat}(v:α)(bw:j≠i):dW f i v j=f j:=by simp[dW,bw]
theorem cP.alloc(ψ:Nat→Value)(h:Hp)(w:World)(o:Obj):cP ψ h w (w.alloc o) :=⟨rfl,rfl,rfl,by simp_all,fun b hb _=>heap_alloc_old w o hb⟩
theorem Ch(g:Good Z ψ h w B0 O)(hB:B0≤w.heap.size)(id:Nat)(ty:TypeId){cs:List AV}{vs:Array Value}(hN:N id)(hr:ax Z ψ h w cs vs.toList)(h1:∀u∈vs.toList,u.oneCell'=true) (bu:∀i ty cs,h i=some (.box ty cs)→aD (fun i=>i≠id) cs) (hm:aD (fun i=>i≠id) cs) :
  Next Z ψ h w B0 O N Z (dW ψ id (.pointer (some ⟨w.heap.size,0,none⟩))) (dW h id (some (.box ty cs))) (w.alloc (.cells vs ty)):=by
 have n:Next Z ψ h w B0 O (·=id) Z (dW ψ id (.pointer (some ⟨w.heap.size,0,none⟩))) (dW h id (some (.box ty cs))) (w.alloc (.cells vs ty)):=by
  refine g.more (cP.alloc _ _ _ _) (fun b hb=>heap_alloc_old w _ (g.bP hb)) (fun i hi=>⟨dq _ _ hi,dq _ _ hi⟩) (fun i Js cs' hb=>?_) (fun i Js cs' hi hb=>?_) (fun i ok x hi hb=>?_) (fun i b hi bw hb=>?_) (fun i i' b hi yl _ _ _ _=>by omega) hB
  ·grind
  ·subst hi;rw[bp]at hb;cases hb;refine⟨w.heap.size,vs,bp _ _ _,heap_alloc_new _ _,?_,h1⟩;refine hr.move (fun _ h=>h) ((cP.alloc ψ h w _).same g) (fun j hj bw=>?_) hm
   grind [dq]
  ·grind [bp]
  grind [bp,ob,Option.some.injEq]
 exact⟨n.gk,n.eP,n.keep,fun i hi=>(n.ids i hi).imp (fun h=>h) (fun e=>by simp_all),n.dv⟩
theorem SM{h:Hp}{id:Nat}{o:Ob}(bM:h id≠none):∀i,dW h id (some o) i≠none→h i≠none:=fun i hi=>by
 grind [id,dq]
theorem Good.write(g:Good Z ψ h w B0 O)(id:Nat)(bM:h id≠none)(k:cP ψ h w w')(SO:∀b,ob (ψ id)≠some b→b<w.heap.size→w'.heap[b]? = w.heap[b]?)(o':Ob) (aa6:∀ty cs,o'=.box ty cs→∃gg vs,ψ id=.pointer (some ⟨gg,0,none⟩)∧w'.heap[gg]? = some (.cells vs ty (0,0))∧ax Z ψ h w' cs vs.toList∧∀u∈vs.toList,u.oneCell'=true) (oS:∀ok x,o'=.own ok x→jH Z w' ok (ψ id) x) :
  Next Z ψ h w B0 O N Z ψ (dW h id (some o')) w':=by
 have hs:=SM (o:=o') bM;have sm:=k.same g;refine⟨fun _ h=>h,fun _ h=>.inl h,k,fun i hi=>.inl ⟨hs i hi,rfl⟩,⟨fun i ty cs hb=>?_,fun i ok x hb=>?_,fun i b h1 h2=>g.live i b (hs i h1) h2,fun i i' b h1 h2 h3 h4=>g.apart i i' b (hs i h1) (hs i' h2) h3 h4,fun b hb=>ac6 (g.kg b hb) k.size⟩⟩
 ·by_cases e:i=id
  ·subst e;rw[bp]at hb;cases hb;obtain⟨gg,vs,h1,h2,h3,h4⟩:=aa6 _ _ rfl;exact⟨gg,vs,h1,h2,h3.less (fun _ h=>h) (cw.refl _ _) (fun j hj=>⟨hs j hj,rfl⟩),h4⟩
  ·rw[dq _ _ e]at hb;obtain⟨gg,vs,h1,h2,h3,h4⟩:=g.box i ty cs hb;refine⟨gg,vs,h1,?_,h3.less (fun _ h=>h) sm (fun j hj=>⟨hs j hj,rfl⟩),h4⟩;rw[SO gg (fun hh=>e (g.apart i id gg (by rw[hb];simp) bM (by rw[h1];rfl) hh)) (Array.getElem?_eq_some_iff.1 h2).1];exact h2
 ·by_cases e:i=id
  ·subst e;rw[bp]at hb;cases hb;exact oS _ _ rfl
  ·rw[dq _ _ e]at hb;exact(g.row i ok x hb).kept (fun _ h=>h) sm (fun gg Qf=>SO gg (fun hh=>e (g.apart i id gg (by rw[hb];simp) bM Qf hh)) (g.bP ⟨i,by rw[hb];simp,Qf⟩))
theorem cP.setRow{gg:Nat}(ho:Own ψ h gg)(arr:Array Value):cP ψ h w (w.setRow gg arr) :=⟨rfl,rfl,rfl,by simp[World.setRow],fun b _ hb=>by have:gg≠b:=fun e=>hb (e▸ho);simp[World.setRow,Array.getElem?_modify,this]⟩
theorem setRow_other{gg b:Nat}(arr:Array Value)(bw:gg≠b):(w.setRow gg arr).heap[b]? = w.heap[b]? := by simp[World.setRow,Array.getElem?_modify,bw]
theorem Ci(g:Good Z ψ h w B0 O){id:Nat}{ty:TypeId}{cs vs:List AV}(hb:h id=some (.box ty cs)){t:TypeId}{i:TypeInfo}(hi:P.info? t=some i){off:Nat}{V:Value} (hv:ax Z ψ h w vs V.cells.toList) (h1:∀u∈V.cells.toList,u.oneCell'=true) (hs:V.cells.size=P.cellsOf t) (hl:off+vs.length≤cs.length) {a:Addr} (ha:a=⟨XT (ψ id),off,none⟩) :
  ∃w',(Instr.storeAt t (.pointer (some a)) V).run P w=.ok () w'∧Next Z ψ h w B0 O N Z ψ (dW h id (some (.box ty (dX cs off vs)))) w':=by
 obtain⟨gg,arr,e1,e2,e3,e4⟩:=g.box id ty cs hb;have hlen:=hv.length;have SP:=e3.length;simp only[Array.length_toList]at hlen SP;have bM:h id≠none:=by rw[hb];simp
 have ho:Own ψ h gg:=⟨id,bM,by rw[e1];rfl⟩;rw[e1]at ha;simp only[XT]at ha;subst ha;refine⟨_,lG hi gg off V arr ty e2 hs (by omega) h1,?_⟩;have kk:=cP.setRow (w:=w) ho ((arr.toList.take off++V.cells.toList++arr.toList.drop (off+V.cells.size)).toArray);refine g.write id bM kk (fun b hb _=>setRow_other _ (fun e=>hb (by grind [ob]))) _ (fun Js cs' he=>?_) (fun _ _ he=>by cases he)
 cases he
 refine⟨gg,_,e1,setRow_heap w gg arr _ ty _ e2,?_,?_⟩
 ·rw[tx _ _ _ hl];have h5:ax Z ψ h w (cs.take off++vs++cs.drop (off+vs.length)) (arr.toList.take off++V.cells.toList++arr.toList.drop (off+V.cells.size)):=by rw[←hlen];exact((e3.take off).append hv).append (e3.drop (off+vs.length))
  exact h5.less (fun _ h=>h) (kk.same g) (fun j hj=>⟨hj,rfl⟩)
 grind
theorem aa8{α:Type}(cur V:List α)(m off sz L:Nat)(h:off+V.length≤sz)(h1:m+sz≤L)(h2:L≤cur.length) :
  ((cur.take (m+off)++V++cur.drop (m+off+V.length)).take L |>.drop m |>.take sz)=((cur.drop m).take sz).take off++V++((cur.drop m).take sz).drop (off+V.length):=by
 apply adf;intro q;simp only[List.getElem?_take,List.getElem?_drop,List.getElem?_append,List.length_append,List.length_take,List.length_drop]
 grind
theorem XU{α:Type}(cur V:List α)(m off sz L p:Nat)(h:off+V.length≤sz)(h1:m+sz≤L)(h2:L≤cur.length)(h3:p+sz≤L)(h4:p+sz≤m∨m+sz≤p) :
  ((cur.take (m+off)++V++cur.drop (m+off+V.length)).take L |>.drop p |>.take sz)=(cur.drop p).take sz:=by
 apply adf;intro q;simp only[List.getElem?_take,List.getElem?_drop,List.getElem?_append,List.length_append,List.length_take]
 grind
theorem aL.oT{k:K}{x:k.T}{vs us:List Value}(e:vs=us)(hr:aL Z w k x vs):aL Z w k x us:=e▸hr
theorem Cj(g:Good Z ψ h w B0 O){id:Nat}{ty:TypeId}{kk:K}{xs:List kk.T}(hb:h id=some (.own (.row ty kk) xs)){t:TypeId}{i:TypeInfo}(hi:P.info? t=some i){n off:Nat}{x y:kk.T}{V:Value} (hx:xs[n]? = some x) (hs:V.cells.size=P.cellsOf t) (hl:off+V.cells.size≤kk.sz) {a:Addr} (ha:a=⟨XT (ψ id),n*kk.sz+off,none⟩) (hy:∀us,aL Z w kk x us→aL Z w kk y (us.take off++V.cells.toList++us.drop (off+V.cells.size))) (h1:∀u∈V.cells.toList,u.oneCell'=true) :
  ∃w',(Instr.storeAt t (.pointer (some a)) V).run P w=.ok () w'∧Next Z ψ h w B0 O N Z ψ (dW h id (some (.own (.row ty kk) (xs.set n y)))) w':=by
 obtain⟨vs,ho,hv⟩:=g.row id (.row ty kk) xs hb;have bM:h id≠none:=by rw[hb];simp
 have hn:n<xs.length:=(abJ.1 hx).1;have E7:=kk.gF;have hmul:n*kk.sz+kk.sz≤xs.length*kk.sz:=by rw[←Nat.succ_mul];exact acT _ hn
 obtain⟨hl1,e⟩:=ho;rcases e with⟨h0,_⟩|⟨gg,cap,cur,e1,e2,e3,e4,e5,e6,e7⟩
 ·omega
 have SQ:xs.length*kk.sz≤cap*kk.sz:=acT _ e4;have oz:ob (ψ id)=some gg:=by rw[e1];simp only[ob];rw[if_neg (by omega)]
 have ho:Own ψ h gg:=⟨id,bM,oz⟩;have JJ:a=⟨gg,n*kk.sz+off,none⟩:=by rw[ha,e1];rfl
 subst JJ;refine⟨_,lG hi gg (n*kk.sz+off) V cur ty e3 hs (by omega) h1,?_⟩;have hk:=cP.setRow (w:=w) ho ((cur.toList.take (n*kk.sz+off)++V.cells.toList++cur.toList.drop (n*kk.sz+off+V.cells.size)).toArray);have sm:=hk.same g;refine g.write id bM hk (fun b hb _=>setRow_other _ (fun e=>hb (by rw[oz,e]))) _ (fun _ _ he=>by cases he) (fun XQ x' he=>?_)
 cases he
 have uR:cur.toList.length=cap*kk.sz:=by rw[Array.length_toList];exact e6
 have hVl:V.cells.toList.length=V.cells.size:=Array.length_toList
 let gx:=cur.toList.take (n*kk.sz+off)++V.cells.toList++cur.toList.drop (n*kk.sz+off+V.cells.size)
 have E8:gx.length=cap*kk.sz:=by simp only[gx,List.length_append,List.length_take,List.length_drop,uR,hVl];omega
 have XV:(xs.set n y).length=xs.length:=List.length_set;have tz:vs=cur.toList.take (xs.length*kk.sz):=e7.symm;refine⟨gx.take (xs.length*kk.sz),⟨by rw[List.length_take,E8,XV];omega,.inr ⟨gg,cap,gx.toArray,by rw[XV];exact e1,e2,setRow_heap w gg cur _ ty _ e3,by rw[XV];exact e4,e5,by simpa using E8,by rw[XV]⟩⟩,fun j z hz=>?_⟩;have hj:j<xs.length:=by have:=(abJ.1 hz).1;rwa [XV]at this
 have hmj:j*kk.sz+kk.sz≤xs.length*kk.sz:=by rw[←Nat.succ_mul];exact acT _ hj
 have XW:∀p,p+kk.sz≤xs.length*kk.sz→(vs.drop p).take kk.sz=(cur.toList.drop p).take kk.sz:=fun p hp=>by rw[tz,List.drop_take,List.take_take,Nat.min_eq_left (by omega)]
 by_cases Sk:j=n
 ·subst Sk;rw[List.getElem?_set_self hn]at hz;cases hz;have hu:=hy _ (hv j x hx);rw[XW _ hmj,←hVl]at hu;refine aL.mono (fun _ h=>h) sm (aL.oT ?_ hu);have:=aa8 cur.toList V.cells.toList (j*kk.sz) off kk.sz (xs.length*kk.sz) (by omega) hmj (by omega);rw[←this,hVl]
 ·rw[List.getElem?_set_ne (fun e=>Sk e.symm)]at hz;have hu:=hv j z hz;rw[XW _ hmj]at hu;refine aL.mono (fun _ h=>h) sm (aL.oT ?_ hu);have h4:j*kk.sz+kk.sz≤n*kk.sz∨n*kk.sz+kk.sz≤j*kk.sz:=by
   rcases Nat.lt_or_ge j n with h|h
   ·left;rw[←Nat.succ_mul];exact acT _ h
   ·right;rw[←Nat.succ_mul];exact acT _ (by omega)
  have:=XU cur.toList V.cells.toList (n*kk.sz) off kk.sz (xs.length*kk.sz) (j*kk.sz) (by omega) hmul (by omega) hmj h4;rw[←this,hVl]
theorem vA{k:K}{ys:List k.T}{u:Value}(hr:aL Z w (.sl k) ys [u]) :
  (u=.slice none 0 0∧ys=[])∨∃a c news,u=.slice (some a) ys.length c∧ys.length≤c∧news.length=ys.length*k.sz∧(∀(j:Nat) q,news[j]? = some q→w.cell? (a.add j)=some q)∧(∀q∈news,q.oneCell'=true)∧kR Z w k ys news:=by
 simp only[aL]at hr;obtain⟨v,hv,A,c,rfl,hl,hn,he⟩:=hr
 cases hv
 cases A with
 |none =>simp_all
 |some a =>
  right;have N7:∀i (hi:i<ys.length),∃us,aL Z w k ys[i] us∧∀(j:Nat) u,us[j]? = some u→w.cell? (a.add (i*k.sz+j))=some u:=fun i hi=>by simp_all
  have E7:=k.gF
  let news:=(List.range (ys.length*k.sz)).map fun j=>(w.cell? (a.add j)).getD default
  have ZB:∀j,j<ys.length*k.sz→∃q,w.cell? (a.add j)=some q∧q.oneCell'=true:=fun j hj=>by
   have hi:j / k.sz<ys.length:=Nat.div_lt_of_lt_mul (by grind);obtain⟨us,h3,h4⟩:=N7 (j / k.sz) hi;have hm:j%k.sz<us.length:=by rw[h3.len];exact adp _ E7
   refine⟨us[j%k.sz],?_,h3.one _ (acv hm)⟩
   grind [List.getElem?_eq_getElem,Nat.mul_comm,Nat.div_add_mod]
  have wG:∀j,j<ys.length*k.sz→∃q,news[j]? = some q∧w.cell? (a.add j)=some q:=fun j hj=>by
   grind
  have hlen:news.length=ys.length*k.sz:=by simp[news]
  refine⟨a,c,news,rfl,hl,hlen,fun j q hq=>?_,fun q hq=>?_,fun i x hx=>?_⟩
  ·grind
  ·grind
  ·have hi:i<ys.length:=(abJ.1 hx).1;obtain⟨us,h3,h4⟩:=N7 i hi;rw[List.getElem?_eq_getElem hi]at hx;cases hx;refine aL.oT ?_ h3;have hul:=h3.len;have hmul:i*k.sz+k.sz≤ys.length*k.sz:=by rw[←Nat.succ_mul];exact acT _ hi
   apply adf
   grind
theorem Qh{hh:Heap}(g:Good Z ψ hh.get w B0 O){x:AV}{u:Value}{k:K}{ys:List k.T}(hx:rowOf hh x k=some ys)(hr:aC Z ψ hh.get w x u) :
  (u=.slice none 0 0∧ys=[])∨∃a c news,u=.slice (some a) ys.length c∧ys.length≤c∧news.length=ys.length*k.sz∧(∀(j:Nat) q,news[j]? = some q→w.cell? (a.add j)=some q)∧(∀q∈news,q.oneCell'=true)∧kR Z w k ys news:=by
 unfold rowOf at hx
 split at hx
 ·rename_i ex k' xs heq
  split at hx
  ·rename_i e;subst e
   cases hx
   cases x with
   |sl ex' k'' xs' =>
    simp only[cX]at heq
    cases heq
    simp only[aC]at hr;exact vA hr.1
   |bL id =>
    simp only[cX]at heq
    split at heq
    ·rename_i ty kk zs hg
     cases heq
     simp only[aC]at hr;have hv:=hr.2 (by rw[hg];simp);subst hv;obtain⟨vs,ho,hv⟩:=g.row id (.row ty _) _ hg;have h1:=vA (wF (Z':=fun b=>Z b∨ob (ψ id)=some b) ho hv (fun b hb=>.inl hb) (fun b hb=>.inr hb));rcases h1 with h1|⟨a,c,news,h1,h2,h3,h4,h5,_⟩
     ·exact .inl h1
     ·right;refine⟨a,c,news,h1,h2,h3,h4,h5,?_⟩;have Mu:news=vs:=by
       obtain⟨hl,e⟩:=ho;rcases e with⟨e,_⟩|⟨gg,cap,cur,e,_,e3,_,_,_,e7⟩
       ·rw[e,Nat.zero_mul]at h3 hl;rw[List.eq_nil_of_length_eq_zero h3,List.eq_nil_of_length_eq_zero hl]
       ·rw[e]at h1;cases h1;apply adf;intro j;by_cases hj:j<xs.length*k'.sz
        ·have hn:=h4 j _ (aby (by omega));rw[cF,Nat.zero_add]at hn;simp only[World.cell?,e3]at hn;have Bu:vs[j]? = cur.toList[j]? := by rw[←e7,List.getElem?_take,if_pos hj]
         rw[Bu,List.getElem?_eq_getElem (by omega)];simpa using hn.symm
        ·rw[List.getElem?_eq_none (by omega),List.getElem?_eq_none (by omega)]
      rw[Mu];exact hv
    ·cases heq
    ·cases heq
   |_=>simp only[cX]at heq<;>cases heq
  ·cases hx
 ·rename_i heq
  cases hx
  cases x with
  |fO=>simp only[aC]at hr;exact .inl ⟨hr,rfl⟩
  |bL id=>simp only[cX]at heq;split at heq<;>cases heq
  |_=>simp only[cX]at heq<;>cases heq
 ·cases hx
structure od(P:Program)(e:TypeId)(k:K)(i:TypeInfo)(z:Value):Prop where
 info:P.info? e=some i
 zero:i.zero=some z
 size:i.size=k.sz
 wH:z.cells.size=k.sz
 bytes:i.bytes≤65536
theorem cm{e:TypeId}{k:K}(he:yq P e k=true):∃i z,od P e k i z:=by
 unfold yq at he
 split at he
 ·rename_i i hi
  split at he
  ·rename_i z hz;simp only[Bool.and_eq_true,decide_eq_true_eq]at he;exact⟨i,z,hi,hz,he.1,he.2.1,he.2.2⟩
  ·cases he
 ·cases he
theorem kR.append{k:K}{xs ys:List k.T}{vs us:List Value}(h1:kR Z w k xs vs)(h2:kR Z w k ys us)(hl:vs.length=xs.length*k.sz):kR Z w k (xs++ys) (vs++us):=fun i x hx=>by
 by_cases hi:i<xs.length
 ·rw[List.getElem?_append_left hi]at hx;have hm:i*k.sz+k.sz≤xs.length*k.sz:=by rw[←Nat.succ_mul];exact acT _ hi
  have h3:=h1 i x hx;rw[List.drop_append_of_le_length (by omega),List.take_append_of_le_length (by rw[List.length_drop];omega)];exact h3
 ·rw[List.getElem?_append_right (by omega)]at hx;have h3:=h2 (i-xs.length) x hx;have e:i*k.sz=vs.length+(i-xs.length)*k.sz:=by rw[hl,←Nat.add_mul];congr 1;omega
  rw[e,List.drop_append,List.drop_eq_nil_of_le (by omega),List.nil_append,Nat.add_sub_cancel_left];exact h3
theorem kR.Ck{k:K}{xs:List k.T}{vs:List Value}(h:kR Z w k xs vs)(sm:cw Z w w'):kR Z w' k xs vs:=fun i x hx=>(h i x hx).mono (fun _ h=>h) sm
theorem JK(g:Good Z ψ h w B0 O)(hB:B0≤w.heap.size)(id:Nat)(hN:N id){ok:OK}{x:ok.T}{v:Value}(kk:cP ψ h w w')(uP:∀b,Own ψ h b→w'.heap[b]? = w.heap[b]?) (ho:jH Z w' ok v x) (hb:∀b,ob v=some b→w.heap.size≤b) (bu:∀i ty cs,h i=some (.box ty cs)→aD (fun i=>i≠id) cs) :
  Next Z ψ h w B0 O N Z (dW ψ id v) (dW h id (some (.own ok x))) w':=by
 have n:Next Z ψ h w B0 O (·=id) Z (dW ψ id v) (dW h id (some (.own ok x))) w':=by
  refine g.more kk uP (fun i hi=>⟨dq _ _ hi,dq _ _ hi⟩) (fun i Js cs' hb=>bu i Js cs' hb) (fun i Js cs' hi hb=>?_) (fun i ok x hi hb=>?_) (fun i b hi bw hbb=>?_) (fun i i' b hi yl _ _ _ _=>by omega) hB
  ·grind [bp]
  ·grind [bp]
  grind [bp]
 exact⟨n.gk,n.eP,n.keep,fun i hi=>(n.ids i hi).imp (fun h=>h) (fun e=>by simp_all),n.dv⟩
theorem oU(g:Good Z ψ h w B0 O)(hB:B0≤w.heap.size)(id:Nat)(ty:TypeId)(hN:N id){k:K}{xs:List k.T}{vs:List Value}{v:Value}(kk:cP ψ h w w')(uP:∀b,Own ψ h b→w'.heap[b]? = w.heap[b]?) (ho:dL w' ty k.sz v xs.length vs) (hv:kR Z w' k xs vs) (hb:∀b,ob v=some b→w.heap.size≤b) (bu:∀i ty cs,h i=some (.box ty cs)→aD (fun i=>i≠id) cs) :
  Next Z ψ h w B0 O N Z (dW ψ id v) (dW h id (some (.own (.row ty k) xs))) w':=JK g hB id hN (ok:=.row ty k) kk uP ⟨vs,ho,hv⟩ hb bu
theorem cP.grown{row:Option Nat}(hg:w.grownBy w' row)(hr:∀b,row=some b→Own ψ h b):cP ψ h w w' :=⟨hg.os,hg.tape,hg.output,hg.size,fun b hb hn=>hg.block b hb (fun e=>hn (hr b e.symm))⟩
theorem nE(g:Good Z ψ h w B0 O)(hB:B0≤w.heap.size)(id cH:Nat)(hN:N id){ok:OK}{x y:ok.T}(ho:h cH=some (.own ok x))(bw:cH≠id) (hg:w.grownBy w' (ob (ψ cH))) {v:Value} (hv:jH Z w' ok v y) (hb:ob v=ob (ψ cH)∨∀b,ob v=some b→w.heap.size≤b) (bu:∀i ty cs,h i=some (.box ty cs)→aD (fun i=>i≠id) cs) :
  Next Z ψ h w B0 O N Z (dW ψ id v) (dW (dW h cH none) id (some (.own ok y))) w':=by
 have hold:h cH≠none:=by rw[ho];simp
 have oz:∀b,ob (ψ cH)=some b→ob (ψ cH)=some b:=fun _ h=>h;have kk:cP ψ h w w':=cP.grown hg (fun b e=>⟨cH,hold,oz b e⟩);have sm:=kk.same g;have other:∀i b,h i≠none→i≠cH→ob (ψ i)=some b→w'.heap[b]? = w.heap[b]? := fun i b h1 h2 h3 =>hg.block b (g.bP ⟨i,h1,h3⟩) (fun e=>h2 (g.apart i cH b h1 hold h3 (oz b e.symm)));have at_:∀i,i≠id→dW (dW h cH none) id (some (.own ok y)) i≠none→h i≠none∧i≠cH:=fun i hi h1=>by
  rw[dq _ _ hi]at h1;by_cases e:i=cH
  ·subst e;rw[bp]at h1;exact absurd rfl h1
  ·rw[dq _ _ e]at h1;exact⟨h1,e⟩
 have ids:∀i,dW (dW h cH none) id (some (.own ok y)) i≠none→(h i≠none∧dW ψ id v i=ψ i)∨i=id:=fun i h1=>by
  by_cases e:i=id
  ·exact .inr e
  ·exact .inl ⟨(at_ i e h1).1,dq _ _ e⟩
 have vob:∀b,ob v=some b→ob (ψ cH)=some b∨w.heap.size≤b:=fun b hbb=>by
  rcases hb with hb|hb
  ·left;rw[←hb];exact hbb
  ·right;exact hb b hbb
 refine⟨fun _ h=>h,fun _ h=>.inl h,kk,fun i h1=>(ids i h1).imp (fun h=>h) (fun e=>by subst e;exact hN),⟨fun i Js cs rC=>?_,fun i XQ z rC=>?_,fun i b h1 h2=>?_,fun i i' b h1 h2 h3 h4=>?_,fun b hz=>ac6 (g.kg b hz) kk.size⟩⟩
 ·by_cases e:i=id
  ·subst e;rw[bp]at rC;cases rC
  ·have HP:=at_ i e (by rw[rC];simp);rw[dq _ _ e,dq _ _ HP.2]at rC;obtain⟨gg,us,h1,h2,h3,h4⟩:=g.box i Js cs rC;refine⟨gg,us,by rw[dq _ _ e];exact h1,(other i gg HP.1 HP.2 (by rw[h1];rfl)).trans h2,?_,h4⟩;exact h3.move (fun _ h=>h) sm (fun j hj hn=>(ids j hn).resolve_right hj) (bu i Js cs rC)
 ·by_cases e:i=id
  ·subst e;rw[bp]at rC;cases rC;rw[bp];exact hv
  ·have HP:=at_ i e (by rw[rC];simp);rw[dq _ _ e,dq _ _ HP.2]at rC;rw[dq _ _ e];exact(g.row i XQ z rC).kept (fun _ h=>h) sm (fun gg Qf=>other i gg HP.1 HP.2 Qf)
 ·by_cases e:i=id
  ·subst e;rw[bp]at h2;rcases vob b h2 with h3|h3
   ·exact g.live cH b hold h3
   ·exact⟨fun hz=>by have:=g.kg b hz;omega,.inl (by omega)⟩
  ·rw[dq _ _ e]at h2;exact g.live i b (at_ i e h1).1 h2
 ·have key:∀j,j≠id→dW (dW h cH none) id (some (.own ok y)) j≠none→ob (ψ j)=some b→ob v=some b→False:=fun j hj h5 h6 h7=>by
   obtain⟨h8,h9⟩:=at_ j hj h5;rcases vob b h7 with pY|pY
   ·exact h9 (g.apart j cH b h8 hold h6 pY)
   ·have:=g.bP ⟨j,h8,h6⟩;omega
  by_cases e:i=id<;>by_cases e':i'=id
  ·rw[e,e']
  ·subst e;rw[bp]at h3;rw[dq _ _ e']at h4;exact(key i' e' h2 h4 h3).elim
  ·subst e';rw[bp]at h4;rw[dq _ _ e]at h3;exact(key i e h1 h3 h4).elim
  ·rw[dq _ _ e]at h3;rw[dq _ _ e']at h4;exact g.apart i i' b (at_ i e h1).1 (at_ i' e' h2).1 h3 h4
def XX(w:World)(sz:Nat)(u:Value)(m:Nat)(news:List Value):Prop :=news.length=m*sz∧(∀q∈news,q.oneCell'=true)∧((u=.slice none 0 0∧m=0)∨∃a c,u=.slice (some a) m c∧∀(j:Nat) q,news[j]? = some q→w.cell? (a.add j)=some q)
theorem wJ{hh:Heap}(g:Good Z ψ hh.get w B0 O){x:AV}{u:Value}{k:K}{ys:List k.T}(hx:rowOf hh x k=some ys)(hr:aC Z ψ hh.get w x u):∃news,XX w k.sz u ys.length news∧kR Z w k ys news:=by
 rcases Qh g hx hr with⟨rfl,rfl⟩|⟨a,c,news,h1,_,h2,h3,h4,h5⟩
 ·exact⟨[],⟨by simp,by simp,.inl ⟨rfl,rfl⟩⟩,fun i x hx=>by simp at hx⟩
 ·exact⟨news,⟨h2,h4,.inr ⟨a,c,h1,h3⟩⟩,h5⟩
theorem fE{t ty e:TypeId}{i:TypeInfo}(ht:P.underlying t=some (.slice e))(hi:P.info? e=some i)(A:Option Addr)(n c:Nat)(hc:n≤c)(A':Option Addr)(c':Nat) :
  (Builtin.append_ #[t,t] ty #[.slice A n c,.slice A' 0 c']).run P w=.ok (.slice A n c) w:=by
 cases A<;>cases A'<;>simp[Builtin.append_,run_underlying ht,sizeOf,typeInfo,hi,Builtin.lenOf,Builtin.firstCells,hc,storeCells,loadCells,loadCellsFrom]
theorem dO{t ty e:TypeId}{k:K}{i:TypeInfo}{z:Value}(ht:P.underlying t=some (.slice e))(he:od P e k i z){v:Value}{n:Nat}{xs:List Value}(ho:dL w e k.sz v n xs) {u:Value} {m:Nat} {news:List Value} (hu:XX w k.sz u m news) (hm:n+m≤eY) :
  ∃v' w',(Builtin.append_ #[t,t] ty #[v,u]).run P w=.ok v' w'∧dL w' e k.sz v' (n+m) (xs++news)∧w.grownBy w' (ob v)∧(ob v'=ob v∨∀b,ob v'=some b→w.heap.size≤b):=by
 obtain⟨h1,h3,hu⟩:=hu;obtain⟨A0,c0,ZC⟩:=ho.slice;by_cases hm0:m=0
 ·subst hm0;have adx:news=[]:=ack (by omega);subst adx;have Af:n≤c0:=by
   rcases ho.2 with⟨h0,A,e⟩|⟨g,cap,cur,e,hc,h2,h3,_⟩
   ·omega
   simp_all
  refine⟨v,w,?_,by simpa using ho,World.grownBy.refl w _,.inl rfl⟩;subst ZC;rcases hu with⟨rfl,_⟩|⟨a,c,rfl,_⟩<;>exact fE ht he.info A0 n c0 Af _ _
 ·rcases hu with⟨_,h0⟩|⟨a,c,rfl,h2⟩
  ·omega
  have hb:=he.bytes;unfold eY at hm;have r9:(n+m)*i.bytes≤140737488355328:=acY (ad4 hm hb) (by decide);have new:∀v',w.heap.size≤w.heap.size→∀(w':World),w'.ownsRow w.heap.size e k.sz v' (n+m) (xs++news)→∀b,ob v'=some b→w.heap.size≤b:=fun v' _ w' rK b hb=>by
   rcases rK.2 with⟨rfl,_⟩|⟨g,cap,cur,rfl,h5,_⟩
   ·omega
   grind [ob]
  rcases ho.2 with⟨rfl,A,rfl⟩|⟨g,cap,cur,rfl,SQ,h4,h5,h6,h7,h8⟩
  ·have Cl:xs=[]:=ack (by rw[ho.1,Nat.zero_mul]);subst Cl;have oz:ob (.slice A 0 0)=none:=by cases A<;>simp[ob]
   cases A with
   |none =>obtain⟨v',w',hr,h4,h5,_,h6⟩:=run_append_own_at (P:=P) w w.heap.size t ty e i z k.sz i.bytes ht he.info he.zero he.size rfl he.wH k.gF (.slice none 0 0) 0 [] ⟨by simp,.inl ⟨rfl,rfl⟩⟩ a m c news h1 h2 h3 (by grind [maxLen]) r9 (acW _);exact⟨v',w',hr,dL.of h4,by rw[oz];exact h5,.inr (new v' (acW _) w' h4)⟩
   |some b0 =>obtain⟨v',w',hr,h4,h5⟩:=run_append_arg_grows (P:=P) w t ty e i z k.sz i.bytes ht he.info he.zero he.size rfl he.wH k.gF b0 0 0 [] (by simp) (by simp) a m c news h1 h2 (by omega) (by grind [maxLen]) r9;exact⟨v',w',hr,dL.of h4,by simp_all,.inr (new v' (acW _) w' h4)⟩
  ·have rD:w.ownsRow 0 e k.sz (.slice (some ⟨g,0,none⟩) n cap) n xs:=⟨ho.1,.inr ⟨g,cap,cur,rfl,adb _,h4,h5,h6,h7,h8⟩⟩;have oz:ob (.slice (some ⟨g,0,none⟩) n cap)=some g:=by simp only[ob];grind
   obtain⟨v',w',hr,h4,h5,_,h6⟩:=run_append_own_at (P:=P) w 0 t ty e i z k.sz i.bytes ht he.info he.zero he.size rfl he.wH k.gF _ n xs rD a m c news h1 h2 h3 (by grind [maxLen]) r9 (adb _);refine⟨v',w',hr,dL.of h4,by rw[oz];exact h5,?_⟩;rw[oz];rcases h4.2 with⟨rfl,h0⟩|⟨g',ai5,gx,rfl,_,_,h9,_⟩
   ·omega
   ·have ady:ob (.slice (some ⟨g',0,none⟩) (n+m) ai5)=some g':=by simp only[ob];grind
    grind [Value.ownBlock,Option.some.injEq]
theorem aC.og{h h':Hp}(hs:∀id o,h' id=some o→h id=some o){a:AV}{v:Value}(hr:aC Z ψ h w a v):aC Z ψ h' w a v :=hr.less (fun _ h=>h) (cw.refl _ _) (fun id bM=>by obtain⟨o,ho⟩:=acb.1 bM;simp_all)
theorem ax.og{h h':Hp}(hs:∀id o,h' id=some o→h id=some o){a:List AV}{v:List Value}(hr:ax Z ψ h w a v):ax Z ψ h' w a v :=hr.less (fun _ h=>h) (cw.refl _ _) (fun id bM=>by obtain⟨o,ho⟩:=acb.1 bM;simp_all)
theorem q9{hh:Heap}(g:Good Z ψ h w B0 O)(bz:∀id o,hh.get id=some o→h id=some o)(hB:B0≤w.heap.size){id:Nat}(hN:N id){t ty e:TypeId}{k:K}{i:TypeInfo}{z:Value}(ht:P.underlying t=some (.slice e))(he:od P e k i z) {x:AV} {u:Value} {ys:List k.T} (hx:rowOf hh x k=some ys) (hr:aC Z ψ h w x u) (hm:ys.length≤eY) (bu:∀i ty cs,h i=some (.box ty cs)→aD (fun i=>i≠id) cs) :
  ∃v' w',(Builtin.append_ #[t,t] ty #[.slice none 0 0,u]).run P w=.ok v' w'∧Next Z ψ h w B0 O N Z (dW ψ id v') (dW h id (some (.own (.row e k) ys))) w'∧v'.cells=#[v']∧v'.oneCell'=true:=by
 obtain⟨news,yD,hv⟩:=wJ (g.sub bz) hx (hr.og bz);have Mv:dL w e k.sz (.slice none 0 0) 0 []:=⟨by simp,.inl ⟨rfl,none,rfl⟩⟩;obtain⟨v',w',de,h4,h5,h6⟩:=dO (ty:=ty) ht he Mv yD (by omega);have hg:w.grownBy w' none:=h5;have kk:cP ψ h w w':=cP.grown hg (fun b e=>by cases e);have sm:=kk.same g;refine⟨v',w',de,oU g hB id e hN (vs:=news) kk (fun b hb=>hg.block b (g.bP hb) (by simp)) (by simpa using h4) (fun i x hx=>(hv i x hx).mono (fun _ h=>h) sm) (fun b hb=>?_) bu,h4.one⟩
 grind [ob]
theorem A6{hh:Heap}(g:Good Z ψ h w B0 O)(bz:∀id o,hh.get id=some o→h id=some o)(hB:B0≤w.heap.size){id cH:Nat}(hN:N id)(bw:cH≠id){t ty e:TypeId}{k:K}{i:TypeInfo}{z:Value}(ht:P.underlying t=some (.slice e))(he:od P e k i z) {xs:List k.T} (ho:h cH=some (.own (.row e k) xs)) {x:AV} {u:Value} {ys:List k.T} (hx:rowOf hh x k=some ys) (hr:aC Z ψ h w x u) (hm:xs.length+ys.length≤eY) (bu:∀i ty cs,h i=some (.box ty cs)→aD (fun i=>i≠id) cs) :
  ∃v' w',(Builtin.append_ #[t,t] ty #[ψ cH,u]).run P w=.ok v' w'∧Next Z ψ h w B0 O N Z (dW ψ id v') (dW (dW h cH none) id (some (.own (.row e k) (xs++ys)))) w'∧v'.cells=#[v']∧v'.oneCell'=true:=by
 obtain⟨news,yD,hv⟩:=wJ (g.sub bz) hx (hr.og bz);obtain⟨vs,XY,ZC⟩:=g.row cH (.row e k) xs ho;obtain⟨v',w',de,h4,h5,h6⟩:=dO (ty:=ty) ht he XY yD hm;have hold:h cH≠none:=by rw[ho];simp
 have kk:cP ψ h w w':=cP.grown h5 (fun b e=>⟨cH,hold,e⟩);have sm:=kk.same g;refine⟨v',w',de,nE g hB id cH hN ho bw h5 (ok:=.row e k) (y:=xs++ys) ⟨_,by simp_all,(ZC.append hv XY.1).Ck sm⟩ h6 bu,h4.one⟩
theorem Cm{hh:Heap}(g:Good Z ψ h w B0 O)(bz:∀id o,hh.get id=some o→h id=some o)(hB:B0≤w.heap.size){id:Nat}(hN:N id){t ty e:TypeId}{k:K}{i:TypeInfo}{z:Value}(ht:P.underlying t=some (.slice e))(he:od P e k i z) {xs:List k.T} {v:Value} (hd:aC Z ψ h w (.sl true k xs) v) {x:AV} {u:Value} {ys:List k.T} (hx:rowOf hh x k=some ys) (hr:aC Z ψ h w x u) (E7:0<ys.length∨xs=[]) (hm:xs.length+ys.length≤eY) (bu:∀i ty cs,h i=some (.box ty cs)→aD (fun i=>i≠id) cs) :
  ∃v' w',(Builtin.append_ #[t,t] ty #[v,u]).run P w=.ok v' w'∧Next Z ψ h w B0 O N Z (dW ψ id v') (dW h id (some (.own (.row e k) (xs++ys)))) w'∧v'.cells=#[v']∧v'.oneCell'=true:=by
 simp only[aC]at hd;obtain⟨hd,hex⟩:=hd;obtain⟨A,c,Sn⟩:=hex trivial;rcases vA hd with⟨rfl,rfl⟩|⟨a,c',adz,h1,_,h2,h3,h4,h5⟩
 ·have:=q9 (ty:=ty) (N:=N) g bz hB hN ht he hx hr (by omega) bu;simp_all
 ·rw[h1]at Sn;cases Sn;obtain⟨news,⟨h6,h7,hu⟩,hv⟩:=wJ (g.sub bz) hx (hr.og bz);by_cases hy0:ys.length=0
  ·have hy:ys=[]:=ack hy0;have Cl:xs=[]:=E7.resolve_left (by omega);subst Cl;have Mv:dL w e k.sz (.slice (some a) 0 0) 0 []:=⟨by simp,.inl ⟨rfl,_,rfl⟩⟩;refine⟨v,w,?_,oU g hB id e hN (vs:=[]) (cP.refl _ _ _) (fun _ _=>rfl) (by simp_all) (fun i x hx=>by simp_all) (fun b hb=>by grind [ob]) bu,by rw[h1];exact Mv.one⟩;rw[h1];rw[hy0]at hu;rcases hu with⟨rfl,_⟩|⟨b,cu,rfl,_⟩<;>exact fE ht he.info _ _ _ (acW _) _ _
  rcases hu with⟨_,h0⟩|⟨b,cu,rfl,h8⟩
  ·omega
  ·have hb:=he.bytes;unfold eY at hm;have r9:(xs.length+ys.length)*i.bytes≤140737488355328:=acY (ad4 hm hb) (by decide);obtain⟨v',w',de,h9,pY⟩:=run_append_arg_grows (P:=P) w t ty e i z k.sz i.bytes ht he.info he.zero he.size rfl he.wH k.gF a xs.length xs.length adz h2 h3 b ys.length cu news h6 h8 (by omega) (by grind [maxLen]) r9;have kk:cP ψ h w w':=cP.grown pY (fun b e=>by cases e);have sm:=kk.same g;have h9':dL w' e k.sz v' (xs++ys).length (adz++news):=by rw[List.length_append];exact dL.of h9
   subst h1;refine⟨v',w',de,oU g hB id e hN kk (fun b hb=>pY.block b (g.bP hb) (by simp)) h9' ((h5.append hv h2).Ck sm) (fun b hb=>?_) bu,h9'.one⟩;rcases h9.2 with⟨e1,_⟩|⟨gg,cap,cur,e1,e2,_⟩
   ·omega
   grind [ob]
theorem wK:∀(vs:List Value) (k off:Nat) (cells:Array Value),(vs.zipIdx k).foldl (fun cs (p:Value×Nat)=>cs.setIfInBounds (off+p.2) p.1) cells=(dX cells.toList (off+k) vs).toArray
 |[],k,off,cells=>by simp[dX]
 |v::r,k,off,cells=>by simp only[List.zipIdx_cons,List.foldl_cons,dX];rw[wK r (k+1) off];simp[Nat.add_assoc]
theorem Ag(V:Array Value)(off:Nat)(cells:Array Value) :
  V.zipIdx.foldl (fun cs (p:Value×Nat)=>cs.setIfInBounds (off+p.2) p.1) cells=(dX cells.toList off V.toList).toArray:=by
 rw[←Array.foldl_toList,Array.toList_zipIdx];simp_all [wK]
theorem uU{α:Type}:∀(vs cs:List α) (off:Nat),(dX cs off vs).length=cs.length
 |[],_,_=>rfl
 |v::r,cs,off=>by simp only[dX];rw[uU r];simp
theorem ax.dX:∀{vs cs:List AV} {us ds:List Value} (off:Nat),ax Z ψ h w vs us→ax Z ψ h w cs ds→ax Z ψ h w (dX cs off vs) (dX ds off us)
 |[],cs,us,ds,off,h1,h2=>by simp only[ax]at h1;subst h1;exact h2
 |v::r,cs,us,ds,off,h1,h2=>by simp only[ax]at h1;obtain⟨u,jt,rfl,h3,h4⟩:=h1;simp only[Vs.dX];exact ax.dX (off+1) h4 (h2.set off h3)
theorem aC.cells{a:AV}{v:Value}(hk:a≠.no)(hr:aC Z ψ h w a v):ax Z ψ h w a.cells v.cells.toList:=by
 cases a with
 |no=>exact absurd rfl hk
 |agg cs=>simp only[aC]at hr;obtain⟨vs,rfl,hr⟩:=hr;simpa[AV.cells,Value.cells] using hr
 |bool b=>simp only[aC]at hr;subst hr;simp[AV.cells,Value.cells,ax,aC]
 |int k n=>simp only[aC]at hr;subst hr;simp[AV.cells,Value.cells,ax,aC]
 |str s=>simp only[aC]at hr;subst hr;simp[AV.cells,Value.cells,ax,aC]
 |lQ=>simp only[aC]at hr;subst hr;simp[AV.cells,Value.cells,ax,aC]
 |fO=>simp only[aC]at hr;subst hr;simp[AV.cells,Value.cells,ax,aC]
 |ref id s i off=>obtain⟨a,rfl,h2⟩:=(by simpa only[aC] using hr:∃a,v=.pointer (some a)∧_);simp only[AV.cells,Value.cells,ax];exact⟨_,[],by simp,hr,rfl⟩
 |fp k x off=>obtain⟨a,us,rfl,h2⟩:=(by simpa only[aC] using hr:∃a us,v=.pointer (some a)∧_);simp only[AV.cells,Value.cells,ax];exact⟨_,[],by simp,hr,rfl⟩
 |sl ex k xs =>
  have tw:=hr;simp only[aC,aL]at tw;obtain⟨⟨v',hv,A,c,rfl,_⟩,_⟩:=tw
  cases hv
  simp only[AV.cells,Value.cells,ax];exact⟨_,[],by simp,hr,rfl⟩
 |bL id =>have tw:=hr;simp only[aC]at tw;obtain⟨⟨hc,_⟩,_⟩:=tw;simp only[AV.cells,ax,hc];exact⟨_,[],by simp,hr,rfl⟩
 |mp kk vk es =>
  have tw:=hr;simp only[aC,aL]at tw;obtain⟨A,hv,_⟩:=tw
  cases hv
  simp only[AV.cells,Value.cells,ax];exact⟨_,[],by simp,hr,rfl⟩
 |fn f cap =>have tw:=hr;simp only[aC]at tw;obtain⟨vs,rfl,_⟩:=tw;simp only[AV.cells,Value.cells,ax];exact⟨_,[],by simp,hr,rfl⟩
 |n8 vs =>have tw:=hr;simp only[aC]at tw;obtain⟨us,rfl,_⟩:=tw;simp only[AV.cells,Value.cells,ax];exact⟨_,[],by simp,hr,rfl⟩
def uV(Z:Nat→Prop)(ψ:Nat→Value)(h:Hp)(w:World):List (Nat×AV)→List (Nat×Value)→Prop
 |[],[]=>True
 |p::r,q::s=>p.1=q.1∧p.2≠.no∧aC Z ψ h w p.2 q.2∧uV Z ψ h w r s
 |_,_=>False
theorem JM{place:Nat→Option (Nat×Nat)}:∀{ps:List (Nat×AV)} {qs:List (Nat×Value)} {cs cs':List AV} {cells:Array Value},uV Z ψ h w ps qs→ax Z ψ h w cs cells.toList→F8 place cs ps=some cs' → ∃gm,Instr.fill place cells qs=some gm∧ax Z ψ h w cs' gm.toList
 |[],[],cs,cs',cells,_,hr,hf=>by simp only[F8]at hf;cases hf;exact⟨cells,rfl,hr⟩
 |[],_::_,_,_,_,hp,_,_=>hp.elim
 |_::_,[],_,_,_,hp,_,_=>hp.elim
 |(i,a)::ps,(j,v)::qs,cs,cs',cells,hp,hr,hf=>by
  obtain⟨rfl,vB,hv,hp⟩:=hp;simp only[F8]at hf;simp only at vB hv;have Sn:=hv.cells vB;have hl:=Sn.length;have Ah:=hr.length;simp only[Array.length_toList]at hl Ah;simp only[Instr.fill]
  split at hf
  ·cases hf
  ·rename_i off size Xq;simp only[Xq]
   split at hf
   ·cases hf
   ·rename_i hc;have hc1:a.cells.length=size:=Decidable.not_not.1 (fun e=>hc (.inl e));have oV:¬off+a.cells.length>cs.length:=fun e=>hc (.inr e);rw[if_neg (by simp_all)];refine JM hp ?_ hf;rw[Ag,List.toList_toArray];exact Sn.dX off hr
theorem SR(fs:Array Field)(hi:∀f∈fs.toList,∃i,P.info? f.type=some i):(fs.mapM fun f=>do pure (f.offset,←sizeOf f.type):Sem (Array (Nat×Nat))).run P w=.ok (fs.map fun f=>(f.offset,P.cellsOf f.type)) w:=by
 rw[←Array.toArray_toList (xs:=fs)];generalize fs.toList=l at hi;have key:∀(l:List Field) (acc:Array (Nat×Nat)),(∀f∈l,∃i,P.info? f.type=some i) →(l.foldlM (fun(bs:Array (Nat×Nat)) f=>do let y ←(do pure (f.offset,←sizeOf f.type):Sem (Nat×Nat));pure (bs.push y)) acc:Sem (Array (Nat×Nat))).run P w=.ok (acc++(l.map fun f=>(f.offset,P.cellsOf f.type)).toArray) w:=by
  intro l
  induction l with
  |nil=>simp_all
  |cons f r ih =>simp_all [List.foldlM_cons,Sem.run_bind,dD,Result.andThen_ok,Sem.run_pure,List.mem_cons_of_mem]
 simp_all [Array.mapM_eq_foldlM,List.size_toArray,List.foldlM_toArray']
theorem HQ(v:Value):aC Z ψ h w (yp v) v:=by
 cases v with
 |bool b=>simp only[yp,aC]
 |int k n=>simp only[yp,aC]
 |string s=>simp only[yp,aC]
 |pointer a =>
  simp only[yp];split
  ·rename_i e;subst e;simp only[aC]
  ·simp only[aC]
 |slice a n c =>
  simp only[yp];split
  ·rename_i e;obtain⟨rfl,rfl,rfl⟩:=e;simp only[aC]
  ·simp only[aC]
 |func fn first cap =>
  cases fn with
  |func f =>
   simp only[yp];split
   ·rename_i e;have h1:first=#[]:=adw e.1
    have h2:cap=#[]:=adw e.2;subst h1;subst h2;simp only[aC];exact⟨#[],rfl,by simp[ax]⟩
   ·simp only[aC]
  |_=>simp only[yp,aC]
 |_=>simp only[yp,aC]
theorem Cn:∀vs:List Value,ax Z ψ h w (vs.map yp) vs
 |[]=>by simp[ax]
 |v::r=>by simp only[List.map_cons,ax];exact⟨v,r,rfl,HQ v,Cn r⟩
theorem JN(v:Value):aC Z ψ h w (vt v) v:=by
 cases v with
 |agg cs=>simp only[vt,aC];exact⟨cs,rfl,Cn _⟩
 |_=>simp only[vt];exact HQ _
theorem Gf(v:Value):(yp v).cells=[yp v]:=by
 cases v with
 |pointer a=>simp only[yp];split<;>rfl
 |slice a n c=>simp only[yp];split<;>rfl
 |func fn first cap =>
  cases fn with
  |func f=>simp only[yp];split<;>rfl
  |_=>rfl
 |_=>rfl
theorem Co(v:Value):ax Z ψ h w (vt v).cells v.cells.toList:=by
 cases v with
 |agg cs=>grind [vt,AV.cells,Value.cells,Cn]
 |_ =>simp only[vt];rw[Gf];simp only[ax];exact⟨_,[],rfl,HQ _,rfl⟩
theorem qf{t:TypeId}{zs:List AV}(hz:B3 P t=some zs):∃i z,P.info? t=some i∧i.zero=some z∧zs=(vt z).cells∧∀u∈z.cells.toList,u.oneCell'=true:=by
 unfold B3 at hz;obtain⟨i,hi,Ai⟩:=ac2.1 hz;obtain⟨z,EY,Qi⟩:=ac2.1 Ai
 grind
theorem sd{t:TypeId}{i:TypeInfo}{z:Value}(hi:P.info? t=some i)(hz:i.zero=some z):(zeroValue t).run P w=.ok z w:=by simp[zeroValue,typeInfo,hi,hz]
theorem Qj{t:TypeId}{fs:Array Field}{zs cs:List AV}{ps:List (Nat×AV)}{qs:Array (Nat×Value)}(hz:B3 P t=some zs)(ht:P.underlying t=some (.struct fs))(iq:fs.toList.all (fun f=>(P.info? f.type).isSome)=true) (hp:uV Z ψ h w ps qs.toList) (hf:F8 (fun i=>(fs[i]?).map fun f=>(f.offset,P.cellsOf f.type)) zs ps=some cs) :
  ∃V,(Instr.build t qs).run P w=.ok V w∧aC Z ψ h w (.agg cs) V:=by
 obtain⟨i,z,hi,hzz,rfl,_⟩:=qf hz;obtain⟨gm,h1,h2⟩:=JM hp (Co z) hf;have Xq:=SR (P:=P) (w:=w) fs (fun f hf=>acV.1 (ac3.1 iq f hf));refine⟨.agg gm,?_,by simp only[aC];exact⟨_,rfl,h2⟩⟩;have Xr:Instr.fill (fun x=>(fs.map fun f=>(f.offset,P.cellsOf f.type))[x]?) z.cells qs.toList=some gm:=by rw[←h1];congr 1;funext x;simp
 simp only[Instr.build,Sem.run_bind,sd hi hzz,run_underlying ht,Result.andThen_ok,Xq,Xr];rfl
theorem Mw:∀(k:K) (cs:List AV) (x:k.T) (r:List AV),dec k cs=some (x,r)→cs.head?≠some .no
 |.int ik,cs,x,r,h,hc=>by
  cases cs with
  |nil=>simp at hc
  |cons a s=>simp at hc;subst hc;simp[dec,HI]at h
 |.bool,cs,x,r,h,hc=>by
  cases cs with
  |nil=>simp at hc
  |cons a s=>simp at hc;subst hc;simp[dec,Bn]at h
 |.str,cs,x,r,h,hc=>by
  cases cs with
  |nil=>simp at hc
  |cons a s=>simp at hc;subst hc;simp[dec,HJ]at h
 |.sl k,cs,x,r,h,hc=>by
  cases cs with
  |nil=>simp at hc
  |cons a s=>simp at hc;subst hc;simp[dec,N1]at h
 |.pair a b,cs,x,r,h,hc=>by
  simp only[dec]at h
  split at h
  ·rename_i x1 r1 h1;exact Mw a cs x1 r1 h1 hc
  ·cases h
 |.one k,cs,x,r,h,hc=>by simp only[dec]at h;exact Mw k cs x r h hc
 |.mp kk vk,cs,x,r,h,hc=>by
  cases cs with
  |nil=>simp at hc
  |cons a s=>simp at hc;subst hc;simp[dec,N2]at h
 |.fn f,cs,x,r,h,hc=>by
  cases cs with
  |nil=>simp at hc
  |cons a s=>simp at hc;subst hc;simp[dec,N4]at h
theorem Gg{k:K}{hh:Heap}{a:AV}{x:k.T}(h:dz k (a.cells.map (cX hh))=some x):a≠.no:=by
 rintro rfl;unfold dz at h
 split at h
 ·rename_i x' h1;exact Mw k _ _ _ h1 (by rfl)
 ·cases h
theorem JO{k:K}{hh:Heap}(g:Good Z ψ hh.get w B0 O)(hz:∀b,Z b→Z' b):∀{ps:List (Nat×AV)} {qs:List (Nat×Value)} {xs:List k.T} {i:Nat} {cells:Array Value},(∀p∈ps,∀id b,AV.bL id∈p.2.cells→hh.get id≠none→ob (ψ id)=some b→Z' b)→uV Z ψ hh.get w ps qs→rU k hh i ps=some xs→(i+ps.length)*k.sz≤cells.size → ∃gm flat,Instr.fill (fun i=>some (i*k.sz,k.sz)) cells qs=some gm∧gm.toList=cells.toList.take (i*k.sz)++flat++cells.toList.drop ((i+ps.length)*k.sz)∧flat.length=ps.length*k.sz∧kR Z' w k xs flat∧(∀q∈flat,q.oneCell'=true)∧xs.length=ps.length
 |[],[],xs,i,cells,_,_,hl,_=>by simp only[rU]at hl;cases hl;exact⟨cells,[],rfl,by simp,by simp,fun i x hx=>by simp at hx,by simp,rfl⟩
 |[],_::_,_,_,_,_,hp,_,_=>hp.elim
 |_::_,[],_,_,_,_,hp,_,_=>hp.elim
 |(j,a)::ps,(j',v)::qs,xs,i,cells,hb,hp,hl,hs=>by
  obtain⟨hjj,vB,hv,hp⟩:=hp;simp only at hjj vB hv;subst hjj;simp only[rU]at hl
  split at hl
  ·rename_i e;subst e
   split at hl
   ·rename_i y ys h1 h2
    cases hl
    simp only[List.length_cons]at hs;have Sn:=hv.cells vB;have hvw:=oR g hz (hb (j,a) (by simp)) Sn;have hk:=dN h1 hvw;have Xs:=hk.len;rw[Array.length_toList]at Xs;have ij:j*k.sz+k.sz≤cells.size:=by have:(j+1)*k.sz≤(j+(ps.length+1))*k.sz:=acT _ (by omega);rw[Nat.succ_mul]at this;omega
    simp only[Instr.fill];rw[if_neg (by simp only[Bool.or_eq_true,decide_eq_true_eq];omega),Ag];obtain⟨gm,flat,h3,h4,h5,h6,h7,h8⟩:=JO g hz (ps:=ps) (qs:=qs) (xs:=ys) (i:=j+1) (cells:=(dX cells.toList (j*k.sz) v.cells.toList).toArray) (fun p hp=>hb p (abC _ hp)) hp h2 (by rw[List.size_toArray,uU];have e9:cells.toList.length=cells.size:=Array.length_toList;rw[e9,show j+1+ps.length=j+(ps.length+1) by omega];exact hs);refine⟨gm,v.cells.toList++flat,h3,?_,?_,?_,?_,by simp[h8]⟩
    ·rw[h4,List.toList_toArray,tx _ _ _ (by rw[Array.length_toList,Array.length_toList];omega)];have e1:(j+1)*k.sz=j*k.sz+k.sz:=ad2 _ _;have e2:(j+1+ps.length)*k.sz=(j+(ps.length+1))*k.sz:=by congr 1;omega
     rw[List.length_cons,e1,e2];have l1:(cells.toList.take (j*k.sz)++v.cells.toList).length=j*k.sz+k.sz:=by rw[List.length_append,List.length_take,Array.length_toList,Array.length_toList];omega
     rw[←l1,List.take_left];have l2:(j+(ps.length+1))*k.sz=(cells.toList.take (j*k.sz)++v.cells.toList).length+(ps.length*k.sz):=by rw[l1,Nat.add_mul,Nat.add_mul];omega
     have hd:(cells.toList.take (j*k.sz)++v.cells.toList++cells.toList.drop (j*k.sz+v.cells.toList.length)).drop ((j+(ps.length+1))*k.sz)=cells.toList.drop ((j+(ps.length+1))*k.sz):=by rw[l2,List.drop_append,List.drop_eq_nil_of_le (by omega),List.nil_append,Nat.add_sub_cancel_left,List.drop_drop];congr 1;rw[l1,Array.length_toList];omega
     rw[hd];simp[List.append_assoc]
    ·rw[List.length_append,h5,Array.length_toList,Xs,List.length_cons,Nat.succ_mul];omega
    ·intro n x hx
     cases n with
     |zero =>
      simp only[List.getElem?_cons_zero,Option.some.injEq]at hx;subst hx;have aba:v.cells.toList.length=k.sz:=by rw[Array.length_toList];exact Xs
      rw[Nat.zero_mul,List.drop_zero,←aba,List.take_left];exact hk
     |succ n =>
      have:=h6 n x (by simpa using hx);have aba:v.cells.toList.length=k.sz:=by rw[Array.length_toList];exact Xs
      have e:(n+1)*k.sz=v.cells.toList.length+n*k.sz:=by rw[aba,Nat.succ_mul];omega
      rw[e,List.drop_append,List.drop_eq_nil_of_le (by omega),List.nil_append,Nat.add_sub_cancel_left];exact this
    ·intro q hq;rcases acS.1 hq with hq|hq
     ·exact hk.one q hq
     ·exact h7 q hq
   ·cases hl
  ·cases hl
theorem Next.drop{Z1:Nat→Prop}{h1:Hp}(n:Next Z1 ψ h1 w B0 O N Z' ψ' h' w')(hz:∀b,Z b→Z1 b)(Ai:∀b,Z1 b→Z b∨Own ψ h b)(bz:∀id o,h1 id=some o→h id=some o):Next Z ψ h w B0 O N Z' ψ' h' w':=by
 have hn:∀id,h1 id≠none→h id≠none:=fun id hn=>by obtain⟨o,ho⟩:=acb.1 hn;simp_all
 have ho:∀b,Own ψ h1 b→Own ψ h b:=fun b ⟨id,h2,h3⟩=>⟨id,hn id h2,h3⟩;refine⟨fun b hb=>n.gk b (hz b hb),fun b hb=>?_,⟨n.keep.os,n.keep.tape,n.keep.output,n.keep.size,fun b hb vB=>n.keep.block b hb (fun h=>vB (ho b h))⟩,fun id bM=>(n.ids id bM).imp (fun⟨h2,h3⟩=>⟨hn id h2,h3⟩) (fun h=>h),n.dv⟩;rcases n.eP b hb with h2|h2|h2
 ·grind
 ·simp_all
 omega
theorem uV.og{h h':Hp}(hs:∀id o,h' id=some o→h id=some o):∀{ps:List (Nat×AV)} {qs:List (Nat×Value)},uV Z ψ h w ps qs→uV Z ψ h' w ps qs:=by
 intro ps
 induction ps with
 |nil=>intro qs hp;cases qs with
  |nil=>trivial
  |cons q r=>exact hp.elim
 |cons p r ih=>intro qs hp;cases qs with
  |nil=>exact hp.elim
  |cons q s=>exact⟨hp.1,hp.2.1,hp.2.2.1.og hs,ih hp.2.2.2⟩
theorem JP{hh:Heap}{Z1:Nat→Prop}(g:Good Z1 ψ h w B0 O)(g0:Good Z ψ hh.get w B0 O)(hz:∀b,Z b→Z1 b)(hB:B0≤w.heap.size){id:Nat}(hN:N id){t e:TypeId}{k:K}{i:TypeInfo}{z:Value}(ht:P.underlying t=some (.slice e))(he:od P e k i z) {ps:List (Nat×AV)} {qs:Array (Nat×Value)} {xs:List k.T} (hos:∀p∈ps,∀id b,AV.bL id∈p.2.cells→hh.get id≠none→ob (ψ id)=some b→Z1 b) (hp:uV Z ψ hh.get w ps qs.toList) (hl:rU k hh 0 ps=some xs) (hn:ps.length*k.sz≤1048576) (bu:∀i ty cs,h i=some (.box ty cs)→aD (fun i=>i≠id) cs) :
  ∃v' w',(Instr.buildSlice t ps.length qs).run P w=.ok v' w'∧Next Z1 ψ h w B0 O N Z1 (dW ψ id v') (dW h id (some (.own (.row e k) xs))) w'∧(v'.cells=#[v']∧v'.oneCell'=true)∧(∀b,Own ψ h b→w'.heap[b]? = w.heap[b]?)∧(∀b,ob v'=some b→w.heap.size≤b)∧∃A c,v'=.slice A c c:=by
 let N8:Array Value:=(Array.range (ps.length*k.sz)).map (z.cells[· % z.cells.size]!)
 have Jt:N8.size=ps.length*k.sz:=by simp[N8]
 obtain⟨gm,flat,h1,h2,h3,h4,h5,h6⟩:=JO (Z':=Z1) g0 hz (ps:=ps) (qs:=qs.toList) (xs:=xs) (i:=0) (cells:=N8) hos hp hl (by simp_all);have anC:gm.toList=flat:=by simp_all
 have Mx:gm.size=ps.length*k.sz:=by grind
 have E7:=k.gF;have hlen:ps.length≤1048576:=acY (Nat.le_mul_of_pos_right _ E7) hn;have rD:(w.alloc (.cells gm e)).ownsRow 0 e k.sz (.slice (some ⟨w.heap.size,0,none⟩) ps.length ps.length) xs.length flat:=by have:=World.ownsRow_lit (base:=0) (e:=e) (size:=k.sz) w gm ps.length (adb _) (by grind [maxLen]) Mx;simp_all
 refine⟨.slice (some ⟨w.heap.size,0,none⟩) ps.length ps.length,w.alloc (.cells gm e),?_,oU g hB id e hN (vs:=flat) (cP.alloc _ _ _ _) (fun b hb=>heap_alloc_old w _ (g.bP hb)) (dL.of rD) (h4.Ck ((cP.alloc ψ h w _).same g)) (fun b hb=>by simp_all [ob,Nat.le_refl]) bu,(dL.of rD).one,fun b hb=>heap_alloc_old w _ (g.bP hb),fun b hb=>by simp_all [ob,Nat.le_refl],_,_,rfl⟩
 ·show _=Result.ok (Value.slice (some ⟨w.heap.size,0,none⟩) ps.length ps.length) _;have Cp:¬ps.length*k.sz>2 ^ 24:=by omega
  have hc:P.cellsOf e=k.sz:=by simp[Program.cellsOf,he.info,he.size]
  simp only[Instr.buildSlice,Sem.run_bind,run_underlying ht,Result.andThen_ok,dD he.info,hc];rw[if_neg Cp];have Cq:(newRow e gm).run P w=.ok ⟨w.heap.size,0,none⟩ (w.alloc (.cells gm e)):=rfl;by_cases h0:ps.length*k.sz=0
  ·simp_all [Array.eq_empty_of_size_eq_zero,Array.range,if_pos,Sem.run_pure,Result.andThen_ok,Sem.run_bind]
  ·rw[if_neg h0];simp only[Sem.run_bind,sd he.info he.zero,Result.andThen_ok,Sem.run_pure];rw[show(Array.range (ps.length*k.sz)).map (fun x=>z.cells[x%z.cells.size]!)=N8 from rfl,h1];rfl
theorem SS(g:Good Z ψ h w B0 O)(hB:B0≤w.heap.size){id:Nat}{e:TypeId}{k:K}{xs:List k.T}{v':Value}(n:Next Z ψ h w B0 O N Z (dW ψ id v') (dW h id (some (.own (.row e k) xs))) w') (uP:∀b,Own ψ h b→w'.heap[b]? = w.heap[b]?) (Cq:∀b,ob v'=some b→w.heap.size≤b) (hex:∃A c,v'=.slice A c c) :
  Next Z ψ h w B0 O N (fun b=>Z b∨ob v'=some b) ψ h w'∧aC (fun b=>Z b∨ob v'=some b) ψ h w' (.sl true k xs) v':=by
 have oS:jH Z w' (.row e k) v' xs:=by
  have:=n.dv.row id (.row e k) xs (bp _ _ _)
  rwa [bp]at this
 obtain⟨vs,ho,hv⟩:=oS;have m:Next Z ψ h w B0 O (fun _=>False) Z ψ h w':=g.more n.keep uP (fun _ _=>⟨rfl,rfl⟩) (fun i ty cs hb=>by
  grind [aD.top]) (fun _ _ _ h=>h.elim) (fun _ _ _ h=>h.elim) (fun _ _ h=>h.elim) (fun _ _ _ h=>h.elim) hB
 have hz:∀b,Z b→Z b∨ob v'=some b:=fun b h=>.inl h;refine⟨⟨hz,fun b hb=>hb.imp (fun h=>h) fun h=>.inr (Cq b h),m.keep,fun i hi=>.inl ((m.ids i hi).resolve_right (fun h=>h)),⟨fun i ty cs hb=>?_,fun i ok x hb=>?_,fun i b h1 h2=>?_,m.dv.apart,fun b hb=>?_⟩⟩,?_⟩
 ·obtain⟨gg,vs,f1,f2,f3,f4⟩:=m.dv.box i ty cs hb;exact⟨gg,vs,f1,f2,ax.less hz (cw.refl _ _) (fun _ h=>⟨h,rfl⟩) f3,f4⟩
 ·exact(m.dv.row i ok x hb).kept hz (cw.refl _ _) (fun _ _=>rfl)
 ·obtain⟨k1,k2⟩:=m.dv.live i b h1 h2;refine⟨fun hb=>hb.elim k1 fun hb=>?_,k2⟩;have:=g.bP ⟨i,h1,h2⟩
  grind
 ·rcases hb with hb|hb
  ·exact m.dv.kg b hb
  ·exact jH.lt (ok:=.row e k) ⟨vs,ho,hv⟩ hb
 grind [aC,wF]
end Go.Vs
