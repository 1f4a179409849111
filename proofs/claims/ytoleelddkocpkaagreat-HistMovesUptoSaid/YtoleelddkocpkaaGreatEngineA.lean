/- The value semantics of the -/
import Derived.Control
import Derived.Calls
import Derived.Orders
import GoSem.Machine.Frame
import Derived.Laws.AppendOwn
import GoSem.Core.Utf8
import Derived.Below
import Derived.Laws.OwnMore
import Derived.Laws.Rows
import Derived.Deep.Draws
import Derived.Laws.CopyRow
import Derived.Laws.Cells
import Derived.Laws.Sem
import Derived.Maps.AppendAt
import Derived.ArgAppend
import Derived.WalkKit
set_option linter.unusedVariables false
set_option linter.unusedSimpArgs false
namespace Go
abbrev abn:=@List.getElem?_eq_getElem
abbrev abt:=@List.mem_cons_of_mem
abbrev abu:=@List.getElem?_eq_some_iff
abbrev abz:=@List.mem_cons
abbrev abA:=@List.mem_append_right
abbrev abG:=@List.mem_append_left
abbrev abI:=@Array.getElem?_eq_some_iff
abbrev abK:=@Option.ne_none_iff_exists'
abbrev abN:=@List.eq_nil_of_length_eq_zero
abbrev abP:=@List.nodup_cons
abbrev abV:=@List.mem_cons_self
abbrev abX:=@List.mem_append
abbrev ab5:=@Nat.mul_le_mul_right
abbrev acb:=@Nat.le_refl
abbrev ace:=@List.mem_map
abbrev acn:=@Option.isSome_iff_exists
abbrev acr:=@Array.getElem?_eq_getElem
abbrev acw:=@List.mem_of_getElem?
abbrev acz:=@Nat.le_trans
abbrev acF:=@List.rel_of_pairwise_cons
abbrev ac7:=@Option.some.inj
abbrev ac8:=@List.getElem_mem
abbrev ac9:=@Option.map_eq_some_iff
abbrev ada:=@Option.bind_eq_some_iff
abbrev adb:=@List.all_eq_true
abbrev ade:=@List.mem_of_find?_eq_some
abbrev adf:=@List.mem_range
abbrev adg:=@Nat.lt_of_lt_of_le
abbrev adh:=@List.append_of_mem
abbrev adi:=@List.drop_eq_getElem_cons
abbrev adj:=@List.mem_flatten
abbrev adk:=@List.nodup_append
abbrev adl:=@Nat.zero_le
abbrev adm:=@List.Perm.append_right
abbrev adn:=@List.ext_getElem?
abbrev ado:=@List.length_filter_le
abbrev adp:=@Array.all_eq_true_iff_forall_mem
abbrev adq:=@List.getElem?_of_mem
abbrev adr:=@List.countP_le_length
abbrev ads:=@List.mem_filter
abbrev adt:=@List.drop_eq_nil_of_le
abbrev adu:=@List.find?_some
abbrev adv:=@Array.mem_of_getElem?
abbrev adw:=@Nat.mod_lt
abbrev adx:=@List.mem_of_mem_drop
abbrev ady:=@List.pairwise_iff_getElem
abbrev adz:=@List.findIdx?_eq_some_iff_getElem
abbrev adA:=@List.getElem_of_mem
abbrev adB:=@Array.eq_empty_of_size_eq_zero
abbrev adC:=@List.ne_nil_of_mem
abbrev adD:=@List.Perm.refl
abbrev adE:=@List.Pairwise.of_cons
abbrev adH:=@List.mem_of_mem_erase
abbrev adI:=@List.mem_erase_of_ne
abbrev adJ:=@Nat.succ_mul
abbrev adR:=@List.mem_filterMap
abbrev ad5:=@Nat.mul_le_mul
end Go
namespace Go.Vs
inductive K where
 |int (k:IntKind)|bool|str|sl (k:K)|pair (a b:K)|one (k:K)|mp (kk vk:K)|fn (f:Nat)
 deriving DecidableEq
def K.T:K→Type
 |.int _=>Int
 |.bool=>Bool
 |.str=>ByteArray
 |.sl k=>List k.T
 |.pair a b=>a.T×b.T
 |.one k=>k.T
 |.mp kk vk=>List (kk.T×vk.T)
 |.fn _=>Unit
def K.sz:K→Nat
 |.pair a b=>a.sz+b.sz
 |.one k=>k.sz
 |_=>1
def qk(P:Program):Nat→TypeId→Option K
 |0,_=>none
 |d+1,t =>
  match P.underlying t with
  |some (.int k)=>some (.int k)
  |some .bool=>some .bool
  |some .string=>some .str
  |some (.slice e)=>(qk P d e).map .sl
  |some (.map a b)=>match qk P d a,qk P d b with
   |some x,some y=>some (.mp x y)
   |_,_=>none
  |some (.struct fs) =>
   match (fs.toList.map fun f=>qk P d f.type).reverse with
   |[]=>none
   |[k]=>k.map .one
   |last::rest=>rest.foldl (fun acc k=>match k,acc with|some k,some a=>some (.pair k a)|_,_=>none) last
  |_=>none
def K.flat:K→Bool
 |.sl _=>false
 |.mp _ _=>false
 |.fn _=>false
 |.pair a b=>a.flat&&b.flat
 |.one k=>k.flat
 |_=>true
def K.isAgg:K→Bool
 |.pair _ _=>true
 |.one _=>true
 |_=>false
inductive AV where
 |no
 |bool (b:Bool)
 |int (k:IntKind) (n:Int)
 |str (s:ByteArray)
 |l8
 |fW
 |ref (id s i off:Nat)
 |fp (k:K) (x:k.T) (off:Nat)
 |sl (ex:Bool) (k:K) (xs:List k.T)
 |mp (kk vk:K) (es:List (kk.T×vk.T))
 |bK (id:Nat)
 |fn (f:FuncId) (cap:List AV)
 |agg (cs:List AV)
 |oz (vs:List AV)
def AV.isAgg:AV→Bool
 |.agg _=>true
 |_=>false
def AV.cells:AV→List AV
 |.agg cs=>cs
 |v=>[v]
def enc:(k:K)→k.T→List AV
 |.int ik,n=>[.int ik n]
 |.bool,b=>[.bool b]
 |.str,s=>[.str s]
 |.sl k,xs=>[.sl false k xs]
 |.mp kk vk,es=>[.mp kk vk es]
 |.fn f,_=>[.fn f []]
 |.pair a b,x=>enc a x.1++enc b x.2
 |.one k,x=>enc k x
def HD(ik:IntKind):List AV→Option (Int×List AV)
 |.int ik' n::r=>if ik'=ik then some (n,r) else none
 |_=>none
def Bv:List AV→Option (Bool×List AV)
 |.bool b::r=>some (b,r)
 |_=>none
def HE:List AV→Option (ByteArray×List AV)
 |.str s::r=>some (s,r)
 |_=>none
def N8(k:K):List AV→Option (List k.T×List AV)
 |.sl _ k' xs::r=>if h:k'=k then some (h▸xs,r) else none
 |.fW::r=>some ([],r)
 |_=>none
def N9(kk vk:K):List AV→Option (List (kk.T×vk.T)×List AV)
 |.mp Oa XL es::r=>if h:Oa=kk∧XL=vk then some (h.1▸h.2▸es,r) else none
 |_=>none
def Oc(f:FuncId):List AV→Option (Unit×List AV)
 |.fn f' []::r=>if f'=f then some ((),r) else none
 |_=>none
def dec:(k:K)→List AV→Option (k.T×List AV)
 |.int ik,cs=>HD ik cs
 |.bool,cs=>Bv cs
 |.str,cs=>HE cs
 |.sl k,cs=>N8 k cs
 |.mp kk vk,cs=>N9 kk vk cs
 |.fn f,cs=>Oc f cs
 |.pair a b,cs =>
  match dec a cs with
  |some (x,r)=>match dec b r with
   |some (y,r')=>some ((x,y),r')
   |none=>none
  |none=>none
 |.one k,cs=>dec k cs
def dv(k:K)(cs:List AV):Option k.T :=match dec k cs with
 |some (x,[])=>some x
 |_=>none
def cc:(k:K)→k.T→AV
 |.pair a b,x=>.agg (enc (.pair a b) x)
 |.one k,x=>.agg (enc (.one k) x)
 |.int ik,n=>.int ik n
 |.bool,b=>.bool b
 |.str,s=>.str s
 |.sl k,xs=>.sl false k xs
 |.mp kk vk,es=>.mp kk vk es
 |.fn f,_=>.fn f []
inductive OK where
 |row (ty:TypeId) (k:K)|map (kk vk:K)|iter (kk vk:K)|oT
 deriving DecidableEq
abbrev OK.T:OK→Type
 |.row _ k=>List k.T
 |.map kk vk=>List (kk.T×vk.T)
 |.iter kk vk=>Option (kk.T×vk.T)×List (kk.T×vk.T)
 |.oT=>ByteArray×Nat
inductive Ob where
 |box (ty:TypeId) (cs:List AV)
 |own (ok:OK) (x:ok.T)
abbrev Heap:=List (Nat×Ob)
def Heap.get:Heap→Nat→Option Ob
 |[],_=>none
 |(i,o)::r,n=>if i=n then some o else Heap.get r n
def Heap.del:Heap→Nat→Heap
 |[],_=>[]
 |(i,o)::r,n=>if i=n then Heap.del r n else(i,o)::Heap.del r n
def Heap.set(h:Heap)(n:Nat)(o:Ob):Heap:=(n,o)::h.del n
def cY(h:Heap):AV→AV
 |.bK id=>match h.get id with
  |some (.own (.row _ k) xs)=>.sl false k xs
  |some (.own (.map kk vk) es)=>.mp kk vk es
  |_=>.no
 |v=>v
def drop1(h:Heap):AV→Heap
 |.bK id=>h.del id
 |_=>h
def cM(h:Heap):List AV→Heap
 |[]=>h
 |c::r=>cM (drop1 h c) r
structure St where
 tmps:List (Nat×AV)
 heap:Heap
def look:List (Nat×AV)→Nat→AV
 |[],_=>.no
 |(i,v)::r,n=>if i=n then v else look r n
def St.put(s:St)(d:Option Tmp)(v:AV):St :=match d with
 |some d=>{ s with tmps:=(d,v)::s.tmps }
 |none=>s
def yw:Value→AV
 |.bool b=>.bool b
 |.int k n=>.int k n
 |.string s=>.str s
 |.pointer a=>if a=none then .l8 else .no
 |.slice a n c=>if a=none∧n=0∧c=0 then .fW else .no
 |.func fn first cap=>match fn with
  |.func f=>if first.size=0∧cap.size=0 then .fn f [] else .no
  |_=>.no
 |_=>.no
def vA(v:Value):AV :=match v with
 |.agg cs=>.agg (cs.toList.map yw)
 |v=>yw v
def ρ(s:List (Nat×AV)):Operand→AV
 |.tmp t=>look s t
 |.const v=>vA v
 |.global _=>.no
 |.func f=>.fn f []
inductive bE where
 |val (v:AV)
 |new (v:AV) (os:Heap)
 |wr (v:AV) (h:Heap)
def bE.v:bE→AV
 |.val v=>v
 |.new v _=>v
 |.wr v _=>v
def bE.h(h:Heap):bE→Heap
 |.val _=>h
 |.new _ os=>os++h
 |.wr _ h'=>h'
inductive CK where
 |val (k:K)
 |own (ok:OK)
inductive PK where
 |val (k:K)
 |ref
 |own
 |wz (f:FuncId) (n:Nat)
 |agg (n:Nat)
inductive RK where
 |val (k:K)
 |own (ok:OK)
 |fj (b:Nat) (alts:List (Nat×Nat×Nat))
 |agg (c:List CK)
inductive BK where
 |box (ty:TypeId) (dR:List CK)
 |own (ok:OK)
def BK.dR:BK→List CK
 |.box _ c=>c
 |.own _=>[]
def CK.T:CK→Type
 |.val k=>k.T
 |.own ok=>ok.T
def rZ:List CK→Type
 |[]=>Unit
 |c::r=>c.T×rZ r
abbrev BK.T:BK→Type
 |.box _ c=>rZ c
 |.own ok=>ok.T
def Af:List BK→Type
 |[]=>Unit
 |b::r=>b.T×Af r
def Js:List K→Type
 |[]=>Unit
 |k::r=>k.T×Js r
def RK.T:RK→Type
 |.val k=>k.T
 |.own ok=>ok.T
 |.fj _ alts=>Option (Fin alts.length×Nat)
 |.agg c=>rZ c
def mD:List RK→Type
 |[]=>Unit
 |r::l=>r.T×mD l
def lT:List PK→List K
 |[]=>[]
 |.val k::r=>k::lT r
 |_::r=>lT r
structure aN where
 ps:List PK
 bs:List BK
 rs:List RK
 x:Option (Heap→Nat→List AV→Option (Bool×bE)):=none
abbrev aN.A(g:aN):Type:=Js (lT g.ps)×Af g.bs
abbrev aN.B(g:aN):Type:=mD g.rs×Af g.bs
def RK.plain:RK→Bool
 |.val _=>true
 |.own ..=>true
 |.fj ..=>false
 |.agg c=>decide (c.length≤16)
def RK.flat:RK→Bool
 |.val k=>k.flat
 |.own (.row _ k)=>k.flat
 |.own _=>false
 |.fj ..=>true
 |.agg _=>false
section
variable (P:Program)
def Mo:TypeDesc→Bool
 |.struct _=>true
 |.array _ _=>true
 |_=>false
def F3(t:TypeId):Option Bool:=(P.underlying t).map Mo
def iq(t:TypeId)(f:Nat):Option (Nat×TypeId) :=match P.underlying t with
 |some (.struct fs)=>(fs[f]?).map fun x=>(x.offset,x.type)
 |_=>none
def r8(t:TypeId):Option TypeId :=match P.underlying t with
 |some (.slice e)=>some e
 |_=>none
def B7(t:TypeId):Option (List AV):=(P.info? t).bind fun i=>i.zero.bind fun z=>if z.cells.toList.all (·.oneCell') then some (vA z).cells else none
def eJ(t:TypeId)(cs:List AV):Option AV :=match F3 P t with
 |some true=>if P.cellsOf t≤cs.length then some (.agg (cs.take (P.cellsOf t))) else none
 |some false=>match cs with
  |c::_=>some c
  |[]=>none
 |none=>none
def eF{α:Type}(cs:List α):Nat→List α→List α
 |_,[]=>cs
 |off,v::r=>eF (cs.set off v) (off+1) r
def F4(place:Nat→Option (Nat×Nat))(cs:List AV):List (Nat×AV)→Option (List AV)
 |[]=>some cs
 |(i,v)::r =>
  match place i with
  |none=>none
  |some (off,size)=>if v.cells.length≠size∨off+v.cells.length>cs.length then none else F4 place (eF cs off v.cells) r
def dr(op:BinOp)(k:IntKind)(a b:Int):Int :=k.wrap ((match op with
  |.and=>BitVec.ofInt k.bits a &&& BitVec.ofInt k.bits b
  |.or=>BitVec.ofInt k.bits a ||| BitVec.ofInt k.bits b
  |.xor=>BitVec.ofInt k.bits a ^^^ BitVec.ofInt k.bits b
  |_=>BitVec.ofInt k.bits a &&& ~~~(BitVec.ofInt k.bits b)).toNat:Int)
def Bc(k:IntKind)(a b:Int):Int:=k.wrap (a*2 ^ (min b.toNat k.bits))
def ir(k:IntKind)(a b:Int):Int:=a.fdiv (2 ^ (min b.toNat k.bits))
def aa7(op:BinOp)(k:IntKind)(a b:Int):Option AV :=match op with
 |.add=>some (.int k (k.wrap (a+b)))
 |.sub=>some (.int k (k.wrap (a-b)))
 |.mul=>some (.int k (k.wrap (a*b)))
 |.eql=>some (.bool (a==b))
 |.neq=>some (.bool (a != b))
 |.lss=>some (.bool (decide (a<b)))
 |.leq=>some (.bool (decide (a≤b)))
 |.gtr=>some (.bool (decide (a>b)))
 |.geq=>some (.bool (decide (a≥b)))
 |.and=>some (.int k (dr .and k a b))
 |.or=>some (.int k (dr .or k a b))
 |.xor=>some (.int k (dr .xor k a b))
 |.andNot=>some (.int k (dr .andNot k a b))
 |_=>none
def adF(op:BinOp)(a b:ByteArray):Option AV :=match op with
 |.eql=>some (.bool (a==b))
 |.neq=>some (.bool (!(a==b)))
 |_=>none
def tp:(k:K)→k.T→k.T→Bool
 |.int _,x,y=>(show Int from x)==y
 |.bool,x,y=>(show Bool from x)==y
 |.str,x,y=>(show ByteArray from x)==y
 |.sl _,_,_=>false
 |.mp _ _,_,_=>false
 |.fn _,_,_=>false
 |.pair a b,x,y=>tp a x.1 y.1&&tp b x.2 y.2
 |.one k,x,y=>tp k x y
def r9(kk:K){α:Type}(x:kk.T)(es:List (kk.T×α)):Option Nat:=es.findIdx? fun e=>tp kk x e.1
def fJ(kk:K){α:Type}(x:kk.T)(es:List (kk.T×α)):Option α:=(r9 kk x es).bind fun i=>(es[i]?).map (·.2)
def jK(kk:K){α:Type}(x:kk.T)(v:α)(es:List (kk.T×α)):List (kk.T×α):=match r9 kk x es with
 |some i=>es.set i (x,v)
 |none=>es++[(x,v)]
def HF(kk:K){α:Type}(x:kk.T)(es:List (kk.T×α)):List (kk.T×α):=match r9 kk x es with
 |some i=>es.eraseIdx i
 |none=>es
def kf:(k:K)→k.T
 |.int _=>(0:Int)
 |.bool=>false
 |.str=>ByteArray.empty
 |.sl k=>([]:List k.T)
 |.pair a b=>(kf a,kf b)
 |.one k=>kf k
 |.mp kk vk=>([]:List (kk.T×vk.T))
 |.fn _=>()
def SO:K→Value→Bool
 |.int ik,.int ik' n=>decide (ik'=ik∧n=0)
 |.bool,.bool b => !b
 |.str,.string s=>decide (s=ByteArray.empty)
 |.sl _,.slice a n c=>decide (a=none∧n=0∧c=0)
 |_,_=>false
def Jt(t:TypeId)(k:K):Bool:=match P.info? t with
 |some i=>match i.zero with
  |some z=>SO k z
  |none=>false
 |none=>false
def Od(Eqs:TypeId→Option K)(t:TypeId)(k:K):Bool:=k.flat&&(match k,P.underlying t with
 |.int ik,some (.int ik')=>decide (ik'=ik)
 |.bool,some .bool=>true
 |.str,some .string=>true
 |k,_=>k.isAgg&&decide (Eqs t=some k))
def mapOf(Eqs:TypeId→Option K)(t:TypeId):Option (K×K):=match P.underlying t with
 |some (.map a b)=>match qk P 8 a,qk P 8 b with
  |some kk,some vk=>if Od P Eqs a kk&&Jt P b vk then some (kk,vk) else none
  |_,_=>none
 |_=>none
def aS{α:Type}(xs:List α)(i:Int):Option α:=if 0≤i then xs[i.toNat]? else none
def fk:Nat:=1073741824
def aL(n m:Nat):Bool:=decide (n+m≤fk)
def oU(n:Nat)(lo hi:Option AV):Option (Int×Int) :=match lo,hi with
 |none,none=>some (0,(n:Int))
 |some (.int .i64 l),none=>some (l,(n:Int))
 |none,some (.int .i64 h)=>some (0,h)
 |some (.int .i64 l),some (.int .i64 h)=>some (l,h)
 |_,_=>none
def aB(n:Nat)(l h:Int):Bool:=decide (0≤l)&&(decide (l≤h)&&decide (h≤(n:Int)))
def cut{α:Type}(xs:List α)(l h:Int):List α:=(xs.take h.toNat).drop l.toNat
def aa8(s:ByteArray)(l h:Int):ByteArray:=s.extract l.toNat h.toNat
variable {R:Type}
def hY(k:K)(h:Heap)(v:AV):Option k.T:=if k.isAgg=v.isAgg then dv k (v.cells.map (cY h)) else none
def rowOf(h:Heap)(v:AV)(k:K):Option (List k.T) :=match cY h v with
 |.sl _ k' xs=>if e:k'=k then some (e▸xs) else none
 |.fW=>some []
 |_=>none
def yx(e:TypeId)(k:K):Bool :=match P.info? e with
 |some i=>(match i.zero with
  |some z=>decide (i.size=k.sz)&&(decide (z.cells.size=k.sz)&&decide (i.bytes≤65536))
  |none=>false)
 |none=>false
def Qf(t:TypeId):Bool:=match P.underlying t with
 |some (.int .u8)=>true
 |_=>false
def aa9(e:TypeId):Bool:=match P.info? e with
 |some i=>decide (i.size=1)&&decide (i.bytes=1)&&(match i.zero with|some (.int .u8 n)=>decide (n=0)|_=>false)
 |none=>false
def strOf(xs:List Int):ByteArray:=xs.foldl (fun r n=>r.push (UInt8.ofNat n.toNat)) ByteArray.empty
def bytesOf(s:ByteArray):List Int:=s.data.toList.map fun b=>(b.toNat:Int)
def sd(xs:List Int)(b:ByteArray):List Int:=xs++bytesOf b
def mn(h:Heap)(id:Nat)(t:TypeId)(s:AV)(b:ByteArray)(K:bE→Option R):Option R :=match r8 P t,s with
 |some e,.bK cF =>
  if aa9 P e then match h.get cF with
   |some (.own (.row e' k') xs)=>if c:e'=e∧k'=.int .u8 then cond (!xs.isEmpty&&aL xs.length b.size) (K (.wr (.bK id) ((h.del cF).set id (.own (.row e (.int .u8)) (sd (c.2▸xs:List (Vs.K.int .u8).T) b))))) none else none
   |_=>none
  else none
 |_,_=>none
def tu(id:Nat)(t:TypeId)(l c:AV)(K:bE→Option R):Option R :=match r8 P t,l,c with
 |some e,.int .i64 n,.int .i64 m =>
  match qk P 8 e with
  |some kk=>if yx P e kk&&Jt P e kk then cond (decide (0≤n)&&(decide (n≤(fk:Int))&&decide (m=n))) (K (.new (.bK id) [(id,.own (.row e kk) (List.replicate n.toNat (kf kk)))])) none else none
  |none=>none
 |_,_,_=>none
def nN{α:Type}(ys xs:List α):List α:=ys.take xs.length++xs.drop ys.length
def yy(h:Heap)(t:TypeId)(d s:AV)(K:bE→Option R):Option R :=match r8 P t,d with
 |some e,.bK id =>
  match h.get id with
  |some (.own (.row e' k) xs) =>
   match rowOf h s k with
   |some ys=>if e'=e∧yx P e k=true then cond (!xs.isEmpty) (K (.wr (.int .i64 (min (ys.length:Int) (xs.length:Int))) (h.set id (.own (.row e' k) (nN ys xs))))) none else none
   |none=>none
  |_=>none
 |_,_=>none
def oV(h:Heap)(id:Nat)(t:TypeId)(s x:AV)(K:bE→Option R):Option R :=match r8 P t with
 |none=>none
 |some e =>
  match qk P 8 e with
  |none=>none
  |some kk =>
   match rowOf h x kk,yx P e kk with
   |some ys,true =>
    match s with
    |.fW=>cond (aL 0 ys.length) (K (.new (.bK id) [(id,.own (.row e kk) ys)])) none
    |.bK cF =>
     match h.get cF with
     |some (.own (.row e' k') xs) =>
      if c:e'=e∧k'=kk then cond (aL xs.length ys.length) (K (.wr (.bK id) ((h.del cF).set id (.own (.row e kk) (c.2▸xs++ys))))) none else none
     |_=>none
    |.sl ex k' xs =>
     if c:k'=kk then cond (ex&&((!ys.isEmpty || xs.isEmpty)&&aL xs.length ys.length)) (K (.new (.bK id) [(id,.own (.row e kk) (c▸xs++ys))])) none else none
    |_=>none
   |_,_=>none
def yz:AV→Bool
 |.no=>false
 |.agg _=>false
 |.oz _=>false
 |_=>true
def Mp(id:Nat):List AV→Bool
 |[]=>true
 |.bK i::r => !(i==id)&&Mp id r
 |_::r=>Mp id r
def stored(h:Heap)(vs:List AV):List AV×Heap:=(vs.map (cY h),cM h vs)
def tv(h:Heap)(t:TypeId)(a v:AV)(K:bE→Option R):Option R :=if v.cells.length=P.cellsOf t∧(P.info? t).isSome∧v.cells.all yz then
  match a with
  |.ref id s i off =>
   match h.get id with
   |some (.box ty cs)=>if i=0∧off+v.cells.length≤cs.length then K (.wr .no (h.set id (.box ty (eF cs off v.cells)))) else none
   |some (.own (.row ty kk) xs) =>
    (xs[i]?).bind fun x =>if s=kk.sz∧off+v.cells.length≤kk.sz∧Mp id v.cells then
      match dv kk (eF (enc kk x) off (stored h v.cells).1) with
      |some y=>K (.wr .no ((stored h v.cells).2.set id (.own (.row ty kk) (xs.set i y))))
      |none=>none
     else none
   |_=>none
  |_=>none
 else none
def mE(h:Heap)(t:TypeId)(a:AV)(K:bE→Option R):Option R :=match a with
 |.ref id s i off =>
  match h.get id with
  |some (.box _ cs)=>if i=0 then(match eJ P t (cs.drop off) with|some v=>K (.val v)|none=>none) else none
  |some (.own (.row _ kk) xs)=>if s=kk.sz then(xs[i]?).bind fun x=>match eJ P t ((enc kk x).drop off) with|some v=>K (.val v)|none=>none else none
  |_=>none
 |.fp kk x off=>match eJ P t ((enc kk x).drop off) with|some v=>K (.val v)|none=>none
 |_=>none
def dI(h:Heap)(t:TypeId)(x i:AV)(K:bE→Option R):Option R :=match r8 P t with
 |none=>none
 |some e =>
  match x,i with
  |.sl _ kk xs,.int _ n=>if P.cellsOf e=kk.sz then(aS xs n).bind fun y=>K (.val (.fp kk y 0)) else none
  |.bK id,.int _ n =>
   match h.get id with
   |some (.own (.row _ kk) xs)=>if P.cellsOf e=kk.sz then cond (decide (0≤n)&&decide (n<(xs.length:Int))) (K (.val (.ref id kk.sz n.toNat 0))) none else none
   |_=>none
  |_,_=>none
def yC(x:AV)(lo hi mx:Option AV)(K:bE→Option R):Option R :=match x,mx with
 |.str s,none =>
  match oU s.size lo hi with
  |some (l,u)=>cond (aB s.size l u) (K (.val (.str (aa8 s l u)))) none
  |none=>none
 |_,_=>none
def ql(_:Heap)(sz:Nat)(x:AV)(lo hi mx:Option AV)(K:bE→Option R):Option R :=match x with
 |.fW =>
  match oU 0 lo hi,mx with
  |some (l,u),none=>cond (aB 0 l u) (K (.val .fW)) none
  |_,_=>none
 |.sl _ kk xs =>
  if sz=kk.sz then
   match oU xs.length lo hi with
   |some (l,u) =>
    match mx with
    |none=>cond (aB xs.length l u) (K (.val (.sl false kk (cut xs l u)))) none
    |some (.int .i64 m)=>cond (aB xs.length l u&&(hi.isSome&&decide (m=u))) (K (.val (.sl true kk (cut xs l u)))) none
    |_=>none
   |none=>none
  else none
 |_=>none
def aba(t:TypeId)(x:AV):Bool :=match P.underlying t,x with
 |some .string,.str _=>true
 |some (.slice _),.str _=>false
 |some (.slice _),_=>true
 |_,_=>false
def Mq(t:TypeId):Bool :=match P.underlying t with
 |some (.map _ _)=>true
 |_=>false
def F5(h:Heap)(x:AV)(K:bE→Option R):Option R :=match cY h x with
 |.str s=>K (.val (.int .i64 (s.size:Int)))
 |.sl _ _ xs=>K (.val (.int .i64 (xs.length:Int)))
 |.fW=>K (.val (.int .i64 0))
 |_=>none
def yD(h:Heap)(x:AV)(K:bE→Option R):Option R :=match cY h x with
 |.mp _ _ es=>K (.val (.int .i64 (es.length:Int)))
 |_=>none
def mo(Eqs:TypeId→Option K)(id:Nat)(t:TypeId)(K:bE→Option R):Option R :=match mapOf P Eqs t with
 |some (kk,vk)=>K (.new (.bK id) [(id,.own (.map kk vk) [])])
 |none=>none
def oW(Eqs:TypeId→Option K)(h:Heap)(t:TypeId)(m i:AV)(ok:Bool)(K:bE→Option R):Option R :=match mapOf P Eqs t,cY h m with
 |some (kk,vk),.mp Oa XL es =>
  if c:Oa=kk∧XL=vk then
   match hY kk h i with
   |some x=>K (.val (cond ok (.oz [cc vk ((fJ kk x (c.1▸c.2▸es:List (kk.T×vk.T))).getD (kf vk)),.bool (fJ kk x (c.1▸c.2▸es:List (kk.T×vk.T))).isSome]) (cc vk ((fJ kk x (c.1▸c.2▸es:List (kk.T×vk.T))).getD (kf vk)))))
   |none=>none
  else none
 |_,_=>none
def jx(Eqs:TypeId→Option K)(h:Heap)(t:TypeId)(m i v:AV)(K:bE→Option R):Option R :=match mapOf P Eqs t,m with
 |some (kk,vk),.bK id =>
  match h.get id with
  |some (.own (.map Oa XL) es) =>
   if c:Oa=kk∧XL=vk then
    match hY kk h i,hY vk h v,(v.cells.all fun c=>match c with | .bK j => !(j==id)|_=>true) with
    |some x,some y,true=>K (.wr (.oz []) ((cM h v.cells).set id (.own (.map kk vk) (jK kk x y (c.1▸c.2▸es:List (kk.T×vk.T))))))
    |_,_,_=>none
   else none
  |_=>none
 |_,_=>none
def oX(Eqs:TypeId→Option K)(h:Heap)(t:TypeId)(m i:AV)(K:bE→Option R):Option R :=match mapOf P Eqs t,m with
 |some (kk,vk),.bK id =>
  match h.get id with
  |some (.own (.map Oa XL) es) =>
   if c:Oa=kk∧XL=vk then
    match hY kk h i with
    |some x=>K (.wr (.oz []) (h.set id (.own (.map kk vk) (HF kk x (c.1▸c.2▸es:List (kk.T×vk.T))))))
    |none=>none
   else none
  |_=>none
 |_,_=>none
def oY(id:Nat)(t:TypeId)(x:AV)(K:bE→Option R):Option R :=match P.underlying t,x with
 |some .string,.str s=>K (.new (.bK id) [(id,.own .oT (s,0))])
 |_,_=>none
def qm(s:ByteArray)(p:Nat):Int:=(Utf8.decode s p).1
def B8(s:ByteArray)(p:Nat):Nat:=(Utf8.decode s p).2
def tw(h:Heap)(x:AV)(K:bE→Option R):Option R :=match x with
 |.bK id=>match h.get id with
  |some (.own .oT x)=>cond (decide (x.2<x.1.size)) (K (.wr (.oz [.bool true,.int .i64 (x.2:Int),.int .i32 (qm x.1 x.2)]) (h.set id (.own .oT (x.1,x.2+B8 x.1 x.2))))) (K (.val (.oz [.bool false])))
  |_=>none
 |_=>none
def tx(h:Heap)(x:AV)(K:bE→Option R):Option R :=match x with
 |.bK id=>match h.get id with
  |some (.own (.iter kk vk) (some c,_))=>K (.val (.oz [cc kk c.1,cc vk c.2]))
  |_=>none
 |_=>none
def HH:TypeDesc→Bool
 |.bool=>true
 |_=>false
def yE:TypeDesc→Bool
 |.pointer _=>true
 |_=>false
def Ag(Eqs:TypeId→Option K)(op:BinOp)(t:TypeId)(x y:AV)(K:bE→Option R):Option R :=match x,y with
 |.int k a,.int k' b =>
  match op with
  |.shl=>cond (decide (b<0)) none (K (.val (.int k (Bc k a b))))
  |.shr=>cond (decide (b<0)) none (K (.val (.int k (ir k a b))))
  |op =>
  if k=k' then
   match op with
   |.quo=>cond (b==0) none (K (.val (.int k (k.wrap (a.tdiv b)))))
   |.rem=>cond (b==0) none (K (.val (.int k (a.tmod b))))
   |op=>match aa7 op k a b with
    |some v=>K (.val v)
    |none=>none
  else none
 |.str a,.str b=>match adF op a b with
  |some v=>K (.val v)
  |none=>none
 |.bool a,.bool b =>
  match op,(P.underlying t).map HH with
  |.eql,some true=>K (.val (.bool (a==b)))
  |.neq,some true=>K (.val (.bool (!(a==b))))
  |_,_=>none
 |.agg a,.agg b =>
  match Eqs t with
  |none=>none
  |some k =>
   match op,dv k a,dv k b with
   |.eql,some x,some y=>K (.val (.bool (tp k x y)))
   |.neq,some x,some y=>K (.val (.bool (!(tp k x y))))
   |_,_,_=>none
 |.l8,.l8 =>
  match op,(P.underlying t).map yE with
  |.eql,some true=>K (.val (.bool true))
  |.neq,some true=>K (.val (.bool false))
  |_,_=>none
 |.ref ..,.l8 =>
  match op,(P.underlying t).map yE with
  |.eql,some true=>K (.val (.bool false))
  |.neq,some true=>K (.val (.bool true))
  |_,_=>none
 |_,_=>none
def Zv(b:Bool)(x y:AV):AV :=match x,y with
 |.bool p,.bool q=>.bool (cond b p q)
 |x,y=>cond b x y
end
def eQ(h:Heap)(ok:OK)(c:AV):Option ok.T :=match c with
 |.fW=>match ok with
  |.row _ _=>some []
  |_=>none
 |.bK id=>match h.get id with
  |some (.own XM x)=>if e:XM=ok then some (e▸x) else none
  |_=>none
 |_=>none
def qn:AV→List Nat
 |.bK id=>[id]
 |_=>[]
def cS:(dR:List CK)→Heap→List AV→Option (rZ dR)
 |[],_,[]=>some ()
 |.val k::r,h,cs =>
  match dv k ((cs.take k.sz).map (cY h)),cS r h (cs.drop k.sz) with
  |some x,some y=>some (x,y)
  |_,_=>none
 |.own ok::r,h,c::cs =>
  match eQ h ok c,cS r h cs with
  |some x,some y=>some (x,y)
  |_,_=>none
 |_,_,_=>none
def rr:List CK→List AV→List AV
 |.val k::r,cs=>cs.take k.sz++rr r (cs.drop k.sz)
 |.own _::r,_::cs=>rr r cs
 |_,_=>[]
def gx:List CK→List AV→List Nat
 |.val k::r,cs=>gx r (cs.drop k.sz)
 |.own _::r,c::cs=>qn c++gx r cs
 |_,_=>[]
def aG:(dR:List CK)→Nat→rZ dR→List AV
 |[],_,_=>[]
 |.val k::r,n,x=>enc k x.1++aG r (n+1) x.2
 |.own _::r,n,x=>.bK n::aG r (n+1) x.2
def aY:(dR:List CK)→Nat→rZ dR→Heap
 |[],_,_=>[]
 |.val _::r,n,x=>aY r (n+1) x.2
 |.own ok::r,n,x=>(n,.own ok x.1)::aY r (n+1) x.2
def B9(h:Heap)(id:Nat)(ty:TypeId):Option (List AV) :=match h.get id with
 |some (.box Jh cs)=>if Jh=ty then some cs else none
 |_=>none
def sf:(b:BK)→Heap→Nat→Option b.T
 |.box ty c,h,i=>match B9 h i ty with
  |some cs=>cS c h cs
  |none=>none
 |.own ok,h,i=>eQ h ok (.bK i)
def du:(bs:List BK)→Heap→List Nat→Option (Af bs)
 |[],_,[]=>some ()
 |b::r,h,i::is =>
  match sf b h i,du r h is with
  |some x,some y=>some (x,y)
  |_,_=>none
 |_,_,_=>none
def km:(b:BK)→Nat→Nat→b.T→Heap
 |.box ty c,i,n,x=>(i,.box ty (aG c n x))::aY c n x
 |.own ok,i,_,x=>[(i,.own ok x)]
def bG:(bs:List BK)→List Nat→Nat→Af bs→Heap
 |b::r,i::is,n,x=>km b i n x.1++bG r is (n+16) x.2
 |_,_,_,_=>[]
def Ca:BK→Heap→Nat→List AV
 |.box _ c,h,i=>match h.get i with
  |some (.box _ cs)=>rr c cs
  |_=>[]
 |.own _,_,_=>[]
def gM:List BK→Heap→List Nat→List AV
 |b::r,h,i::is=>Ca b h i++gM r h is
 |_,_,_=>[]
def nO:BK→Heap→Nat→List Nat
 |.box _ c,h,i=>i::(match h.get i with
  |some (.box _ cs)=>gx c cs
  |_=>[])
 |.own _,_,i=>[i]
def de:List BK→Heap→List Nat→List Nat
 |b::r,h,i::is=>nO b h i++de r h is
 |_,_,_=>[]
def iu(h:Heap):List Nat→Heap
 |[]=>h
 |i::r=>iu (h.del i) r
def F6:AV→Option Nat
 |.ref id _ 0 0=>some id
 |_=>none
def kq:List AV→Option (List Nat)
 |[]=>some []
 |v::r=>match F6 v,kq r with
  |some i,some is=>some (i::is)
  |_,_=>none
def qo:List AV→Option (List Nat)
 |[]=>some []
 |.bK i::r=>match qo r with
  |some is=>some (i::is)
  |none=>none
 |_=>none
def cI:List PK→List AV→Option (List Nat)
 |[],[]=>some []
 |.val _::ps,_::vs=>cI ps vs
 |.ref::ps,v::vs=>match F6 v,cI ps vs with
  |some i,some is=>some (i::is)
  |_,_=>none
 |.own::ps,.bK i::vs=>match cI ps vs with
  |some is=>some (i::is)
  |none=>none
 |.wz f n::ps,.fn f' cap::vs =>
  if f'=f∧cap.length=n then match kq cap,cI ps vs with
   |some a,some b=>some (a++b)
   |_,_=>none
  else none
 |.agg n::ps,.agg cs::vs =>
  if cs.length=n then match qo cs,cI ps vs with
   |some a,some b=>some (a++b)
   |_,_=>none
  else none
 |_,_=>none
def fK:(ps:List PK)→Heap→List AV→Option (Js (lT ps))
 |[],_,[]=>some ()
 |.val k::ps,h,v::vs =>
  match hY k h v,fK ps h vs with
  |some x,some y=>some (x,y)
  |_,_=>none
 |.ref::ps,h,_::vs=>fK ps h vs
 |.own::ps,h,_::vs=>fK ps h vs
 |.wz _ _::ps,h,_::vs=>fK ps h vs
 |.agg _::ps,h,_::vs=>fK ps h vs
 |_,_,_=>none
def dz:List PK→List AV→List AV
 |.val _::ps,v::vs=>v.cells++dz ps vs
 |_::ps,_::vs=>dz ps vs
 |_,_=>[]
def aV:(ps:List PK)→(ids:List Nat)→Nat→Js (lT ps)→List (Nat×AV)
 |[],_,_,_=>[]
 |.val k::ps,ids,s,x=>(s,cc k x.1)::aV ps ids (s+1) x.2
 |.ref::ps,i::ids,s,x=>(s,.ref i 0 0 0)::aV ps ids (s+1) x
 |.ref::ps,[],s,x=>(s,.no)::aV ps [] (s+1) x
 |.own::ps,i::ids,s,x=>(s,.bK i)::aV ps ids (s+1) x
 |.own::ps,[],s,x=>(s,.no)::aV ps [] (s+1) x
 |.wz f n::ps,ids,s,x=>(s,.fn f ((ids.take n).map fun i=>.ref i 0 0 0))::aV ps (ids.drop n) (s+1) x
 |.agg n::ps,ids,s,x=>(s,.agg ((ids.take n).map .bK))::aV ps (ids.drop n) (s+1) x
def nP:List CK→Nat→Nat
 |.val k::r,c+1=>k.sz+nP r c
 |.own _::r,c+1=>1+nP r c
 |_,_=>0
def gG:List CK→Nat→Bool
 |.own (.row _ _)::_,0=>true
 |_::r,c+1=>gG r c
 |_,_=>false
def SP(id:Nat):Option AV→Bool
 |some (.bK oZ)=>oZ==id
 |_=>false
def Cb(c:List CK)(cs:List AV)(id s off:Nat)(a:Nat×Nat×Nat):Bool :=SP id (cs[nP c a.1]?)&&(decide (s=a.2.1)&&(decide (off=a.2.2)&&gG c a.1))
def oC(bs:List BK)(h:Heap)(ids:List Nat)(b:Nat)(alts:List (Nat×Nat×Nat))(v:AV):Option (Option (Fin alts.length×Nat)) :=match v with
 |.l8=>some none
 |.ref id s i off =>
  (match ids[b]?,bs[b]? with
  |some bi,some bk=>(match h.get bi with
   |some (.box _ cs)=>(match (List.finRange alts.length).find? (fun a=>Cb bk.dR cs id s off (alts.get a)) with
    |some a=>some (some (a,i))
    |none=>none)
   |_=>none)
  |_,_=>none)
 |_=>none
def Cc(c:List CK)(h:Heap)(v:AV):Option (rZ c) :=match v with
 |.agg cs=>cS c h cs
 |_=>none
def bM(bs:List BK):(rs:List RK)→Heap→List Nat→List AV→Option (mD rs)
 |[],_,_,[]=>some ()
 |.val k::r,h,ids,v::vs =>
  match hY k h v,bM bs r h ids vs with
  |some x,some y=>some (x,y)
  |_,_=>none
 |.own ok::r,h,ids,v::vs =>
  match eQ h ok v,bM bs r h ids vs with
  |some x,some y=>some (x,y)
  |_,_=>none
 |.fj b alts::r,h,ids,v::vs =>
  match oC bs h ids b alts v,bM bs r h ids vs with
  |some x,some y=>some (x,y)
  |_,_=>none
 |.agg c::r,h,ids,v::vs =>
  match Cc c h v,bM bs r h ids vs with
  |some x,some y=>some (x,y)
  |_,_=>none
 |_,_,_,_=>none
def gN:List RK→List AV→List AV
 |.val _::r,v::vs=>v.cells++gN r vs
 |.agg c::r,v::vs=>rr c v.cells++gN r vs
 |_::r,_::vs=>gN r vs
 |_,_=>[]
def ep:List RK→List AV→List Nat
 |.own _::r,v::vs=>qn v++ep r vs
 |.agg c::r,v::vs=>gx c v.cells++ep r vs
 |_::r,_::vs=>ep r vs
 |_,_=>[]
def wD(b n:Nat)(alts:List (Nat×Nat×Nat)):Option (Fin alts.length×Nat)→AV
 |none=>.l8
 |some (a,i)=>.ref (n+16*b+(alts.get a).1) (alts.get a).2.1 i (alts.get a).2.2
def aX:(rs:List RK)→(ids:List Nat)→(n m:Nat)→mD rs→List AV
 |[],_,_,_,_=>[]
 |.val k::r,ids,n,m,x=>cc k x.1::aX r ids n (m+1) x.2
 |.agg c::r,ids,n,m,x=>.agg (aG c m x.1)::aX r ids n (m+1) x.2
 |.own _::r,ids,n,m,x=>.bK m::aX r ids n (m+1) x.2
 |.fj b alts::r,ids,n,m,x=>wD b n alts x.1::aX r ids n (m+1) x.2
def aq:(rs:List RK)→(m:Nat)→mD rs→Heap
 |[],_,_=>[]
 |.own ok::r,m,x=>(m,.own ok x.1)::aq r (m+1) x.2
 |.agg c::r,m,x=>aY c m x.1++aq r (m+1) x.2
 |.val _::r,m,x=>aq r (m+1) x.2
 |.fj _ _::r,m,x=>aq r (m+1) x.2
def fD:List AV→AV
 |[v]=>v
 |vs=>.oz vs
def cv:List CK→Nat→List Nat
 |[],_=>[]
 |.val _::r,n=>cv r (n+1)
 |.own _::r,n=>n::cv r (n+1)
def b5:List BK→List Nat→Nat→List Nat
 |b::r,i::is,n=>i::(cv b.dR n++b5 r is (n+16))
 |_,_,_=>[]
def bD:List RK→Nat→List Nat
 |[],_=>[]
 |.own _::r,m=>m::bD r (m+1)
 |.agg c::r,m=>cv c m++bD r (m+1)
 |.val _::r,m=>bD r (m+1)
 |.fj _ _::r,m=>bD r (m+1)
def aQ(n:Nat):List Nat:=(List.range n).map fun i=>1000+20*i
def si(g:aN):List Nat:=b5 g.bs (aQ g.bs.length) 2000++bD g.rs 3000
def Ju:List AV→Bool
 |[]=>true
 |.bK _::_=>false
 |_::r=>Ju r
def vB:List AV→Bool
 |[]=>true
 |v::r=>Ju v.cells&&vB r
def cf:List Nat→Bool
 |[]=>true
 |i::r => !(r.contains i)&&cf r
def yG(kept:List Nat)(lQ:List AV):Bool:=cf kept&&kept.all fun i=>Mp i lQ
section
variable (P:Program) (Eqs:TypeId→Option K) (Sg:FuncId→Option aN) (F:(f:FuncId)→(g:aN)→g.A→Option g.B)
variable {R:Type}
def Zw(h:Heap)(i:Nat):Option FuncId:=match h.get i with
 |some (.box _ (.fn f _::_))=>some f
 |_=>none
def Mr(h:Heap):List AV→Option FuncId
 |[]=>none
 |.ref i _ _ _::r=>match Zw h i with
  |some f=>some f
  |none=>Mr h r
 |_::r=>Mr h r
def mF(h:Heap)(f:FuncId):List AV→FuncId
 |[]=>f
 |.fn g cap::_=>match Mr h cap with
  |some f2=>f+1000*((g+1)+100000*(f2+1))
  |none=>f+1000*(g+1)
 |.ref i _ _ _::r=>match Zw h i with
  |some f2=>mF h (f+1000*(100000*(f2+1))) r
  |none=>mF h f r
 |_::r=>mF h f r
def Cd:List AV→Bool
 |[]=>false
 |.bK _::_=>true
 |.agg cs::r=>(cs.any fun c=>match c with | .bK _=>true|_=>false) || Cd r
 |_::r=>Cd r
def keyOf(h:Heap)(f:FuncId)(vs:List AV):FuncId:=if Cd vs&&(Sg (mF h f vs+500000)).isSome then mF h f vs+500000 else mF h f vs
def E1(bs:List BK)(r:RK):Bool:=match r with
 |.fj b alts=>match bs[b]? with
  |some bk=>(alts.all fun a=>gG bk.dR a.1)&&decide ((alts.map fun a=>(a.1,a.2.2)).Nodup)
  |none=>false
 |.agg c=>decide (c.length≤16)
 |_=>true
def sj(bs:List BK)(rs:List RK):Bool:=rs.all (E1 bs)
def SQ(f:FuncId)(g:aN):Bool:=sj g.bs g.rs&&( (decide (g.bs.length≤8)&&(g.bs.all fun b=>decide (b.dR.length≤16)))&&((decide (g.rs.length≤100)&&decide (f<1000))&&cf (si g)))
def so{α R:Type}(o:Option α)(a:Option R)(f:α→Option R):Option R:=match o with
 |none=>a
 |some x=>f x
def adG{R:Type}(n:Nat)(a:Fin n)(f:Fin n→Option R):Option R:=(List.finRange n).foldr (fun j r=>cond (a.val==j.val) (f j) r) none
def kr{R:Type}:(rs:List RK)→mD rs→(mD rs→Option R)→Option R
 |[],_,K=>K ()
 |.fj _ alts::r,x,K=>so x.1 (kr r x.2 fun z=>K (none,z)) (fun p=>adG alts.length p.1 fun a=>kr r x.2 fun z=>K (some (a,p.2),z))
 |.val _::r,x,K=>kr r x.2 fun z=>K (x.1,z)
 |.own _::r,x,K=>kr r x.2 fun z=>K (x.1,z)
 |.agg _::r,x,K=>kr r x.2 fun z=>K (x.1,z)
def jL(h:Heap)(id:Nat)(f:FuncId)(vs:List AV)(K:bE→Option R):Option R :=match Sg (keyOf Sg h f vs) with
 |none=>none
 |some g=>match g.x with
 |some u=>if f<1000 then(u h id vs).bind fun p=>cond p.1 (K p.2) none else none
 |none =>
  match cI g.ps vs,SQ f g with
  |some is,true =>
   if is.isEmpty&&g.rs.all RK.plain then
   match fK g.ps h vs,du g.bs h [],g.rs.all RK.plain with
   |some x,some b,true =>
    (F (keyOf Sg h f vs) g (x,b)).bind fun y =>cond (g.rs.all RK.flat || vB vs) (K (.new (fD (aX g.rs [] id (id+128) y.1)) (aq g.rs (id+128) y.1))) (K (.wr (fD (aX g.rs [] id (id+128) y.1)) (aq g.rs (id+128) y.1++cM h (dz g.ps vs))))
   |_,_,_=>none
   else
   match fK g.ps h vs,du g.bs h is,yG (de g.bs h is) (dz g.ps vs++gM g.bs h is)&&cf (b5 g.bs is id++bD g.rs (id+128)) with
   |some x,some b,true =>
    (F (keyOf Sg h f vs) g (x,b)).bind fun y=>kr g.rs y.1 fun z =>K (.wr (fD (aX g.rs is id (id+128) z)) (bG g.bs is id y.2++(aq g.rs (id+128) z++iu (cM h (dz g.ps vs++gM g.bs h is)) (de g.bs h is))))
   |_,_,_=>none
  |_,_=>none
def sq{α:Type}(xs:List α)(i:Int)(ys:List α):Bool:=decide (0≤i)&&(decide (i≤xs.length)&&(decide (ys.length=1)&&aL xs.length ys.length))
def jf{α:Type}(xs:List α)(i:Int)(ys:List α):List α:=xs.take i.toNat++(ys++xs.drop i.toNat)
def kg{α:Type}(xs:List α)(i j:Int):Bool:=decide (0≤i)&&(decide (i<j)&&(decide (j≤xs.length)&&aL xs.length 0))
def dF{α:Type}(xs:List α)(i j:Int):List α:=xs.take i.toNat++xs.drop j.toNat
def Ce(n:Int):Bool:=decide (0≤n)&&decide (n≤fk)
def SR(ty:TypeId)(k:K)(h:Heap)(id:Nat):List AV→Option (Bool×bE)
 |[.bK o,.int .i64 i,.bK j]=>match eQ h (.row ty k) (.bK o),eQ h (.row ty k) (.bK j) with
  |some xs,some ys=>if o=j then none else some (sq xs i ys,.wr (.bK id) ((id,.own (.row ty k) (jf xs i ys))::h.del o))
  |_,_=>none
 |_=>none
def XN(ty:TypeId)(k:K)(h:Heap)(id:Nat):List AV→Option (Bool×bE)
 |[.bK o,.int .i64 i,.int .i64 j]=>match eQ h (.row ty k) (.bK o) with
  |some xs=>some (kg xs i j,.wr (.bK id) ((id,.own (.row ty k) (dF xs i j))::h.del o))
  |none=>none
 |_=>none
def SS(ty:TypeId)(k:K)(_:Heap)(id:Nat):List AV→Option (Bool×bE)
 |[.fW,.int .i64 n]=>some (Ce n,.new (.bK id) [(id,.own (.row ty k) [])])
 |_=>none
def yH(id:Nat)(t:TypeId)(vs:List AV)(K:bE→Option R):Option R :=K (.new (.ref id vs.length 0 0) [(id,.box t vs)])
def Zx:AV→Bool
 |.no=>false
 |_=>true
def tz(t:TypeId)(parts:List (Nat×AV))(K:bE→Option R):Option R :=match B7 P t,P.underlying t with
 |some z,some (.struct fs) =>
  match F4 (fun i=>(fs[i]?).map fun f=>(f.offset,P.cellsOf f.type)) z parts,fs.toList.all (fun f=>(P.info? f.type).isSome)&&parts.all (fun p=>Zx p.2) with
  |some cs,true=>K (.val (.agg cs))
  |_,_=>none
 |_,_=>none
def sr(k:K)(h:Heap):Nat→List (Nat×AV)→Option (List k.T)
 |_,[]=>some []
 |i,(j,v)::r =>
  if j=i then match dv k (v.cells.map (cY h)),sr k h (i+1) r with
   |some x,some xs=>some (x::xs)
   |_,_=>none
  else none
def wE(h:Heap)(id:Nat)(t:TypeId)(n:Nat)(parts:List (Nat×AV))(K:bE→Option R):Option R :=match r8 P t with
 |none=>none
 |some e =>
  match qk P 8 e with
  |none=>none
  |some k =>
   match sr k h 0 parts,yx P e k with
   |none,_=>none
   |some _,false=>none
   |some xs,true =>
    if parts.length=n∧n*k.sz≤1048576 then
     cond (vB (parts.map (·.2))) (K (.new (.bK id) [(id,.own (.row e k) xs)])) (K (.wr (.bK id) ((id,.own (.row e k) xs)::cM h (parts.flatMap (·.2.cells)))))
    else none
def XO:bE→bE
 |.new (.bK _) [(_,.own (.row _ k) xs)]=>.new (.sl true k xs) []
 |e=>e
def yI(lQ:Bool)(h:Heap)(id:Nat)(t:TypeId)(n:Nat)(parts:List (Nat×AV))(K:bE→Option R):Option R :=wE P h id t n parts fun e=>K (if lQ then XO e else e)
def Cf(h:Heap)(src dst:TypeId)(x:AV)(K:bE→Option R):Option R :=match P.underlying src,P.underlying dst,x with
 |some (.int _),some (.int k),.int _ n=>K (.val (.int k (k.wrap n)))
 |some .string,some .string,.str s=>K (.val (.str s))
 |some .string,some (.slice e),.str s=>if Qf P e then K (.new (.sl false (.int .u8) (bytesOf s)) []) else none
 |some (.slice e),some .string,x=>if Qf P e then match rowOf h x (.int .u8) with
  |some xs=>K (.val (.str (strOf xs)))
  |none=>none
  else none
 |_,_,_=>none
def Qg(mx:Bool)(vs:List AV)(K:bE→Option R):Option R :=match vs with
 |[.int k a,.int k' b]=>if k=k' then K (.val (.int k (cond mx (max a b) (min a b)))) else none
 |_=>none
def Zy(t id:Nat):Bool:=(Sg (900000+t)).isSome&&(Sg (2000003+1000*(id / 256-128))).isSome
def cZ(id:Nat)(h:Heap)(s:List (Nat×AV))(o:Oper)(K:bE→Option R):Option R :=match o.op with
 |.move x | .assign x=>K (.val (ρ s x))
 |.pick c a b=>match ρ s c with
  |.bool t=>K (.val (Zv t (ρ s a) (ρ s b)))
  |_=>none
 |.box t x=>if(ρ s x).cells.all yz then yH id t (ρ s x).cells K else none
 |.alloc t=>match B7 P t with
  |some z=>yH id t z K
  |none=>none
 |.build t ps=>tz P t (ps.toList.map fun p=>(p.1,ρ s p.2)) K
 |.buildSlice t n ps=>yI P (Zy Sg t id) h id t n (ps.toList.map fun p=>(p.1,ρ s p.2)) K
 |.load t a=>mE P h t (ρ s a) K
 |.store t a v=>tv P h t (ρ s a) (ρ s v) K
 |.nilCheck x=>match ρ s x with
  |.ref id s i off=>K (.val (.ref id s i off))
  |.fp k x off=>K (.val (.fp k x off))
  |.fn f cap=>K (.val (.fn f cap))
  |_=>none
 |.binOp op t x y _=>Ag P Eqs op t (ρ s x) (ρ s y) K
 |.unOp .not _ x=>match ρ s x with
  |.bool b=>K (.val (.bool (!b)))
  |_=>none
 |.convert src dst x=>Cf P h src dst (ρ s x) K
 |.makeSlice t l c=>tu P id t (ρ s l) (ρ s c) K
 |.makeFunc (.func f) first cap=>if first.size=0 then K (.val (.fn f (cap.toList.map (ρ s)))) else none
 |.slice t x lo hi mx=>match P.underlying t with
  |some .string=>yC (ρ s x) (lo.map (ρ s)) (hi.map (ρ s)) (mx.map (ρ s)) K
  |some (.slice e)=>if(P.info? e).isSome then ql h (P.cellsOf e) (ρ s x) (lo.map (ρ s)) (hi.map (ρ s)) (mx.map (ρ s)) K else none
  |_=>none
 |.fieldAddr t x f=>match iq P t f,ρ s x with
  |some (n,ft),.ref id s i off=>if P.cellsOf ft=0 then none else K (.val (.ref id s i (off+n)))
  |some (n,ft),.fp k x off=>if P.cellsOf ft=0 then none else K (.val (.fp k x (off+n)))
  |_,_=>none
 |.field t x f=>match iq P t f,ρ s x with
  |some (n,ft),.agg cs=>match eJ P ft (cs.drop n) with
   |some v=>K (.val v)
   |none=>none
  |_,_=>none
 |.indexAddr t x i=>dI P h t (ρ s x) (ρ s i) K
 |.index t x i=>match P.underlying t,ρ s x,ρ s i with
  |some .string,.str b,.int _ n=>(if 0≤n then b[n.toNat]? else none).bind fun c=>K (.val (.int .u8 (c.toNat:Int)))
  |_,_,_=>none
 |.makeMap t none=>mo P Eqs id t K
 |.lookup t m i ok=>oW P Eqs h t (ρ s m) (ρ s i) ok K
 |.mapUpdate t m i v=>jx P Eqs h t (ρ s m) (ρ s i) (ρ s v) K
 |.range t x=>oY P id t (ρ s x) K
 |.next x true=>tw h (ρ s x) K
 |.entry x=>tx h (ρ s x) K
 |.extract t i=>match ρ s t with
  |.oz vs=>match vs[i]? with
   |some v=>K (.val v)
   |none=>none
  |_=>none
 |.call c =>
  match c.callee with
  |.value f=>match ρ s f with
   |.fn f cap=>jL Sg F h id f (c.args.toList.map (ρ s)++cap) K
   |_=>none
  |.builtin .len=>match c.args.toList,c.argTypes.toList with
   |[x],[t]=>if Mq P t then yD h (ρ s x) K else if aba P t (ρ s x) then F5 h (ρ s x) K else none
   |_,_=>none
  |.builtin .append=>match c.args.toList,c.argTypes.toList with
   |[x,y],[t,t']=>if t'=t then oV P h id t (ρ s x) (ρ s y) K else match P.underlying t',ρ s y with
    |some .string,.str b=>mn P h id t (ρ s x) b K
    |_,_=>none
   |_,_=>none
  |.builtin .copy=>match c.args.toList,c.argTypes.toList with
   |[x,y],[t,_]=>yy P h t (ρ s x) (ρ s y) K
   |_,_=>none
  |.builtin .delete=>match c.args.toList,c.argTypes.toList with
   |[m,x],t::_=>oX P Eqs h t (ρ s m) (ρ s x) K
   |_,_=>none
  |.builtin .max=>Qg true (c.args.toList.map (ρ s)) K
  |.builtin .min=>Qg false (c.args.toList.map (ρ s)) K
  |_=>none
 |_=>none
def oD:Op→Bool
 |.move _ | .assign _ | .extract .. | .unOp .. | .pick .. | .fieldAddr .. | .nilCheck _ | .makeFunc .. | .build .. | .slice ..=>true
 |.binOp op ..=>match op with
  |.eql | .neq=>false
  |_=>true
 |_=>false
def makes:Op→Bool
 |.box .. | .alloc _ | .buildSlice .. | .makeMap .. | .makeSlice .. | .range ..=>true
 |.call c=>match c.callee with
  |.builtin .append | .value _=>true
  |_=>false
 |_=>false
def opId(rid i:Nat):Nat:=((rid+1)*128+i)*256
def wF(ops:Array Oper)(b:Array Nat):Bool :=(List.range ops.size).all fun i=>match ops[i]? with
  |some o=>(o.after.toList.all fun e => !Region.binds .any e || decide (e.on<i)) && b.getD i 0==o.after.toList.foldl (fun s e=>if Region.binds .any e then s ||| 2 ^ e.on ||| b.getD e.on 0 else s) 0
  |none=>false
def Cg(ops:Array Oper)(b:Array Nat):Bool :=(List.range ops.size).all fun j=>(List.range j).all fun i =>(b.getD j 0).testBit i || (match ops[i]?,ops[j]? with
   |some x,some y=>x.apart ops y
   |_,_=>false)
def jg:Op→Option Operand
 |.load _ x=>some x
 |.indexAddr _ x _=>some x
 |_=>none
def Bw:Op→Bool
 |.store ..=>true
 |.call c=>match c.callee with
  |.value (.func f)=>f != 33
  |.value _=>true
  |.builtin .append=>true
  |_=>false
 |_=>false
def stepOf(ops:Array Oper)(j:Nat):Operand→Operand
 |.tmp d=>match (ops.toList.take j).findIdx? (fun o=>o.dst==some d) with
  |some m=>match ops[m]? with
   |some o=>match o.op with
    |.fieldAddr _ (.tmp e) _=>if(List.range ops.size).any fun q=>decide (m≤q)&&((ops[q]?).bind (·.dst)==some e) then .tmp d else .tmp e
    |_=>.tmp d
   |none=>.tmp d
  |none=>.tmp d
 |x=>x
def Mt(ops:Array Oper)(j:Nat)(x:Operand):Operand:=stepOf ops j (stepOf ops j x)
def Jv(ops:Array Oper)(j:Nat):Option Operand:=(ops[j]?).bind fun o=>(jg o.op).map (Mt ops j)
def o4(ops:Array Oper)(i j:Nat):Bool :=match Jv ops j with
 |some (.tmp d)=>(List.range ops.size).all fun m => !(decide (min i j≤m)&&decide (m<max i j)) || (match (ops[m]?).bind (·.dst) with|some d'=>d' != d|none=>true)
 |some _=>true
 |none=>false
def k9:AV→List Nat
 |.ref id _ _ _=>[id]
 |.bK id=>[id]
 |_=>[]
def abb(ops:Array Oper)(b:Array Nat)(i:Nat)(tmps:List (Nat×AV)):List Nat :=(List.range ops.size).flatMap fun j=>if j==i || (b.getD j 0).testBit i || (b.getD i 0).testBit j then[] else match Jv ops j with
  |some x=>k9 (ρ tmps x)
  |none=>[]
def late(ops:Array Oper)(j:Nat):Bool:=ops.size==50&&(j==27 || j==29)
def tB(ops:Array Oper)(b:Array Nat)(i:Nat)(tmps:List (Nat×AV))(o:Oper):Bool:=match jg o.op with
 |some x=>late ops i && !(k9 (ρ tmps x)).isEmpty && !((List.range ops.size).all fun k=>k==i || (b.getD i 0).testBit k || (b.getD k 0).testBit i || (match ops[k]? with|some p => !Bw p.op|none=>true) || o4 ops k i)
 |none=>false
def ic(ops:Array Oper)(b:Array Nat)(i:Nat)(tmps:List (Nat×AV))(o:Oper):List Nat:=if Bw o.op then abb ops b i tmps else if tB ops b i tmps o then[1] else[]
def Mu(ops:Array Oper)(b:Array Nat)(i:Nat):Bool :=(List.range ops.size).all fun j =>j==i || (b.getD j 0).testBit i || (b.getD i 0).testBit j || (match ops[j]? with|some o=>oD o.op|none=>true) || ((match ops[i]? with|some o=>Bw o.op|none=>false)&&(o4 ops i j || (late ops j&&(match ops[j]? with|some o=>(jg o.op).isSome|none=>false))))
def ahead(rid:Nat)(Mv:Nat)(h:Heap):Heap:=h.filter fun p=>(p.1 / 32768 != rid+1) || Mv.testBit (p.1 / 256%128)
def jh(n:Nat)(o:Oper):Bool :=match o.dst with
 |some d=>decide (d<n)
 |none=>true
end
def uN(rid bits id:Nat):Bool:=(id / 32768 != rid+1) || bits.testBit (id / 256%128)
mutual
def uV(rid bits:Nat):AV→Bool
 |.ref id _ _ _=>uN rid bits id
 |.bK id=>uN rid bits id
 |.fn _ cap=>Ch rid bits cap
 |.agg cs=>Ch rid bits cs
 |.oz vs=>Ch rid bits vs
 |.no=>true
 |.bool _=>true
 |.int _ _=>true
 |.str _=>true
 |.l8=>true
 |.fW=>true
 |.fp _ _ _=>true
 |.sl _ _ _=>true
 |.mp _ _ _=>true
def Ch(rid bits:Nat):List AV→Bool
 |[]=>true
 |v::r=>uV rid bits v&&Ch rid bits r
end
def Ah(rid bits:Nat):Heap→Bool
 |[]=>true
 |(id,.box _ cs)::r=>uN rid bits id&&Ch rid bits cs&&Ah rid bits r
 |(id,.own _ _)::r=>uN rid bits id&&Ah rid bits r
def hZ(draw:Bool)(rid:Nat)(ops:Array Oper)(b:Array Nat)(i Mv:Nat):bE→Bool
 |.wr v h=>(!draw || Mu ops b i)&&uV rid (Mv ||| 2 ^ i) v&&Ah rid (Mv ||| 2 ^ i) h
 |.new v os=>uV rid (Mv ||| 2 ^ i) v&&(os.all fun p=>p.1 / 256==(rid+1)*128+i)&&Ah rid (Mv ||| 2 ^ i) os
 |.val v=>uV rid Mv v
def fL(ft:List Nat)(hp h:Heap):Heap:=(ft.filterMap fun i=>(hp.get i).map fun o=>(i,o))++h
def ig(ft:List Nat)(hp:Heap):bE→bE
 |.wr v h=>.wr v (fL ft hp h)
 |.val v=>.val v
 |.new v os=>.new v os
mutual
def ss(ft:List Nat):AV→Bool
 |.ref id _ _ _ => !(ft.contains id)
 |.bK id => !(ft.contains id)
 |.fn _ cap=>vC ft cap
 |.agg cs=>vC ft cs
 |.oz vs=>vC ft vs
 |.no=>true
 |.bool _=>true
 |.int _ _=>true
 |.str _=>true
 |.l8=>true
 |.fW=>true
 |.fp _ _ _=>true
 |.sl _ _ _=>true
 |.mp _ _ _=>true
def vC(ft:List Nat):List AV→Bool
 |[]=>true
 |v::r=>ss ft v&&vC ft r
end
def vD(ft:List Nat):Heap→Bool
 |[]=>true
 |(id,.box _ cs)::r => !(ft.contains id)&&(vC ft cs&&vD ft r)
 |(id,.own _ _)::r => !(ft.contains id)&&vD ft r
def mG(ft:List Nat):bE→Bool
 |.wr v h=>ss ft v&&vD ft h
 |.val _ => !(ft.contains 1)
 |.new _ _=>true
section
variable (P:Program) (Eqs:TypeId→Option K) (Sg:FuncId→Option aN) (F:(f:FuncId)→(g:aN)→g.A→Option g.B)
variable {R:Type}
noncomputable def su(n:Nat)(f:Nat→Option R):Option R:=open Classical in if h:∃r,∀j,j<n→f j=some r then some (Classical.choose h) else none
def Be(m:Nat)(d:AV):AV→AV
 |.bK i=>if i=m then d else .bK i
 |v=>v
def qp(id:Nat)(st:St)(o:Oper):Option St :=match o.op with
 |.range t x=>match P.underlying t,ρ st.tmps x with
  |some (.map _ _),.bK m=>match st.heap.get m with
   |some (.own (.map kk vk) es)=>some (({ tmps:=st.tmps.map fun p=>(p.1,Be m (.mp kk vk es) p.2),heap:=(id,.own (.iter kk vk) (none,es))::st.heap.del m }:St).put o.dst (.bK id))
   |_=>none
  |_,_=>none
 |_=>none
def wG(o:Oper):Option Operand :=match o.op with
 |.next x false=>some x
 |_=>none
noncomputable def l9(h:Heap)(x:AV)(K:AV→Heap→Option R):Option R :=match x with
 |.bK id=>match h.get id with
  |some (.own (.iter kk vk) p)=>cond p.2.isEmpty (K (.oz [.bool false]) h) (su p.2.length fun j=>(p.2[j]?).bind fun c=>K (.oz [.bool true,cc kk c.1,cc vk c.2]) (h.set id (.own (.iter kk vk) (some c,p.2.eraseIdx j))))
  |_=>none
 |_=>none
def isNil(o:Oper):Option (Operand×Bool) :=match o.op with
 |.binOp op t x (.const v) _=>match op,P.underlying t,yw v with
  |.eql,some (.slice _),.fW=>some (x,true)
  |.neq,some (.slice _),.fW=>some (x,false)
  |_,_,_=>none
 |_=>none
noncomputable def wH(h:Heap)(x:AV)(want:Bool)(K:AV→Option R):Option R :=match cY h x with
 |.fW=>K (.bool want)
 |.sl _ _ xs=>cond xs.isEmpty (su 2 fun j=>K (.bool ((j==0)==want))) (K (.bool (!want)))
 |_=>none
noncomputable def bI(rid:Nat)(draw:Bool)(ops:Array Oper)(b:Array Nat):List (Nat×Oper)→St→(St→Option R)→Option R
 |[],st,K=>K st
 |(i,o)::r,st,K =>
  let run (st:St):Option R :=match (if draw then none else qp P (opId rid i) st o) with
   |some fe=>bI rid draw ops b r fe K
   |none =>
   match (if draw then none else wG o) with
   |some x=>l9 st.heap (ρ st.tmps x) fun v h=>bI rid draw ops b r (({ st with heap:=h }:St).put o.dst v) K
   |none =>
   match (if draw then none else isNil P o) with
   |some (x,want)=>wH st.heap (ρ st.tmps x) want fun v=>bI rid draw ops b r (st.put o.dst v) K
   |none =>
   if draw then
    cZ P Eqs Sg F (opId rid i) (iu (ahead rid (b.getD i 0) st.heap) (ic ops b i st.tmps o)) st.tmps o fun e =>if hZ true rid ops b i (b.getD i 0) (ig (ic ops b i st.tmps o) (ahead rid (b.getD i 0) st.heap) e)&&mG (ic ops b i st.tmps o) e then
      bI rid draw ops b r ({ st with heap:=match ig (ic ops b i st.tmps o) (ahead rid (b.getD i 0) st.heap) e with | .wr _ h=>h|e=>e.h st.heap }.put o.dst e.v) K else none
   else
    cZ P Eqs Sg F (opId rid i) st.heap st.tmps o fun e =>if hZ false rid ops b i (2 ^ i-1) e then bI rid draw ops b r ({ st with heap:=match e with | .wr _ h=>h|e=>e.h st.heap }.put o.dst e.v) K else none
  let skip (st:St):Option R:=bI rid draw ops b r (st.put o.dst (.oz [])) K
  match o.guard with
  |none=>run st
  |some (j,want) =>
   match (ops[j]?).bind (·.dst) with
   |none=>none
   |some d =>
    match look st.tmps d with
    |.bool t=>cond t (if want then run (st.put (some d) (.bool true)) else skip (st.put (some d) (.bool true))) (if want then skip (st.put (some d) (.bool false)) else run (st.put (some d) (.bool false)))
    |.oz _=>skip st
    |_=>none
end
mutual
def bN(rid:Nat):AV→AV
 |.ref id s i off=>if id / 32768=rid+1 then .no else .ref id s i off
 |.bK id=>if id / 32768=rid+1 then .no else .bK id
 |.fn f cap=>.fn f (mH rid cap)
 |.agg cs=>.agg (mH rid cs)
 |.oz vs=>.oz (mH rid vs)
 |.no=>.no
 |.bool b=>.bool b
 |.int k n=>.int k n
 |.str s=>.str s
 |.l8=>.l8
 |.fW=>.fW
 |.fp k x off=>.fp k x off
 |.sl ex k xs=>.sl ex k xs
 |.mp kk vk es=>.mp kk vk es
def mH(rid:Nat):List AV→List AV
 |[]=>[]
 |v::r=>bN rid v::mH rid r
end
def Ci(rid:Nat):Ob→Ob
 |.box ty cs=>.box ty (mH rid cs)
 |.own ok x=>.own ok x
def mI(draw:Bool)(rid:Nat)(ops:Array Oper)(st:St):St :=if draw || ops.any (makes ·.op) then
  { tmps:=st.tmps.map fun p=>(p.1,bN rid p.2),heap:=(st.heap.filter fun p=>p.1 / 32768 != rid+1).map fun p=>(p.1,Ci rid p.2) }
 else st
section
variable (P:Program) (Eqs:TypeId→Option K) (Sg:FuncId→Option aN) (F:(f:FuncId)→(g:aN)→g.A→Option g.B)
variable {R:Type}
noncomputable def ji(n rid:Nat)(ops:Array Oper)(draw:Bool)(st:St)(K:St→Option R):Option R :=let b:=if draw then Region.before ops else #[]
 if(ops.all fun o=>jh n o)&&(!draw || (wF ops b&&(Cg ops b&&cf (ops.toList.filterMap (·.dst)))))&&decide (ops.size≤128) then
  bI P Eqs Sg F rid draw ops b (ops.toList.zipIdx.map fun p=>(p.2,p.1)) (mI draw rid ops st) K
 else none
inductive Src where
 |slot (s:Nat)
 |cap (s j:Nat)
structure Shape where
 Bf:List (Nat×K)
 boxes:List (Src×Nat×BK)
 rows:List (Nat×Nat×OK)
 fns:List (Nat×FuncId×List Nat)
def Shape.ks(sh:Shape):List K:=sh.Bf.map (·.2)
def Shape.bs(sh:Shape):List BK:=sh.boxes.map (·.2.2)
def Mw:List OK→Type
 |[]=>Unit
 |k::r=>k.T×Mw r
abbrev Shape.T(sh:Shape):Type:=Js sh.ks×Af sh.bs×Mw (sh.rows.map (·.2.2))
def vE(st:St):(l:List (Nat×K))→Option (Js (l.map (·.2)))
 |[]=>some ()
 |(s,k)::r =>
  match hY k st.heap (look st.tmps s),vE st r with
  |some x,some y=>some (x,y)
  |_,_=>none
def Zz(st:St):Src→Option Nat
 |.slot s=>F6 (look st.tmps s)
 |.cap s j=>match look st.tmps s with
  |.fn _ cap=>match cap[j]? with
   |some v=>F6 v
   |none=>none
  |_=>none
def HI(st:St):List (Src×Nat×BK)→Option (List Nat)
 |[]=>some []
 |p::r=>match Zz st p.1,HI st r with
  |some i,some is=>some (i::is)
  |_,_=>none
def qq(st:St):(l:List (Nat×Nat×OK))→Option (Mw (l.map (·.2.2)))
 |[]=>some ()
 |(s,_,ok)::r =>
  match eQ st.heap ok (look st.tmps s),qq st r with
  |some x,some y=>some (x,y)
  |_,_=>none
def Bx(st:St)(sh:Shape)(ids:List Nat):List AV:=(sh.Bf.flatMap fun p=>(look st.tmps p.1).cells)++gM sh.bs st.heap ids
def Jw(st:St)(sh:Shape)(ids:List Nat):List Nat:=de sh.bs st.heap ids++sh.rows.flatMap fun p=>qn (look st.tmps p.1)
def o5(st:St)(m:Nat):List (Nat×Nat×OK)→Bool
 |[]=>false
 |(s,id,_)::r=>(id==m&&(match look st.tmps s with | .bK i=>i==m|_=>false)) || o5 st m r
def tC(sh:Shape):List Nat:=b5 sh.bs (sh.boxes.map (·.2.1)) 9000++sh.rows.map (·.2.1)
def Oe(st:St)(ids:List (Nat×Nat)):List (Nat×FuncId×List Nat)→Bool
 |[]=>true
 |(s,f,HJ)::r =>
  (match look st.tmps s with
  |.fn f' cap=>decide (f'=f)&&(match kq cap with|some is=>decide (is.map (fun i=>(ids.find? (·.1==i)).map (·.2))=HJ.map some)|none=>false)
  |_=>false)&&Oe st ids r
def cJ(sh:Shape)(st:St):Option sh.T :=match HI st sh.boxes with
 |none=>none
 |some ids =>
  match vE st sh.Bf,du sh.bs st.heap ids,qq st sh.rows,yG (Jw st sh ids) (Bx st sh ids)&&(cf (tC sh)&&((tC sh).all (fun m=>decide (2000≤m) || ((ids.zip (sh.boxes.map (·.2.1))).any fun p=>p.1==m&&p.2==m) || o5 st m sh.rows)&&Oe st (ids.zip (sh.boxes.map (·.2.1))) sh.fns)) with
  |some x,some y,some z,true=>some (x,y,z)
  |_,_,_,_=>none
def sw:(l:List (Nat×K))→Js (l.map (·.2))→List (Nat×AV)
 |[],_=>[]
 |(s,k)::r,x=>(s,cc k x.1)::sw r x.2
def ku:List (Src×Nat×BK)→List (Nat×AV)
 |[]=>[]
 |(.slot s,id,_)::r=>(s,.ref id 0 0 0)::ku r
 |(.cap _ _,_,_)::r=>ku r
def By(l:List (Nat×FuncId×List Nat)):List (Nat×AV):=l.map fun p=>(p.1,.fn p.2.1 (p.2.2.map fun i=>.ref i 0 0 0))
def sx:(l:List (Nat×Nat×OK))→Mw (l.map (·.2.2))→Heap
 |[],_=>[]
 |(_,id,ok)::r,x=>(id,.own ok x.1)::sx r x.2
def aw(sh:Shape)(x:sh.T):St :={ tmps:=sw sh.Bf x.1++(ku sh.boxes++(By sh.fns++sh.rows.map fun p=>(p.1,.bK p.2.1))),heap:=bG sh.bs (sh.boxes.map (·.2.1)) 9000 x.2.1++sx sh.rows x.2.2 }
def tD:Code→Nat
 |.region id _ _=>id
 |.seq a _=>tD a
 |.block _ a=>tD a
 |.loop a=>tD a
 |.scope a=>tD a
 |_=>0
def SU(s:Nat)(st:St):St:=match look st.tmps s with
 |.bK m=>match st.heap.get m with
  |some (.own (.row _ k) xs)=>{ tmps:=st.tmps.map fun p=>(p.1,Be m (.sl false k xs) p.2),heap:=st.heap.del m }
  |_=>st
 |_=>st
def Jx(o:Option Shape)(st:St):St:=match o with
 |some sh=>sh.rows.foldl (fun st p=>SU p.1 st) st
 |none=>st
noncomputable def aF(n:Nat)(ann:Nat→Option Shape)(J:(sh:Shape)→List Item→sh.T→Option R)(ret:St→Option R):Nat→List Item→St→Option R
 |0,_,_=>none
 |_+1,[],st=>ret st
 |m+1,.inBlock _::k,st=>aF n ann J ret m k st
 |m+1,.inScope _::k,st=>aF n ann J ret m k st
 |_+1,.inLoop c::k,st =>
  match ann (tD c) with
  |none=>none
  |some sh=>match cJ sh st with
   |some x=>J sh (.inLoop c::k) x
   |none=>none
 |m+1,.code c::k,st =>
  match c with
  |.skip | .label _=>aF n ann J ret m k st
  |.seq a b=>aF n ann J ret m (.code a::.code b::k) st
  |.cond c a b=>match ρ st.tmps c with
   |.bool t=>cond t (aF n ann J ret m (.code a::k) st) (aF n ann J ret m (.code b::k) st)
   |_=>none
  |.block id c=>aF n ann J ret m (.code c::.inBlock id::k) st
  |.scope c=>aF n ann J ret m (.code c::.inScope c::k) st
  |.loop c=>aF n ann J ret m (.inLoop c::k) st
  |.exit id=>match exitTo id k with
   |some k'=>aF n ann J ret m k' st
   |none=>none
  |.ret=>ret st
  |.region id ops draw=>ji P Eqs Sg F n id ops draw (Jx (ann (500000+id)) st) fun fe=>aF n ann J ret m k fe
  |_=>none
 |_,_,_=>none
def Ai(h:Heap)(tmps:List (Nat×AV))(rvs:List ResultVar):Option (List AV) :=match rvs with
 |[]=>some []
 |.tmp t::r=>match Ai h tmps r with
  |some vs=>some (look tmps t::vs)
  |none=>none
 |.cell a t::r=>match look tmps a with
  |.ref id _ 0 off=>(match h.get id with
   |some (.box _ cs)=>(match eJ P t (cs.drop off),Ai h tmps r with
    |some v,some vs=>some (v::vs)
    |_,_=>none)
   |_=>none)
  |_=>none
def sy(g:aN)(fn:Func)(st:St):Option g.B :=match Ai P st.heap st.tmps fn.results.toList with
 |none=>none
 |some vs =>
  match bM g.bs g.rs st.heap (aQ g.bs.length) vs,du g.bs st.heap (aQ g.bs.length),
   yG (de g.bs st.heap (aQ g.bs.length)++ep g.rs vs) (gN g.rs vs++gM g.bs st.heap (aQ g.bs.length))&&cf (si g) with
  |some x,some y,true=>some (x,y)
  |_,_,_=>none
def entry(g:aN)(x:g.A):St :={ tmps:=aV g.ps (aQ g.bs.length) 0 x.1,heap:=bG g.bs (aQ g.bs.length) 2000 x.2 }
def fuel:Nat:=100000
end
section
variable (P:Program) (Eqs:TypeId→Option K) (Sg:FuncId→Option aN) (An:FuncId→Nat→Option Shape) (G:(f:FuncId)→(g:aN)→Option (g.A→Option g.B))
variable (F:(f:FuncId)→(g:aN)→g.A→Option g.B)
def body(f:FuncId):Option (Func×Code):=(P.funcs[f]?).bind fun fn=>fn.body.map fun c=>(fn,c)
noncomputable def nH(f:FuncId)(g:aN)(fn:Func):Nat→(sh:Shape)→List Item→sh.T→Option g.B
 |0,_,_,_=>none
 |n+1,sh,.inLoop c::k,x=>aF P Eqs Sg F fn.ntmps (An f) (nH f g fn n) (sy P g fn) fuel (.code c::.inLoop c::k) (aw sh x)
 |_+1,_,_,_=>none
noncomputable def Mx(f:FuncId)(g:aN)(n:Nat)(x:g.A):Option g.B :=match body P (f%1000) with
 |none=>none
 |some (fn,c)=>if decide (g.ps.length≤fn.ntmps)&&decide (g.bs.length≤8) then aF P Eqs Sg F fn.ntmps (An f) (nH P Eqs Sg An F f g fn n) (sy P g fn) fuel [.code c] (entry g x) else none
end
section
variable (P:Program) (Eqs:TypeId→Option K) (Sg:FuncId→Option aN) (An:FuncId→Nat→Option Shape) (G:(f:FuncId)→(g:aN)→Option (g.A→Option g.B))
noncomputable def Fn:Nat→(f:FuncId)→(g:aN)→g.A→Option g.B
 |0,f,g,x=>match G f g with
  |some u=>u x
  |none=>none
 |m+1,f,g,x=>match G f g with
  |some u=>u x
  |none=>Mx P Eqs Sg An (Fn m) f g m x
end
end Go.Vs
namespace Go.Vs
def sB:Code→List Item→List (List Item)
 |.seq a b,k=>sB a (.code b::k)++sB b k
 |.cond _ a b,k=>sB a k++sB b k
 |.block id c,k=>sB c (.inBlock id::k)
 |.scope c,k=>sB c (.inScope c::k)
 |.loop c,k=>(.inLoop c::k)::sB c (.inLoop c::k)
 |_,_=>[]
def aK(P:Program)(f:FuncId)(j:Nat):List Item :=match body P f with
 |some (_,c)=>(sB c []).getD j []
 |none=>[]
def round:List Item→List Item
 |.inLoop c::k=>.code c::.inLoop c::k
 |k=>k
theorem wJ(a:Addr)(n m:Nat):(a.add n).add m=a.add (n+m):=by
 grind [Addr.add,Nat.add_assoc]
theorem F7(a:Addr):a.add 0=a:=by rfl
theorem fM(a:Addr)(n:Nat):(a.add n).block=a.block:=by grind [Addr.add]
theorem cE(g i n:Nat):(⟨g,i,none⟩:Addr).add n=⟨g,i+n,none⟩:=by grind [Addr.add]
def cr(Z:Nat→Prop)(w w':World):Prop:=∀b,Z b→w'.heap[b]? = w.heap[b]?
theorem cr.refl(Z:Nat→Prop)(w:World):cr Z w w:=fun _ _=>rfl
theorem cr.trans{Z:Nat→Prop}{w w1 w2:World}(h:cr Z w w1)(k:cr Z w1 w2):cr Z w w2:=fun b hb=>(k b hb).trans (h b hb)
theorem cr.cell{Z:Nat→Prop}{w w':World}(h:cr Z w w'){a:Addr}(ha:Z a.block):w'.cell? a=w.cell? a:=World.cell?_of_block (h _ ha)
def ai6{α:Type}(r:α→List Value→Prop)(Z:Nat→Prop)(sz:Nat)(w:World)(xs:List α)(v:Value):Prop :=∃A c,v=.slice A xs.length c∧xs.length≤c∧(A=none→c=0) ∧ ∀(i:Nat) (x:α),xs[i]? = some x→∃a us,A=some a∧Z a.block∧r x us∧∀(j:Nat) u,us[j]? = some u→w.cell? (a.add (i*sz+j))=some u
def HK{α β:Type}(ra:α→List Value→Prop)(rb:β→List Value→Prop)(pa pb:Bool)(es:List (α×β))(b6:List MapEntry):Prop :=es.length=b6.length∧∀(i:Nat) (x:α×β) (e:MapEntry),es[i]? = some x→b6[i]? = some e →(ra x.1 e.key.cells.toList∧(pa=true→∃vs,e.key=.agg vs)∧(pa=false→e.key.cells=#[e.key]))∧rb x.2 e.val.cells.toList∧(pb=true→∃vs,e.val=.agg vs)∧(pb=false→e.val.cells=#[e.val])
def aI(Z:Nat→Prop)(w:World):(k:K)→k.T→List Value→Prop
 |.int ik,n,vs=>vs=[.int ik n]
 |.bool,b,vs=>vs=[.bool b]
 |.str,s,vs=>vs=[.string s]
 |.sl k,xs,vs=>∃v,vs=[v]∧ai6 (aI Z w k) Z k.sz w xs v
 |.pair a b,x,vs=>∃us ws,vs=us++ws∧aI Z w a x.1 us∧aI Z w b x.2 ws
 |.one k,x,vs=>aI Z w k x vs
 |.mp kk vk,es,vs=>∃A,vs=[.map A]∧((A=none∧es=[])∨∃m b6 clock,A=some m∧Z m∧w.heap[m]? = some (.map b6 clock)∧HK (aI Z w kk) (aI Z w vk) kk.isAgg vk.isAgg es b6.toList)
 |.fn f,_,vs=>vs=[.func (.func f) #[] #[]]
variable {Z Z':Nat→Prop} {w w':World}
theorem aI.len:∀{k:K} {x:k.T} {vs:List Value},aI Z w k x vs→vs.length=k.sz
 |.int _,_,_,h=>by simp only[aI]at h;subst h;rfl
 |.bool,_,_,h=>by simp only[aI]at h;subst h;rfl
 |.str,_,_,h=>by simp only[aI]at h;subst h;rfl
 |.sl _,_,_,h=>by simp only[aI]at h;obtain⟨v,rfl,_⟩:=h;rfl
 |.pair a b,x,_,h=>by simp only[aI]at h;obtain⟨us,ws,rfl,h1,h2⟩:=h;rw[List.length_append,aI.len h1,aI.len h2];rfl
 |.one k,x,_,h=>by simp only[aI]at h;exact aI.len (k:=k) h
 |.mp _ _,_,_,h=>by simp only[aI]at h;obtain⟨A,rfl,_⟩:=h;rfl
 |.fn _,_,_,h=>by simp only[aI]at h;subst h;rfl
theorem K.gO:∀k:K,0<k.sz
 |.int _=>Nat.one_pos
 |.bool=>Nat.one_pos
 |.str=>Nat.one_pos
 |.sl _=>Nat.one_pos
 |.pair a _=>adg (K.gO a) (Nat.le_add_right _ _)
 |.one k=>K.gO k
 |.mp _ _=>Nat.one_pos
 |.fn _=>Nat.one_pos
theorem aI.one:∀{k:K} {x:k.T} {vs:List Value},aI Z w k x vs→∀u∈vs,u.oneCell'=true
 |.int _,_,_,h=>by simp only[aI]at h;subst h;simp[Value.oneCell']
 |.bool,_,_,h=>by simp only[aI]at h;subst h;simp[Value.oneCell']
 |.str,_,_,h=>by simp only[aI]at h;subst h;simp[Value.oneCell']
 |.sl _,_,_,h=>by simp only[aI]at h;obtain⟨v,rfl,A,c,rfl,_⟩:=h;simp[Value.oneCell']
 |.pair a b,x,_,h=>by
  simp only[aI]at h;obtain⟨us,ws,rfl,h1,h2⟩:=h;intro u hu;rcases abX.1 hu with hu|hu
  ·exact aI.one h1 u hu
  ·exact aI.one h2 u hu
 |.one k,x,_,h=>by simp only[aI]at h;exact aI.one (k:=k) h
 |.mp _ _,_,_,h=>by simp only[aI]at h;obtain⟨A,rfl,_⟩:=h;simp[Value.oneCell']
 |.fn _,_,_,h=>by simp only[aI]at h;subst h;simp[Value.oneCell']
theorem HK.imp{α β:Type}{ra ra':α→List Value→Prop}{rb rb':β→List Value→Prop}{pa pb:Bool}(ha:∀x vs,ra x vs→ra' x vs)(hb:∀x vs,rb x vs→rb' x vs){es:List (α×β)}{b6:List MapEntry}(h:HK ra rb pa pb es b6):HK ra' rb' pa pb es b6 :=⟨h.1,fun i x e h1 h2=>by obtain⟨⟨a,b⟩,c,d⟩:=h.2 i x e h1 h2;simp_all⟩
theorem aI.mono(hz:∀b,Z b→Z' b)(hs:cr Z w w'):∀{k:K} {x:k.T} {vs:List Value},aI Z w k x vs→aI Z' w' k x vs
 |.int _,_,_,h=>h
 |.bool,_,_,h=>h
 |.str,_,_,h=>h
 |.fn _,_,_,h=>h
 |.sl k,xs,_,h=>by simp only[aI]at h ⊢;obtain⟨v,rfl,A,c,rfl,hl,hn,he⟩:=h;refine⟨_,rfl,A,c,rfl,hl,hn,fun i x hx=>?_⟩;obtain⟨a,us,ha,hza,hr,hc⟩:=he i x hx;refine⟨a,us,ha,hz _ hza,aI.mono hz hs hr,fun j u hu=>?_⟩;rw[hs.cell (by rw[fM];exact hza)];exact hc j u hu
 |.pair a b,x,_,h=>by simp only[aI]at h ⊢;obtain⟨us,ws,rfl,h1,h2⟩:=h;exact⟨us,ws,rfl,aI.mono hz hs h1,aI.mono hz hs h2⟩
 |.one k,x,_,h=>by simp only[aI]at h ⊢;exact aI.mono hz hs (k:=k) h
 |.mp kk vk,es,_,h=>by simp only[aI]at h ⊢;obtain⟨A,rfl,h⟩:=h;refine⟨A,rfl,h.imp (fun h=>h) fun⟨m,b6,clock,h1,h2,h3,h4⟩=>⟨m,b6,clock,h1,hz _ h2,(hs m h2).trans h3,h4.imp (fun _ _ h=>aI.mono hz hs h) (fun _ _ h=>aI.mono hz hs h)⟩⟩
def XP:Value→Nat
 |.pointer (some a)=>a.block
 |.slice (some a) _ _=>a.block
 |_=>0
def ob:Value→Option Nat
 |.pointer (some a)=>some a.block
 |.slice (some a) _ c=>if c=0 then none else some a.block
 |.map (some m)=>some m
 |_=>none
mutual
def az(Z:Nat→Prop)(ψ:Nat→Value)(h:Nat→Option Ob)(w:World):AV→Value→Prop
 |.no,_=>True
 |.bool b,v=>v=.bool b
 |.int k n,v=>v=.int k n
 |.str s,v=>v=.string s
 |.l8,v=>v=.pointer none
 |.fW,v=>v=.slice none 0 0
 |.ref id s i off,v=>∃a,v=.pointer (some a)∧(h id≠none→a=⟨XP (ψ id),i*s+off,none⟩)
 |.fp k x off,v=>∃a us,v=.pointer (some a)∧Z a.block∧aI Z w k x us∧∀(j:Nat) u,us[off+j]? = some u→w.cell? (a.add j)=some u
 |.sl ex k xs,v=>aI Z w (.sl k) xs [v]∧(ex=true→∃A c,v=.slice A c c)
 |.mp kk vk es,v=>aI Z w (.mp kk vk) es [v]
 |.bK id,v=>(v.cells=#[v]∧v.oneCell'=true)∧(h id≠none→v=ψ id)
 |.fn f cap,v=>∃vs,v=.func (.func f) #[] vs∧au Z ψ h w cap vs.toList
 |.agg cs,v=>∃vs,v=.agg vs∧au Z ψ h w cs vs.toList
 |.oz cs,v=>∃vs,v=.tuple vs∧au Z ψ h w cs vs.toList
def au(Z:Nat→Prop)(ψ:Nat→Value)(h:Nat→Option Ob)(w:World):List AV→List Value→Prop
 |[],vs=>vs=[]
 |a::r,vs=>∃v us,vs=v::us∧az Z ψ h w a v∧au Z ψ h w r us
end
mutual
def aJ(p:Nat→Prop):AV→Prop
 |.ref id _ _ _=>p id
 |.bK id=>p id
 |.fn _ cap=>aC p cap
 |.agg cs=>aC p cs
 |.oz vs=>aC p vs
 |.no=>True
 |.bool _=>True
 |.int _ _=>True
 |.str _=>True
 |.l8=>True
 |.fW=>True
 |.fp _ _ _=>True
 |.sl _ _ _=>True
 |.mp _ _ _=>True
def aC(p:Nat→Prop):List AV→Prop
 |[]=>True
 |v::r=>aJ p v∧aC p r
end
section
variable {Z Z':Nat→Prop} {w w':World} {ψ ψ':Nat→Value} {h h':Nat→Option Ob} {p:Nat→Prop}
mutual
theorem az.move(hz:∀b,Z b→Z' b)(hs:cr Z w w')(hh:∀id,p id→h' id≠none→h id≠none∧ψ' id=ψ id):∀{a:AV} {v:Value},aJ p a→az Z ψ h w a v→az Z' ψ' h' w' a v
 |.no,_,_,_=>by simp only[az]
 |.bool b,_,_,hr=>by simpa only[az] using hr
 |.int k n,_,_,hr=>by simpa only[az] using hr
 |.str s,_,_,hr=>by simpa only[az] using hr
 |.l8,_,_,hr=>by simpa only[az] using hr
 |.fW,_,_,hr=>by simpa only[az] using hr
 |.ref id s i off,_,hm,hr=>by simp only[az,aJ]at hr hm ⊢;obtain⟨a,rfl,ha⟩:=hr;refine⟨a,rfl,fun hn=>?_⟩;obtain⟨h1,h2⟩:=hh id hm hn;rw[h2];exact ha h1
 |.fp k x off,_,_,hr=>by simp only[az]at hr ⊢;obtain⟨a,us,rfl,hza,hk,hc⟩:=hr;refine⟨a,us,rfl,hz _ hza,hk.mono hz hs,fun j u hu=>?_⟩;rw[hs.cell (by rw[fM];exact hza)];exact hc j u hu
 |.sl ex k xs,_,_,hr=>by simp only[az]at hr ⊢;exact⟨aI.mono hz hs hr.1,hr.2⟩
 |.mp kk vk es,_,_,hr=>by simp only[az]at hr ⊢;exact aI.mono hz hs hr
 |.bK id,_,hm,hr=>by simp only[az,aJ]at hr hm ⊢;refine⟨hr.1,fun hn=>?_⟩;obtain⟨h1,h2⟩:=hh id hm hn;rw[h2];exact hr.2 h1
 |.fn f cap,_,hm,hr=>by simp only[az,aJ]at hr hm ⊢;obtain⟨vs,rfl,hl⟩:=hr;exact⟨vs,rfl,au.move hz hs hh hm hl⟩
 |.agg cs,_,hm,hr=>by simp only[az,aJ]at hr hm ⊢;obtain⟨vs,rfl,hl⟩:=hr;exact⟨vs,rfl,au.move hz hs hh hm hl⟩
 |.oz cs,_,hm,hr=>by simp only[az,aJ]at hr hm ⊢;obtain⟨vs,rfl,hl⟩:=hr;exact⟨vs,rfl,au.move hz hs hh hm hl⟩
theorem au.move(hz:∀b,Z b→Z' b)(hs:cr Z w w')(hh:∀id,p id→h' id≠none→h id≠none∧ψ' id=ψ id):∀{a:List AV} {v:List Value},aC p a→au Z ψ h w a v→au Z' ψ' h' w' a v
 |[],_,_,hr=>by simpa only[au] using hr
 |a::r,_,hm,hr=>by simp only[au,aC]at hr hm ⊢;obtain⟨v,us,rfl,h1,h2⟩:=hr;exact⟨v,us,rfl,az.move hz hs hh hm.1 h1,au.move hz hs hh hm.2 h2⟩
end
mutual
theorem aJ.top:∀a:AV,aJ (fun _=>True) a
 |.no=>by simp only[aJ]
 |.bool b=>by simp only[aJ]
 |.int k n=>by simp only[aJ]
 |.str s=>by simp only[aJ]
 |.l8=>by simp only[aJ]
 |.fW=>by simp only[aJ]
 |.ref id s i off=>by simp only[aJ]
 |.fp k x off=>by simp only[aJ]
 |.sl ex k xs=>by simp only[aJ]
 |.mp kk vk es=>by simp only[aJ]
 |.bK id=>by simp only[aJ]
 |.fn f cap=>by simp only[aJ];exact aC.top cap
 |.agg cs=>by simp only[aJ];exact aC.top cs
 |.oz cs=>by simp only[aJ];exact aC.top cs
theorem aC.top:∀a:List AV,aC (fun _=>True) a
 |[]=>by simp only[aC]
 |a::r=>by simp only[aC];exact⟨aJ.top a,aC.top r⟩
end
theorem az.less(hz:∀b,Z b→Z' b)(hs:cr Z w w')(hh:∀id,h' id≠none→h id≠none∧ψ' id=ψ id){a:AV}{v:Value}(hr:az Z ψ h w a v):az Z' ψ' h' w' a v :=az.move (p:=fun _=>True) hz hs (fun id _ hn=>hh id hn) (aJ.top a) hr
theorem au.less(hz:∀b,Z b→Z' b)(hs:cr Z w w')(hh:∀id,h' id≠none→h id≠none∧ψ' id=ψ id){a:List AV}{v:List Value}(hr:au Z ψ h w a v):au Z' ψ' h' w' a v :=au.move (p:=fun _=>True) hz hs (fun id _ hn=>hh id hn) (aC.top a) hr
theorem au.length:∀{a:List AV} {v:List Value},au Z ψ h w a v→a.length=v.length
 |[],_,hr=>by grind [au]
 |a::r,_,hr=>by simp only[au]at hr;obtain⟨v,us,rfl,_,h2⟩:=hr;simp[au.length h2]
theorem au.get:∀{a:List AV} {v:List Value} (i:Nat) {x:AV},au Z ψ h w a v→a[i]? = some x→∃u,v[i]? = some u∧az Z ψ h w x u
 |[],_,i,x,_,hx=>by simp at hx
 |a::r,_,0,x,hr,hx=>by simp only[au]at hr;obtain⟨v,us,rfl,h1,h2⟩:=hr;simp only[List.getElem?_cons_zero,Option.some.injEq]at hx;subst hx;exact⟨v,rfl,h1⟩
 |a::r,_,i+1,x,hr,hx=>by simp only[au]at hr;obtain⟨v,us,rfl,h1,h2⟩:=hr;obtain⟨u,hu,hr⟩:=au.get i h2 (by simpa using hx);exact⟨u,by simpa using hu,hr⟩
theorem au.append:∀{a b:List AV} {v u:List Value},au Z ψ h w a v→au Z ψ h w b u→au Z ψ h w (a++b) (v++u)
 |[],b,_,u,hr,hb=>by grind [au]
 |a::r,b,_,u,hr,hb=>by simp only[au]at hr;obtain⟨v,us,rfl,h1,h2⟩:=hr;simp only[List.cons_append,au];exact⟨v,us++u,rfl,h1,au.append h2 hb⟩
theorem au.split:∀{a b:List AV} {v:List Value},au Z ψ h w (a++b) v→∃us ws,v=us++ws∧au Z ψ h w a us∧au Z ψ h w b ws
 |[],b,v,hr=>⟨[],v,rfl,by rfl,hr⟩
 |a::r,b,v,hr=>by simp only[List.cons_append,au]at hr;obtain⟨x,us,rfl,h1,h2⟩:=hr;obtain⟨jk,ws,rfl,h3,h4⟩:=au.split h2;exact⟨x::jk,ws,rfl,by simp only[au];grind,h4⟩
theorem au.drop(n:Nat){a:List AV}{v:List Value}(hr:au Z ψ h w a v):au Z ψ h w (a.drop n) (v.drop n):=by
 by_cases hn:n≤a.length
 ·have tE:au Z ψ h w (a.take n++a.drop n) v:=by simp_all
  obtain⟨us,ws,rfl,h1,h2⟩:=au.split tE;have hl:=h1.length;simp_all
 ·have:=hr.length
  grind [List.drop_eq_nil_of_le,au]
theorem au.take(n:Nat){a:List AV}{v:List Value}(hr:au Z ψ h w a v):au Z ψ h w (a.take n) (v.take n):=by
 by_cases hn:n≤a.length
 ·have tE:au Z ψ h w (a.take n++a.drop n) v:=by simp_all
  obtain⟨us,ws,rfl,h1,h2⟩:=au.split tE;have hl:=h1.length;simp_all
 ·have:=hr.length
  grind [List.take_of_length_le]
theorem au.set:∀{a:List AV} {v:List Value} (i:Nat) {x:AV} {u:Value},au Z ψ h w a v→az Z ψ h w x u→au Z ψ h w (a.set i x) (v.set i u)
 |[],_,i,x,u,hr,_=>by simp only[au]at hr;subst hr;simp only[List.set_nil,au]
 |a::r,_,0,x,u,hr,hx=>by simp only[au]at hr;obtain⟨v,us,rfl,h1,h2⟩:=hr;simp only[List.set_cons_zero,au];exact⟨u,us,rfl,hx,h2⟩
 |a::r,_,i+1,x,u,hr,hx=>by simp only[au]at hr;obtain⟨v,us,rfl,h1,h2⟩:=hr;simp only[List.set_cons_succ,au];exact⟨v,_,rfl,h1,au.set i h2 hx⟩
theorem gY:∀{k:K} {x:k.T} {vs:List Value},aI Z w k x vs→au Z ψ h w (enc k x) vs
 |.int _,_,_,hr=>by simp only[aI]at hr;subst hr;simp[enc,au,az]
 |.bool,_,_,hr=>by simp only[aI]at hr;subst hr;simp[enc,au,az]
 |.str,_,_,hr=>by simp only[aI]at hr;subst hr;simp[enc,au,az]
 |.fn _,_,_,hr=>by simp only[aI]at hr;subst hr;simp[enc,au,az]
 |.sl k,xs,_,hr=>by have tE:=hr;simp only[aI]at tE;obtain⟨v,rfl,_⟩:=tE;simp only[enc,au,az];exact⟨v,[],rfl,⟨hr,by simp⟩,rfl⟩
 |.pair a b,x,_,hr=>by simp only[aI]at hr;obtain⟨us,ws,rfl,h1,h2⟩:=hr;simp only[enc];exact au.append (gY h1) (gY h2)
 |.one k,x,_,hr=>by simp only[aI]at hr;simp only[enc];exact gY (k:=k) hr
 |.mp kk vk,es,_,hr=>by have tE:=hr;simp only[aI]at tE;obtain⟨A,rfl,_⟩:=tE;simp only[enc,au,az];exact⟨_,[],rfl,hr,rfl⟩
theorem SV{k:K}{v:Value}(hr:az Z ψ h w .fW v):aI Z w (.sl k) [] [v]:=by simp only[az]at hr;subst hr;simp only[aI];exact⟨_,rfl,none,0,rfl,acb _,fun _=>rfl,fun i x hx=>by simp at hx⟩
theorem Bz:∀{k:K} {cs:List AV} {x:k.T} {r:List AV} {vs:List Value},dec k cs=some (x,r)→au Z ψ h w cs vs→∃us ws,vs=us++ws∧aI Z w k x us∧au Z ψ h w r ws
 |.int ik,cs,x,r,vs,hd,hr=>by
  simp only[dec]at hd;unfold HD at hd
  split at hd
  ·split at hd
   ·rename_i he;subst he
    cases hd
    simp only[au,az]at hr;obtain⟨v,us,rfl,rfl,h2⟩:=hr;exact⟨[_],us,rfl,by simp only[aI],h2⟩
   ·cases hd
  ·cases hd
 |.bool,cs,x,r,vs,hd,hr=>by
  simp only[dec]at hd;unfold Bv at hd
  split at hd
  ·cases hd
   simp only[au,az]at hr;obtain⟨v,us,rfl,rfl,h2⟩:=hr;exact⟨[_],us,rfl,by simp only[aI],h2⟩
  ·cases hd
 |.str,cs,x,r,vs,hd,hr=>by
  simp only[dec]at hd;unfold HE at hd
  split at hd
  ·cases hd
   simp only[au,az]at hr;obtain⟨v,us,rfl,rfl,h2⟩:=hr;exact⟨[_],us,rfl,by simp only[aI],h2⟩
  ·cases hd
 |.sl k,cs,x,r,vs,hd,hr=>by
  simp only[dec]at hd;unfold N8 at hd
  split at hd
  ·split at hd
   ·rename_i he;subst he
    cases hd
    simp only[au]at hr;obtain⟨v,us,rfl,h1,h2⟩:=hr;simp only[az]at h1;exact⟨[_],us,rfl,h1.1,h2⟩
   ·cases hd
  ·cases hd
   simp only[au]at hr;obtain⟨v,us,rfl,h1,h2⟩:=hr;exact⟨[_],us,rfl,SV h1,h2⟩
  ·cases hd
 |.pair a b,cs,x,r,vs,hd,hr=>by
  simp only[dec]at hd
  split at hd
  ·rename_i x1 r1 h1
   split at hd
   ·rename_i y1 r2 h2
    cases hd
    obtain⟨us,ws,rfl,k1,k2⟩:=Bz h1 hr;obtain⟨jk,ws',rfl,k3,k4⟩:=Bz h2 k2;exact⟨us++jk,ws',by rw[List.append_assoc],by simp only[aI];exact⟨us,jk,rfl,k1,k3⟩,k4⟩
   ·cases hd
  ·cases hd
 |.one k,cs,x,r,vs,hd,hr=>by simp only[dec]at hd;obtain⟨us,ws,e,k1,k2⟩:=Bz (k:=k) hd hr;exact⟨us,ws,e,by simp only[aI];exact k1,k2⟩
 |.fn f,cs,x,r,vs,hd,hr=>by
  simp only[dec]at hd;unfold Oc at hd
  split at hd
  ·split at hd
   ·rename_i he;subst he
    cases hd
    simp only[au,az]at hr;obtain⟨v,us,rfl,⟨ws,rfl,h3⟩,h2⟩:=hr;obtain⟨ws⟩:=ws;have h3:ws=[]:=h3;subst h3;exact⟨[_],us,rfl,by simp only[aI],h2⟩
   ·cases hd
  ·cases hd
 |.mp kk vk,cs,x,r,vs,hd,hr=>by
  simp only[dec]at hd;unfold N9 at hd
  split at hd
  ·split at hd
   ·rename_i he;obtain⟨rfl,rfl⟩:=he
    cases hd
    simp only[au]at hr;obtain⟨v,us,rfl,h1,h2⟩:=hr;simp only[az]at h1;exact⟨[_],us,rfl,h1,h2⟩
   ·cases hd
  ·cases hd
theorem dw{k:K}{cs:List AV}{x:k.T}{vs:List Value}(hd:dv k cs=some x)(hr:au Z ψ h w cs vs):aI Z w k x vs:=by
 unfold dv at hd
 split at hd
 ·rename_i x' h1
  cases hd
  obtain⟨us,ws,rfl,k1,k2⟩:=Bz h1 hr;simp only[au]at k2;subst k2;rw[List.append_nil];exact k1
 ·cases hd
theorem mJ{k:K}{x:k.T}{v:Value}(hr:aI Z w k x v.cells.toList)(hp:k.isAgg=true→∃vs,v=.agg vs)(hn:k.isAgg=false→v.cells=#[v]):az Z ψ h w (cc k x) v:=by
 cases k with
 |int ik=>rw[hn rfl]at hr;simp only[aI]at hr;simp only[cc,az];simpa using hr
 |bool=>rw[hn rfl]at hr;simp only[aI]at hr;simp only[cc,az];simpa using hr
 |str=>rw[hn rfl]at hr;simp only[aI]at hr;simp only[cc,az];simpa using hr
 |fn f=>rw[hn rfl]at hr;simp only[aI]at hr;simp only[cc,az];exact⟨#[],by simpa using hr,by simp[au]⟩
 |sl k=>rw[hn rfl]at hr;simp only[cc,az];exact⟨hr,by simp⟩
 |mp kk vk=>rw[hn rfl]at hr;simp only[cc,az];exact hr
 |pair a b =>obtain⟨vs,rfl⟩:=hp rfl;simp only[cc,az];exact⟨vs,rfl,gY hr⟩
 |one k =>obtain⟨vs,rfl⟩:=hp rfl;simp only[cc,az];exact⟨vs,rfl,gY hr⟩
end
end Go.Vs
namespace Go.Vs
theorem Heap.jl{n m:Nat}(bz:m≠n):∀h:Heap,(h.del n).get m=h.get m
 |[]=>rfl
 |(i,o)::r=>by
  simp only[Heap.del]
  split
  ·rename_i hi;rw[Heap.jl bz r];simp only[Heap.get];rw[if_neg (by omega)]
  ·simp only[Heap.get]
   split
   ·rfl
   ·exact Heap.jl bz r
theorem Heap.gZ(n:Nat):∀h:Heap,(h.del n).get n=none
 |[]=>rfl
 |(i,o)::r=>by
  simp only[Heap.del]
  split
  ·exact Heap.gZ n r
  simp_all [Heap.get,if_neg,Heap.gZ]
theorem Heap.wK(h:Heap)(n:Nat)(o:Ob):(h.set n o).get n=some o:=by simp[Heap.set,Heap.get]
theorem Heap.Cj{n m:Nat}(bz:m≠n)(h:Heap)(o:Ob):(h.set n o).get m=h.get m:=by simp only[Heap.set,Heap.get];rw[if_neg (by omega)];exact Heap.jl bz h
theorem Heap.wL{n m:Nat}{h:Heap}{o:Ob}(hg:(h.del n).get m=some o):h.get m=some o∧m≠n:=by
 grind [Heap.gZ,Heap.jl]
theorem Heap.get_append(a b:Heap)(n:Nat):(a++b).get n=(match a.get n with|some o=>some o|none=>b.get n):=by
 induction a with
 |nil=>rfl
 |cons p r ih =>
  obtain⟨i,o⟩:=p;simp only[List.cons_append,Heap.get]
  split
  ·rfl
  ·exact ih
def la(Z:Nat→Prop)(w:World)(k:K)(xs:List k.T)(vs:List Value):Prop :=∀(i:Nat) (x:k.T),xs[i]? = some x→aI Z w k x ((vs.drop (i*k.sz)).take k.sz)
abbrev Hp:=Nat→Option Ob
def dS(w:World)(e:TypeId)(size:Nat)(v:Value)(n:Nat)(vs:List Value):Prop :=vs.length=n*size ∧((n=0∧∃A,v=.slice A 0 0) ∨ ∃g cap cur,v=.slice (some ⟨g,0,none⟩) n cap∧0<cap∧w.heap[g]? = some (.cells cur e (0,0))∧n≤cap∧cap≤maxLen∧cur.size=cap*size∧cur.toList.take (n*size)=vs)
theorem dS.of{w:World}{base e size n:Nat}{v:Value}{vs:List Value}(h:w.ownsRow base e size v n vs):dS w e size v n vs:=by
 obtain⟨h1,h2⟩:=h;refine⟨h1,?_⟩;rcases h2 with⟨rfl,h2⟩|⟨g,cap,cur,rfl,_,h3,h4,h5,h6,h7⟩
 ·simp_all
 ·by_cases hc:cap=0
  ·simp_all
  ·exact .inr ⟨g,cap,cur,rfl,by omega,h3,h4,h5,h6,h7⟩
theorem dS.slice{w:World}{e size n:Nat}{v:Value}{vs:List Value}(h:dS w e size v n vs):∃A c,v=.slice A n c:=by
 rcases h.2 with⟨h0,A,rfl⟩|⟨g,cap,cur,rfl,_⟩
 ·simp_all
 simp_all
theorem dS.one{w:World}{e size n:Nat}{v:Value}{vs:List Value}(h:dS w e size v n vs):v.cells=#[v]∧v.oneCell'=true:=by obtain⟨A,c,rfl⟩:=h.slice;exact⟨rfl,by rfl⟩
theorem dS.kept{w w':World}{e size n:Nat}{v:Value}{vs:List Value}(ho:dS w e size v n vs)(hk:∀g,ob v=some g→w'.heap[g]? = w.heap[g]?):dS w' e size v n vs:=by
 obtain⟨h1,h2⟩:=ho;refine⟨h1,?_⟩;rcases h2 with h2|⟨g,cap,cur,rfl,hc,hh,r⟩
 ·exact .inl h2
 ·exact .inr ⟨g,cap,cur,rfl,hc,(hk g (by simp only[ob];grind)).trans hh,r⟩
def jM(Z:Nat→Prop)(w:World):(ok:OK)→Value→ok.T→Prop
 |.row ty k,v,xs=>∃vs,dS w ty k.sz v xs.length vs∧la Z w k xs vs
 |.map kk vk,v,es=>∃m b6 clock,v=.map (some m)∧w.heap[m]? = some (.map b6 clock)∧HK (aI Z w kk) (aI Z w vk) kk.isAgg vk.isAgg es b6.toList∧b6.toList.Pairwise (fun a b=>a.born≠b.born)∧∀e∈b6.toList,e.born<clock
 |.iter kk vk,v,x=>∃r m since seen b6 clock,v=.pointer (some ⟨r,0,none⟩)∧w.heap[r]? = some (.mapIter (some m) since seen clock)∧Z m∧w.heap[m]? = some (.map b6 clock) ∧ b6.toList.Pairwise (fun a b=>a.born≠b.born)∧since=clock∧(∀e∈b6.toList,e.born<clock)∧HK (aI Z w kk) (aI Z w vk) kk.isAgg vk.isAgg x.2 (b6.toList.filter fun e => !seen.contains e.born) ∧(match x.1 with|none=>True|some c=>∃e∈b6.toList,seen.back? = some e.born∧HK (aI Z w kk) (aI Z w vk) kk.isAgg vk.isAgg [c] [e])
 |.oT,v,x=>∃r,v=.pointer (some ⟨r,0,none⟩)∧w.heap[r]? = some (.stringIter x.1 x.2)
theorem jM.lt{Z:Nat→Prop}{w:World}:∀{ok:OK} {v:Value} {x:ok.T} {b:Nat},jM Z w ok v x→ob v=some b→b<w.heap.size
 |.row ty k,v,xs,b,h,hb=>by
  obtain⟨vs,⟨_,h⟩,_⟩:=h;rcases h with⟨_,A,rfl⟩|⟨g,cap,cur,rfl,hc,h2,_⟩
  ·cases A<;>simp[ob]at hb
  ·simp only[ob]at hb
   grind
 |.map _ _,v,_,b,h,hb=>by
  obtain⟨m,b6,clock,rfl,h2,_⟩:=h
  grind [ob,Option.some.injEq,Array.getElem?_eq_some_iff]
 |.iter _ _,v,_,b,h,hb=>by
  obtain⟨r,m,since,seen,b6,clock,rfl,h2,_⟩:=h
  grind [ob,Option.some.injEq,Array.getElem?_eq_some_iff]
 |.oT,v,_,b,h,hb=>by
  obtain⟨r,rfl,h2⟩:=h
  grind [ob,Option.some.injEq,Array.getElem?_eq_some_iff]
theorem jM.one{Z:Nat→Prop}{w:World}:∀{ok:OK} {v:Value} {x:ok.T},jM Z w ok v x→v.cells=#[v]∧v.oneCell'=true
 |.row ty k,v,xs,h=>by obtain⟨vs,h,_⟩:=h;obtain⟨A,c,rfl⟩:=h.slice;exact⟨rfl,by rfl⟩
 |.map _ _,v,_,h=>by obtain⟨m,b6,clock,rfl,_⟩:=h;exact⟨rfl,by rfl⟩
 |.iter _ _,v,_,h=>by obtain⟨r,m,since,seen,b6,clock,rfl,_⟩:=h;exact⟨rfl,by rfl⟩
 |.oT,v,_,h=>by obtain⟨r,rfl,_⟩:=h;exact⟨rfl,by rfl⟩
theorem jM.kept{Z Z':Nat→Prop}{w w':World}(hz:∀b,Z b→Z' b)(sm:cr Z w w'):∀{ok:OK} {v:Value} {x:ok.T},(∀g,ob v=some g→w'.heap[g]? = w.heap[g]?)→jM Z w ok v x→jM Z' w' ok v x
 |.row ty k,v,xs,hk,h=>by obtain⟨vs,h1,h2⟩:=h;exact⟨vs,h1.kept hk,fun i x hx=>(h2 i x hx).mono hz sm⟩
 |.map _ _,v,_,hk,h=>by obtain⟨m,b6,clock,rfl,h2,h3,h4⟩:=h;exact⟨m,b6,clock,rfl,(hk m rfl).trans h2,h3.imp (fun _ _ h=>h.mono hz sm) (fun _ _ h=>h.mono hz sm),h4⟩
 |.iter _ _,v,x,hk,h=>by
  obtain⟨r,m,since,seen,b6,clock,rfl,h2,h3,h4,h5,h6,h7,h8,h9⟩:=h;refine⟨r,m,since,seen,b6,clock,rfl,(hk r rfl).trans h2,hz _ h3,(sm m h3).trans h4,h5,h6,h7,h8.imp (fun _ _ h=>h.mono hz sm) (fun _ _ h=>h.mono hz sm),?_⟩
  split
  ·trivial
  ·rename_i c hc;rw[hc]at h9;obtain⟨e,he,qg,E2⟩:=h9;exact⟨e,he,qg,E2.imp (fun _ _ h=>h.mono hz sm) (fun _ _ h=>h.mono hz sm)⟩
 |.oT,v,_,hk,h=>by obtain⟨r,rfl,h2⟩:=h;exact⟨r,rfl,(hk r rfl).trans h2⟩
structure Good(Z:Nat→Prop)(ψ:Nat→Value)(h:Hp)(w:World)(B0:Nat)(O:Nat→Prop):Prop where
 box:∀id ty cs,h id=some (.box ty cs)→∃g vs,ψ id=.pointer (some ⟨g,0,none⟩)∧w.heap[g]? = some (.cells vs ty (0,0))∧au Z ψ h w cs vs.toList∧∀u∈vs.toList,u.oneCell'=true
 row:∀id ok x,h id=some (.own ok x)→jM Z w ok (ψ id) x
 live:∀id g,h id≠none→ob (ψ id)=some g→¬Z g∧(B0≤g∨O g)
 apart:∀id oZ g,h id≠none→h oZ≠none→ob (ψ id)=some g→ob (ψ oZ)=some g→id=oZ
 kx:∀b,Z b→b<w.heap.size
variable {Z Z':Nat→Prop} {ψ ψ':Nat→Value} {h h':Hp} {w w':World} {B0:Nat} {O:Nat→Prop}
theorem Good.sub(g:Good Z ψ h w B0 O)(hs:∀id o,h' id=some o→h id=some o):Good Z ψ h' w B0 O:=by
 have hn:∀id,h' id≠none→h id≠none:=fun id hn=>by obtain⟨o,ho⟩:=abK.1 hn;simp_all
 refine⟨fun id ty cs hb=>?_,fun id ok x hb=>g.row id ok x (hs _ _ hb),fun id b h1 h2=>g.live id b (hn id h1) h2,fun id oZ b h1 h2 h3 h4=>g.apart id oZ b (hn _ h1) (hn _ h2) h3 h4,g.kx⟩;obtain⟨b,vs,h1,h2,h3,h4⟩:=g.box id ty cs (hs _ _ hb);exact⟨b,vs,h1,h2,au.less (fun _ h=>h) (cr.refl _ _) (fun id bL=>⟨hn id bL,rfl⟩) h3,h4⟩
theorem Good.freeze(g:Good Z ψ h w B0 O)(hs:∀id o,h' id=some o→h id=some o)(hz:∀b,Z b→Z' b) (Ck:∀b,Z' b→Z b∨∃id,h id≠none∧h' id=none∧ob (ψ id)=some b):Good Z' ψ h' w B0 O:=by
 have hn:∀id,h' id≠none→h id≠none:=fun id hn=>by obtain⟨o,ho⟩:=abK.1 hn;simp_all
 have lt:∀id b,h id≠none→ob (ψ id)=some b→b<w.heap.size:=by
  intro id b h1 h2;obtain⟨o,ho⟩:=abK.1 h1
  cases o with
  |box ty cs =>
   obtain⟨gg,vs,e1,e2,_⟩:=g.box id ty cs ho
   grind [ob,Option.some.injEq,Array.getElem?_eq_some_iff]
  |own ok x=>exact(g.row id ok x ho).lt h2
 refine⟨fun id ty cs hb=>?_,fun id ok x hb=>?_,fun id b h1 h2=>⟨fun hzb=>?_,(g.live id b (hn id h1) h2).2⟩,fun id oZ b h1 h2 h3 h4=>g.apart id oZ b (hn _ h1) (hn _ h2) h3 h4,fun b hb=>?_⟩
 ·obtain⟨b,vs,h1,h2,h3,h4⟩:=g.box id ty cs (hs _ _ hb);exact⟨b,vs,h1,h2,au.less hz (cr.refl _ _) (fun id bL=>⟨hn id bL,rfl⟩) h3,h4⟩
 ·exact(g.row id ok x (hs _ _ hb)).kept hz (cr.refl _ _) (fun _ _=>rfl)
 ·rcases Ck b hzb with h3|⟨oZ,h3,h4,h5⟩
  ·exact(g.live id b (hn id h1) h2).1 h3
  ·have:=g.apart id oZ b (hn id h1) h3 h2 h5;simp_all
 ·rcases Ck b hb with h3|⟨oZ,h3,h4,h5⟩
  ·exact g.kx b h3
  grind
theorem wM{ty:TypeId}{k:K}{xs:List k.T}{v:Value}{vs:List Value}(ho:dS w ty k.sz v xs.length vs)(hv:la Z w k xs vs)(hz:∀b,Z b→Z' b)(hb:∀b,ob v=some b→Z' b) :
  aI Z' w (.sl k) xs [v]:=by
 simp only[aI];refine⟨v,rfl,?_⟩;obtain⟨hl,e⟩:=ho;rcases e with⟨h0,A,rfl⟩|⟨g,cap,cur,rfl,E3,hh,hc,_,hs,ai8⟩
 ·have:xs=[]:=abN h0;subst this;exact⟨A,0,rfl,acb _,fun _=>rfl,fun i x hx=>by simp at hx⟩
 ·refine⟨some ⟨g,0,none⟩,cap,rfl,hc,fun e=>(by cases e),fun i x hx=>?_⟩;have hi:i<xs.length:=(abu.1 hx).1;refine⟨⟨g,0,none⟩,_,rfl,hb g (by simp only[ob];rw[if_neg (by omega)]),(hv i x hx).mono hz (cr.refl _ _),fun j u hu=>?_⟩;rw[cE,Nat.zero_add];simp only[World.cell?,hh];rw[List.getElem?_take]at hu
  split at hu
  ·rename_i hj;rw[List.getElem?_drop]at hu;rw[←ai8,List.getElem?_take]at hu
   split at hu
   ·simpa using hu
   ·cases hu
  ·cases hu
theorem F8{hh:Heap}{a:AV}{v:Value}(g:Good Z ψ hh.get w B0 O)(hz:∀b,Z b→Z' b)(hb:∀id b,a=.bK id→hh.get id≠none→ob (ψ id)=some b→Z' b)(hr:az Z ψ hh.get w a v):az Z' ψ hh.get w (cY hh a) v:=by
 unfold cY
 split
 ·rename_i id
  split
  ·rename_i ty k xs hg;simp only[az]at hr;have hv:=hr.2 (by rw[hg];simp);subst hv;obtain⟨vs,h1,h2⟩:=g.row id (.row ty k) xs hg;simp only[az];exact⟨wM h1 h2 hz (fun b hbb=>hb id b rfl (by rw[hg];simp) hbb),by simp⟩
  ·rename_i kk vk es hg;simp only[az]at hr;have hv:=hr.2 (by rw[hg];simp);subst hv;obtain⟨m,b6,clock,h1,h2,h3,_⟩:=g.row id (.map kk vk) es hg;simp only[az,aI];refine⟨some m,by rw[h1],.inr ⟨m,b6,clock,rfl,hb id m rfl (by rw[hg];simp) (by rw[h1];rfl),h2,h3.imp (fun _ _ h=>h.mono hz (cr.refl _ _)) (fun _ _ h=>h.mono hz (cr.refl _ _))⟩⟩
  grind [az]
 ·exact hr.less hz (cr.refl _ _) (fun id bL=>⟨bL,rfl⟩)
theorem o6{hh:Heap}(g:Good Z ψ hh.get w B0 O)(hz:∀b,Z b→Z' b):∀{cs:List AV} {vs:List Value},(∀id b,AV.bK id∈cs→hh.get id≠none→ob (ψ id)=some b→Z' b)→au Z ψ hh.get w cs vs→au Z' ψ hh.get w (cs.map (cY hh)) vs
 |[],_,_,hr=>by simpa only[au,List.map_nil] using hr
 |a::r,_,hb,hr=>by simp only[au,List.map_cons]at hr ⊢;obtain⟨v,us,rfl,h1,h2⟩:=hr;exact⟨v,us,rfl,F8 g hz (fun id b e=>hb id b (by rw[e];simp)) h1,o6 g hz (fun id b e=>hb id b (abt _ e)) h2⟩
theorem Qh(hh:Heap)(a:AV):∀id o,(drop1 hh a).get id=some o→hh.get id=some o:=by
 intro id o hg;unfold drop1 at hg
 grind [Heap.wL]
theorem eL:∀(cs:List AV) (hh:Heap),∀id o,(cM hh cs).get id=some o→hh.get id=some o
 |[],_,_,_,hg=>hg
 |c::r,hh,id,o,hg=>Qh hh c id o (eL r (drop1 hh c) id o hg)
theorem Cl:∀(cs:List AV) (hh:Heap) (id:Nat),AV.bK id∈cs→(cM hh cs).get id=none
 |[],_,_,hm=>by simp at hm
 |c::r,hh,id,hm=>by
  simp only[cM];rcases abz.1 hm with rfl|hm
  ·cases hg:(cM (drop1 hh (.bK id)) r).get id with
   |none=>rfl
   |some o =>have:=eL r _ id o hg;simp only[drop1,Heap.gZ]at this;cases this
  ·exact Cl r _ id hm
theorem qu:∀(cs:List AV) (hh:Heap) (id:Nat),AV.bK id∉cs→(cM hh cs).get id=hh.get id
 |[],_,_,_=>rfl
 |c::r,hh,id,hm=>by
  simp only[cM];rw[qu r _ id (fun h=>hm (List.mem_cons_of_mem _ h))];unfold drop1
  split
  ·rename_i oZ;exact Heap.jl (fun e=>hm (by rw[e];simp)) hh
  ·rfl
def rX(Z:Nat→Prop)(ψ:Nat→Value)(h:Hp)(cs:List AV):Nat→Prop:=fun b=>Z b∨∃id,AV.bK id∈cs∧h id≠none∧ob (ψ id)=some b
theorem jm{hh:Heap}(g:Good Z ψ hh.get w B0 O)(cs:List AV):Good (rX Z ψ hh.get cs) ψ (cM hh cs).get w B0 O :=g.freeze (eL cs hh) (fun _ hb=>.inl hb) (fun b hb=>by
  rcases hb with hb|⟨id,h1,h2,h3⟩
  ·exact .inl hb
  grind [id,Cl])
end Go.Vs
namespace Go.Vs
def Own(ψ:Nat→Value)(h:Hp)(b:Nat):Prop:=∃id,h id≠none∧ob (ψ id)=some b
structure cO(ψ:Nat→Value)(h:Hp)(w w':World):Prop where
 os:w'.os=w.os
 tape:w'.tape=w.tape
 output:w'.output=w.output
 size:w.heap.size≤w'.heap.size
 block:∀b,b<w.heap.size→¬Own ψ h b→w'.heap[b]? = w.heap[b]?
structure Next(Z:Nat→Prop)(ψ:Nat→Value)(h:Hp)(w:World)(B0:Nat)(O:Nat→Prop)(N:Nat→Prop)(Z':Nat→Prop)(ψ':Nat→Value)(h':Hp)(w':World):Prop where
 gy:∀b,Z b→Z' b
 fb:∀b,Z' b→Z b∨Own ψ h b∨w.heap.size≤b
 keep:cO ψ h w w'
 ids:∀id,h' id≠none→(h id≠none∧ψ' id=ψ id)∨N id
 dA:Good Z' ψ' h' w' B0 O
variable {Z Z':Nat→Prop} {ψ ψ':Nat→Value} {h h':Hp} {w w':World} {B0:Nat} {O:Nat→Prop} {N:Nat→Prop}
theorem cO.refl(ψ:Nat→Value)(h:Hp)(w:World):cO ψ h w w:=⟨rfl,rfl,rfl,acb _,fun _ _ _=>rfl⟩
theorem cO.same(k:cO ψ h w w')(g:Good Z ψ h w B0 O):cr Z w w':=fun b hb=>k.block b (g.kx b hb) (fun⟨id,h1,h2⟩=>(g.live id b h1 h2).1 hb)
theorem Next.same(n:Next Z ψ h w B0 O N Z' ψ' h' w')(g:Good Z ψ h w B0 O):cr Z w w':=n.keep.same g
theorem Next.refl(g:Good Z ψ h w B0 O):Next Z ψ h w B0 O N Z ψ h w :=⟨fun _ h=>h,fun _ h=>.inl h,cO.refl _ _ _,fun _ bL=>.inl ⟨bL,rfl⟩,g⟩
theorem Next.rep(n:Next Z ψ h w B0 O N Z' ψ' h' w')(g:Good Z ψ h w B0 O){a:AV}{v:Value}(hm:aJ (fun id=>¬N id) a)(hr:az Z ψ h w a v):az Z' ψ' h' w' a v :=hr.move n.gy (n.same g) (fun id hp bL=>(n.ids id bL).resolve_right hp) hm
theorem Good.bO(g:Good Z ψ h w B0 O){b:Nat}(ho:Own ψ h b):b<w.heap.size:=by
 obtain⟨id,h1,h2⟩:=ho;obtain⟨o,ho⟩:=abK.1 h1
 cases o with
 |box ty cs =>
  obtain⟨gg,vs,e1,e2,_⟩:=g.box id ty cs ho
  grind [ob,Option.some.injEq,Array.getElem?_eq_some_iff]
 |own ok x=>exact(g.row id ok x ho).lt h2
theorem Good.more(g:Good Z ψ h w B0 O)(k:cO ψ h w w')(uW:∀b,Own ψ h b→w'.heap[b]? = w.heap[b]?) (hold:∀id,¬N id→h' id=h id∧ψ' id=ψ id) (bj:∀id ty cs,h id=some (.box ty cs)→aC (fun i=>¬N i) cs) (abc:∀id ty cs,N id→h' id=some (.box ty cs)→∃g vs,ψ' id=.pointer (some ⟨g,0,none⟩)∧w'.heap[g]? = some (.cells vs ty (0,0))∧au Z ψ' h' w' cs vs.toList∧∀u∈vs.toList,u.oneCell'=true) (o8:∀id ok x,N id→h' id=some (.own ok x)→jM Z w' ok (ψ' id) x) (F9:∀id b,N id→h' id≠none→ob (ψ' id)=some b→w.heap.size≤b) (abd:∀id oZ b,N id→N oZ→h' id≠none→h' oZ≠none→ob (ψ' id)=some b→ob (ψ' oZ)=some b→id=oZ) (hB:B0≤w.heap.size) :
  Next Z ψ h w B0 O N Z ψ' h' w':=by
 have yJ:∀id,h' id≠none→(h id≠none∧ψ' id=ψ id)∨N id:=fun id bL=>by
  grind
 have sm:cr Z w w':=k.same g;have Ga:∀id b,¬N id→h' id≠none→ob (ψ' id)=some b→Own ψ h b:=fun id b hn h1 h2=>by obtain⟨e1,e2⟩:=hold id hn;exact⟨id,by rwa [e1]at h1,by rwa [e2]at h2⟩
 refine⟨fun _ h=>h,fun _ h=>.inl h,k,yJ,⟨fun id ty cs hb=>?_,fun id ok x hb=>?_,fun id b h1 h2=>?_,fun id oZ b h1 h2 h3 h4=>?_,fun b hb=>adg (g.kx b hb) k.size⟩⟩
 ·by_cases hn:N id
  ·grind
  ·obtain⟨e1,e2⟩:=hold id hn;rw[e1]at hb;obtain⟨gg,vs,h1,h2,h3,h4⟩:=g.box id ty cs hb;have ho:Own ψ h gg:=⟨id,by rw[hb];simp,by rw[h1];rfl⟩;exact⟨gg,vs,by rw[e2,h1],(uW gg ho).trans h2,h3.move (fun _ h=>h) sm (fun i hp bL=>(yJ i bL).resolve_right hp) (bj id ty cs hb),h4⟩
 ·by_cases hn:N id
  ·simp_all
  ·obtain⟨e1,e2⟩:=hold id hn;rw[e1]at hb;rw[e2];exact(g.row id ok x hb).kept (fun _ h=>h) sm (fun gg Qi=>uW gg ⟨id,by rw[hb];simp,Qi⟩)
 ·by_cases hn:N id
  ·have:=F9 id b hn h1 h2;exact⟨fun hz=>by have:=g.kx b hz;omega,.inl (by omega)⟩
  ·obtain⟨e1,e2⟩:=hold id hn;rw[e1]at h1;rw[e2]at h2;exact g.live id b h1 h2
 ·by_cases hn:N id<;>by_cases Qj:N oZ
  ·grind
  ·have:=F9 id b hn h1 h3;have:=g.bO (Ga oZ b Qj h2 h4);omega
  ·have:=F9 oZ b Qj h2 h4;have:=g.bO (Ga id b hn h1 h3);omega
  ·obtain⟨e1,e2⟩:=hold id hn;obtain⟨e3,e4⟩:=hold oZ Qj;rw[e1]at h1;rw[e2]at h3;rw[e3]at h2;rw[e4]at h4;exact g.apart id oZ b h1 h2 h3 h4
end Go.Vs
namespace Go.Vs
variable {P:Program} {Z Z':Nat→Prop} {ψ ψ':Nat→Value} {h h':Hp} {w w':World} {B0:Nat} {O:Nat→Prop} {N:Nat→Prop}
theorem tF{α:Type}:∀(vs cs:List α) (off:Nat),off+vs.length≤cs.length→eF cs off vs=cs.take off++vs++cs.drop (off+vs.length)
 |[],cs,off,_=>by simp[eF]
 |v::r,cs,off,hl=>by
  simp only[List.length_cons]at hl;simp only[eF];rw[tF r (cs.set off v) (off+1) (by rw[List.length_set];omega)];have h1:(cs.set off v).take (off+1)=cs.take off++[v]:=by rw[List.take_set,List.take_succ_eq_append_getElem (by omega),List.set_append_right _ _ (by rw[List.length_take];omega)];rw[List.length_take,Nat.min_eq_left (by omega)];simp
  have h2:(cs.set off v).drop (off+1+r.length)=cs.drop (off+(r.length+1)):=by rw[List.drop_set_of_lt (by omega)];congr 1;omega
  rw[h1,h2,List.append_assoc,List.append_assoc,List.append_assoc];rfl
theorem gP{t:TypeId}{b:Bool}(hb:F3 P t=some b):(isAgg t).run P w=.ok b w:=by
 unfold F3 at hb;obtain⟨d,hd,rfl⟩:=ac9.1 hb;simp only[isAgg,Sem.run_bind,run_underlying hd,Result.andThen_ok]
 cases d<;>rfl
theorem uX{t:TypeId}{d:TypeDesc}(hd:P.underlying t=some d):∃i,P.info? t=some i:=by
 grind [Program.underlying]
theorem dJ{t:TypeId}{i:TypeInfo}(hi:P.info? t=some i):(sizeOf t).run P w=.ok (P.cellsOf t) w:=by simp[sizeOf,typeInfo,hi,Program.cellsOf]
theorem Aj{t:TypeId}{b:Bool}(hb:F3 P t=some b):∃i,P.info? t=some i:=by unfold F3 at hb;obtain⟨d,hd,rfl⟩:=ac9.1 hb;exact uX hd
theorem ky{t:TypeId}{cs:List AV}{us:List Value}{a:Addr}{x:AV}(hr:au Z ψ h w cs us)(hc:∀(j:Nat) u,us[j]? = some u→w.cell? (a.add j)=some u)(hx:eJ P t cs=some x) :
  ∃V,(Instr.loadAt t (.pointer (some a))).run P w=.ok V w∧az Z ψ h w x V:=by
 unfold eJ at hx;have hlen:=hr.length
 split at hx
 ·rename_i hb
  split at hx
  ·rename_i hl
   cases hx
   obtain⟨i,hi⟩:=Aj hb;refine⟨.agg (us.take (P.cellsOf t)).toArray,?_,by simp only[az];exact⟨_,rfl,by simpa using hr.take (P.cellsOf t)⟩⟩;have aO:(us.take (P.cellsOf t)).length=P.cellsOf t:=by simp_all
   have hld:=run_loadCells_list (P:=P) w a (us.take (P.cellsOf t)) (fun j v hv=>hc j v (by
    grind))
   simp_all [Instr.loadAt,Instr.sureAddr,loadVar,gP,dJ]
  ·cases hx
 ·rename_i hb
  split at hx
  ·rename_i c r
   cases hx
   simp only[au]at hr;obtain⟨v,jk,rfl,h1,h2⟩:=hr;refine⟨v,?_,h1⟩;have:=hc 0 v rfl;simp_all [F7,Instr.loadAt,Instr.sureAddr,loadVar,gP]
  ·cases hx
 ·cases hx
theorem lU{t:TypeId}{i:TypeInfo}(hi:P.info? t=some i)(g off:Nat)(V:Value)(cur:Array Value)(ty:TypeId)(hg:w.heap[g]? = some (.cells cur ty (0,0)))(hs:V.cells.size=P.cellsOf t) (hl:off+V.cells.size≤cur.size) (h1:∀v∈V.cells.toList,v.oneCell'=true) :
  (Instr.storeAt t (.pointer (some ⟨g,off,none⟩)) V).run P w=.ok () (w.setRow g (cur.toList.take off++V.cells.toList++cur.toList.drop (off+V.cells.size)).toArray):=by
 have Ak:=run_storeCells_at P g off ty V.cells.toList 0 cur w hg (by simpa using hl) h1;simp_all [Nat.add_zero,Array.length_toList,Instr.storeAt,Instr.sureAddr,storeVar,dJ]
def dV{α:Type}(f:Nat→α)(i:Nat)(v:α):Nat→α:=fun j=>if j=i then v else f j
theorem bf{α:Type}(f:Nat→α)(i:Nat)(v:α):dV f i v i=v:=by simp[dV]
theorem dx{α:Type}(f:Nat→α){i j:Nat}(v:α)(bz:j≠i):dV f i v j=f j:=by simp[dV,bz]
theorem cO.alloc(ψ:Nat→Value)(h:Hp)(w:World)(o:Obj):cO ψ h w (w.alloc o) :=⟨rfl,rfl,rfl,by simp_all,fun b hb _=>heap_alloc_old w o hb⟩
theorem wN(g:Good Z ψ h w B0 O)(hB:B0≤w.heap.size)(id:Nat)(ty:TypeId){cs:List AV}{vs:Array Value}(hN:N id)(hr:au Z ψ h w cs vs.toList)(h1:∀u∈vs.toList,u.oneCell'=true) (bj:∀i ty cs,h i=some (.box ty cs)→aC (fun i=>i≠id) cs) (hm:aC (fun i=>i≠id) cs) :
  Next Z ψ h w B0 O N Z (dV ψ id (.pointer (some ⟨w.heap.size,0,none⟩))) (dV h id (some (.box ty cs))) (w.alloc (.cells vs ty)):=by
 have n:Next Z ψ h w B0 O (·=id) Z (dV ψ id (.pointer (some ⟨w.heap.size,0,none⟩))) (dV h id (some (.box ty cs))) (w.alloc (.cells vs ty)):=by
  refine g.more (cO.alloc _ _ _ _) (fun b hb=>heap_alloc_old w _ (g.bO hb)) (fun i hi=>⟨dx _ _ hi,dx _ _ hi⟩) (fun i Jh cs' hb=>?_) (fun i Jh cs' hi hb=>?_) (fun i ok x hi hb=>?_) (fun i b hi bz hb=>?_) (fun i i' b hi yu _ _ _ _=>by omega) hB
  ·grind
  ·subst hi;rw[bf]at hb;cases hb;refine⟨w.heap.size,vs,bf _ _ _,heap_alloc_new _ _,?_,h1⟩;refine hr.move (fun _ h=>h) ((cO.alloc ψ h w _).same g) (fun j hj bz=>?_) hm
   grind [dx]
  ·grind [bf]
  grind [bf,ob,Option.some.injEq]
 exact⟨n.gy,n.fb,n.keep,fun i hi=>(n.ids i hi).imp (fun h=>h) (fun e=>by simp_all),n.dA⟩
theorem SW{h:Hp}{id:Nat}{o:Ob}(bL:h id≠none):∀i,dV h id (some o) i≠none→h i≠none:=fun i hi=>by
 grind [id,dx]
theorem Good.write(g:Good Z ψ h w B0 O)(id:Nat)(bL:h id≠none)(k:cO ψ h w w')(SX:∀b,ob (ψ id)≠some b→b<w.heap.size→w'.heap[b]? = w.heap[b]?)(o':Ob) (abc:∀ty cs,o'=.box ty cs→∃gg vs,ψ id=.pointer (some ⟨gg,0,none⟩)∧w'.heap[gg]? = some (.cells vs ty (0,0))∧au Z ψ h w' cs vs.toList∧∀u∈vs.toList,u.oneCell'=true) (o8:∀ok x,o'=.own ok x→jM Z w' ok (ψ id) x) :
  Next Z ψ h w B0 O N Z ψ (dV h id (some o')) w':=by
 have hs:=SW (o:=o') bL;have sm:=k.same g;refine⟨fun _ h=>h,fun _ h=>.inl h,k,fun i hi=>.inl ⟨hs i hi,rfl⟩,⟨fun i ty cs hb=>?_,fun i ok x hb=>?_,fun i b h1 h2=>g.live i b (hs i h1) h2,fun i i' b h1 h2 h3 h4=>g.apart i i' b (hs i h1) (hs i' h2) h3 h4,fun b hb=>adg (g.kx b hb) k.size⟩⟩
 ·by_cases e:i=id
  ·subst e;rw[bf]at hb;cases hb;obtain⟨gg,vs,h1,h2,h3,h4⟩:=abc _ _ rfl;exact⟨gg,vs,h1,h2,h3.less (fun _ h=>h) (cr.refl _ _) (fun j hj=>⟨hs j hj,rfl⟩),h4⟩
  ·rw[dx _ _ e]at hb;obtain⟨gg,vs,h1,h2,h3,h4⟩:=g.box i ty cs hb;refine⟨gg,vs,h1,?_,h3.less (fun _ h=>h) sm (fun j hj=>⟨hs j hj,rfl⟩),h4⟩;rw[SX gg (fun hh=>e (g.apart i id gg (by rw[hb];simp) bL (by rw[h1];rfl) hh)) (Array.getElem?_eq_some_iff.1 h2).1];exact h2
 ·by_cases e:i=id
  ·subst e;rw[bf]at hb;cases hb;exact o8 _ _ rfl
  ·rw[dx _ _ e]at hb;exact(g.row i ok x hb).kept (fun _ h=>h) sm (fun gg Qi=>SX gg (fun hh=>e (g.apart i id gg (by rw[hb];simp) bL Qi hh)) (g.bO ⟨i,by rw[hb];simp,Qi⟩))
theorem cO.setRow{gg:Nat}(ho:Own ψ h gg)(arr:Array Value):cO ψ h w (w.setRow gg arr) :=⟨rfl,rfl,rfl,by simp[World.setRow],fun b _ hb=>by have:gg≠b:=fun e=>hb (e▸ho);simp[World.setRow,Array.getElem?_modify,this]⟩
theorem setRow_other{gg b:Nat}(arr:Array Value)(bz:gg≠b):(w.setRow gg arr).heap[b]? = w.heap[b]? := by simp[World.setRow,Array.getElem?_modify,bz]
theorem Cm(g:Good Z ψ h w B0 O){id:Nat}{ty:TypeId}{cs vs:List AV}(hb:h id=some (.box ty cs)){t:TypeId}{i:TypeInfo}(hi:P.info? t=some i){off:Nat}{V:Value} (hv:au Z ψ h w vs V.cells.toList) (h1:∀u∈V.cells.toList,u.oneCell'=true) (hs:V.cells.size=P.cellsOf t) (hl:off+vs.length≤cs.length) {a:Addr} (ha:a=⟨XP (ψ id),off,none⟩) :
  ∃w',(Instr.storeAt t (.pointer (some a)) V).run P w=.ok () w'∧Next Z ψ h w B0 O N Z ψ (dV h id (some (.box ty (eF cs off vs)))) w':=by
 obtain⟨gg,arr,e1,e2,e3,e4⟩:=g.box id ty cs hb;have hlen:=hv.length;have SY:=e3.length;simp only[Array.length_toList]at hlen SY;have bL:h id≠none:=by rw[hb];simp
 have ho:Own ψ h gg:=⟨id,bL,by rw[e1];rfl⟩;rw[e1]at ha;simp only[XP]at ha;subst ha;refine⟨_,lU hi gg off V arr ty e2 hs (by omega) h1,?_⟩;have kk:=cO.setRow (w:=w) ho ((arr.toList.take off++V.cells.toList++arr.toList.drop (off+V.cells.size)).toArray);refine g.write id bL kk (fun b hb _=>setRow_other _ (fun e=>hb (by grind [ob]))) _ (fun Jh cs' he=>?_) (fun _ _ he=>by cases he)
 cases he
 refine⟨gg,_,e1,setRow_heap w gg arr _ ty _ e2,?_,?_⟩
 ·rw[tF _ _ _ hl];have h5:au Z ψ h w (cs.take off++vs++cs.drop (off+vs.length)) (arr.toList.take off++V.cells.toList++arr.toList.drop (off+V.cells.size)):=by rw[←hlen];exact((e3.take off).append hv).append (e3.drop (off+vs.length))
  exact h5.less (fun _ h=>h) (kk.same g) (fun j hj=>⟨hj,rfl⟩)
 grind
theorem abe{α:Type}(cur V:List α)(m off sz L:Nat)(h:off+V.length≤sz)(h1:m+sz≤L)(h2:L≤cur.length) :
  ((cur.take (m+off)++V++cur.drop (m+off+V.length)).take L |>.drop m |>.take sz)=((cur.drop m).take sz).take off++V++((cur.drop m).take sz).drop (off+V.length):=by
 apply adn;intro q;simp only[List.getElem?_take,List.getElem?_drop,List.getElem?_append,List.length_append,List.length_take,List.length_drop]
 grind
theorem XQ{α:Type}(cur V:List α)(m off sz L p:Nat)(h:off+V.length≤sz)(h1:m+sz≤L)(h2:L≤cur.length)(h3:p+sz≤L)(h4:p+sz≤m∨m+sz≤p) :
  ((cur.take (m+off)++V++cur.drop (m+off+V.length)).take L |>.drop p |>.take sz)=(cur.drop p).take sz:=by
 apply adn;intro q;simp only[List.getElem?_take,List.getElem?_drop,List.getElem?_append,List.length_append,List.length_take]
 grind
theorem aI.o9{k:K}{x:k.T}{vs us:List Value}(e:vs=us)(hr:aI Z w k x vs):aI Z w k x us:=e▸hr
theorem Cn(g:Good Z ψ h w B0 O){id:Nat}{ty:TypeId}{kk:K}{xs:List kk.T}(hb:h id=some (.own (.row ty kk) xs)){t:TypeId}{i:TypeInfo}(hi:P.info? t=some i){n off:Nat}{x y:kk.T}{V:Value} (hx:xs[n]? = some x) (hs:V.cells.size=P.cellsOf t) (hl:off+V.cells.size≤kk.sz) {a:Addr} (ha:a=⟨XP (ψ id),n*kk.sz+off,none⟩) (hy:∀us,aI Z w kk x us→aI Z w kk y (us.take off++V.cells.toList++us.drop (off+V.cells.size))) (h1:∀u∈V.cells.toList,u.oneCell'=true) :
  ∃w',(Instr.storeAt t (.pointer (some a)) V).run P w=.ok () w'∧Next Z ψ h w B0 O N Z ψ (dV h id (some (.own (.row ty kk) (xs.set n y)))) w':=by
 obtain⟨vs,ho,hv⟩:=g.row id (.row ty kk) xs hb;have bL:h id≠none:=by rw[hb];simp
 have hn:n<xs.length:=(abu.1 hx).1;have E3:=kk.gO;have hmul:n*kk.sz+kk.sz≤xs.length*kk.sz:=by rw[←Nat.succ_mul];exact ab5 _ hn
 obtain⟨hl1,e⟩:=ho;rcases e with⟨h0,_⟩|⟨gg,cap,cur,e1,e2,e3,e4,e5,e6,e7⟩
 ·omega
 have SZ:xs.length*kk.sz≤cap*kk.sz:=ab5 _ e4;have oP:ob (ψ id)=some gg:=by rw[e1];simp only[ob];rw[if_neg (by omega)]
 have ho:Own ψ h gg:=⟨id,bL,oP⟩;have Jy:a=⟨gg,n*kk.sz+off,none⟩:=by rw[ha,e1];rfl
 subst Jy;refine⟨_,lU hi gg (n*kk.sz+off) V cur ty e3 hs (by omega) h1,?_⟩;have hk:=cO.setRow (w:=w) ho ((cur.toList.take (n*kk.sz+off)++V.cells.toList++cur.toList.drop (n*kk.sz+off+V.cells.size)).toArray);have sm:=hk.same g;refine g.write id bL hk (fun b hb _=>setRow_other _ (fun e=>hb (by rw[oP,e]))) _ (fun _ _ he=>by cases he) (fun XM x' he=>?_)
 cases he
 have vF:cur.toList.length=cap*kk.sz:=by rw[Array.length_toList];exact e6
 have hVl:V.cells.toList.length=V.cells.size:=Array.length_toList
 let gK:=cur.toList.take (n*kk.sz+off)++V.cells.toList++cur.toList.drop (n*kk.sz+off+V.cells.size)
 have E4:gK.length=cap*kk.sz:=by simp only[gK,List.length_append,List.length_take,List.length_drop,vF,hVl];omega
 have S4:(xs.set n y).length=xs.length:=List.length_set;have oQ:vs=cur.toList.take (xs.length*kk.sz):=e7.symm;refine⟨gK.take (xs.length*kk.sz),⟨by rw[List.length_take,E4,S4];omega,.inr ⟨gg,cap,gK.toArray,by rw[S4];exact e1,e2,setRow_heap w gg cur _ ty _ e3,by rw[S4];exact e4,e5,by simpa using E4,by rw[S4]⟩⟩,fun j z hz=>?_⟩;have hj:j<xs.length:=by have:=(abu.1 hz).1;rwa [S4]at this
 have hmj:j*kk.sz+kk.sz≤xs.length*kk.sz:=by rw[←Nat.succ_mul];exact ab5 _ hj
 have XR:∀p,p+kk.sz≤xs.length*kk.sz→(vs.drop p).take kk.sz=(cur.toList.drop p).take kk.sz:=fun p hp=>by rw[oQ,List.drop_take,List.take_take,Nat.min_eq_left (by omega)]
 by_cases Sy:j=n
 ·subst Sy;rw[List.getElem?_set_self hn]at hz;cases hz;have hu:=hy _ (hv j x hx);rw[XR _ hmj,←hVl]at hu;refine aI.mono (fun _ h=>h) sm (aI.o9 ?_ hu);have:=abe cur.toList V.cells.toList (j*kk.sz) off kk.sz (xs.length*kk.sz) (by omega) hmj (by omega);rw[←this,hVl]
 ·rw[List.getElem?_set_ne (fun e=>Sy e.symm)]at hz;have hu:=hv j z hz;rw[XR _ hmj]at hu;refine aI.mono (fun _ h=>h) sm (aI.o9 ?_ hu);have h4:j*kk.sz+kk.sz≤n*kk.sz∨n*kk.sz+kk.sz≤j*kk.sz:=by
   rcases Nat.lt_or_ge j n with h|h
   ·left;rw[←Nat.succ_mul];exact ab5 _ h
   ·right;rw[←Nat.succ_mul];exact ab5 _ (by omega)
  have:=XQ cur.toList V.cells.toList (n*kk.sz) off kk.sz (xs.length*kk.sz) (j*kk.sz) (by omega) hmul (by omega) hmj h4;rw[←this,hVl]
theorem vG{k:K}{ys:List k.T}{u:Value}(hr:aI Z w (.sl k) ys [u]) :
  (u=.slice none 0 0∧ys=[])∨∃a c news,u=.slice (some a) ys.length c∧ys.length≤c∧news.length=ys.length*k.sz∧(∀(j:Nat) q,news[j]? = some q→w.cell? (a.add j)=some q)∧(∀q∈news,q.oneCell'=true)∧la Z w k ys news:=by
 simp only[aI]at hr;obtain⟨v,hv,A,c,rfl,hl,hn,he⟩:=hr
 cases hv
 cases A with
 |none =>simp_all
 |some a =>
  right;have Og:∀i (hi:i<ys.length),∃us,aI Z w k ys[i] us∧∀(j:Nat) u,us[j]? = some u→w.cell? (a.add (i*k.sz+j))=some u:=fun i hi=>by simp_all
  have E3:=k.gO
  let news:=(List.range (ys.length*k.sz)).map fun j=>(w.cell? (a.add j)).getD default
  have ZA:∀j,j<ys.length*k.sz→∃q,w.cell? (a.add j)=some q∧q.oneCell'=true:=fun j hj=>by
   have hi:j / k.sz<ys.length:=Nat.div_lt_of_lt_mul (by grind);obtain⟨us,h3,h4⟩:=Og (j / k.sz) hi;have hm:j%k.sz<us.length:=by rw[h3.len];exact adw _ E3
   refine⟨us[j%k.sz],?_,h3.one _ (ac8 hm)⟩
   grind [List.getElem?_eq_getElem,Nat.mul_comm,Nat.div_add_mod]
  have sD:∀j,j<ys.length*k.sz→∃q,news[j]? = some q∧w.cell? (a.add j)=some q:=fun j hj=>by
   grind
  have hlen:news.length=ys.length*k.sz:=by simp[news]
  refine⟨a,c,news,rfl,hl,hlen,fun j q hq=>?_,fun q hq=>?_,fun i x hx=>?_⟩
  ·grind
  ·grind
  ·have hi:i<ys.length:=(abu.1 hx).1;obtain⟨us,h3,h4⟩:=Og i hi;rw[List.getElem?_eq_getElem hi]at hx;cases hx;refine aI.o9 ?_ h3;have hul:=h3.len;have hmul:i*k.sz+k.sz≤ys.length*k.sz:=by rw[←Nat.succ_mul];exact ab5 _ hi
   apply adn
   grind
theorem Qk{hh:Heap}(g:Good Z ψ hh.get w B0 O){x:AV}{u:Value}{k:K}{ys:List k.T}(hx:rowOf hh x k=some ys)(hr:az Z ψ hh.get w x u) :
  (u=.slice none 0 0∧ys=[])∨∃a c news,u=.slice (some a) ys.length c∧ys.length≤c∧news.length=ys.length*k.sz∧(∀(j:Nat) q,news[j]? = some q→w.cell? (a.add j)=some q)∧(∀q∈news,q.oneCell'=true)∧la Z w k ys news:=by
 unfold rowOf at hx
 split at hx
 ·rename_i ex k' xs heq
  split at hx
  ·rename_i e;subst e
   cases hx
   cases x with
   |sl ex' k'' xs' =>
    simp only[cY]at heq
    cases heq
    simp only[az]at hr;exact vG hr.1
   |bK id =>
    simp only[cY]at heq
    split at heq
    ·rename_i ty kk zs hg
     cases heq
     simp only[az]at hr;have hv:=hr.2 (by rw[hg];simp);subst hv;obtain⟨vs,ho,hv⟩:=g.row id (.row ty _) _ hg;have h1:=vG (wM (Z':=fun b=>Z b∨ob (ψ id)=some b) ho hv (fun b hb=>.inl hb) (fun b hb=>.inr hb));rcases h1 with h1|⟨a,c,news,h1,h2,h3,h4,h5,_⟩
     ·exact .inl h1
     ·right;refine⟨a,c,news,h1,h2,h3,h4,h5,?_⟩;have My:news=vs:=by
       obtain⟨hl,e⟩:=ho;rcases e with⟨e,_⟩|⟨gg,cap,cur,e,_,e3,_,_,_,e7⟩
       ·rw[e,Nat.zero_mul]at h3 hl;rw[List.eq_nil_of_length_eq_zero h3,List.eq_nil_of_length_eq_zero hl]
       ·rw[e]at h1;cases h1;apply adn;intro j;by_cases hj:j<xs.length*k'.sz
        ·have hn:=h4 j _ (abn (by omega));rw[cE,Nat.zero_add]at hn;simp only[World.cell?,e3]at hn;have BA:vs[j]? = cur.toList[j]? := by rw[←e7,List.getElem?_take,if_pos hj]
         rw[BA,List.getElem?_eq_getElem (by omega)];simpa using hn.symm
        ·rw[List.getElem?_eq_none (by omega),List.getElem?_eq_none (by omega)]
      rw[My];exact hv
    ·cases heq
    ·cases heq
   |_=>simp only[cY]at heq<;>cases heq
  ·cases hx
 ·rename_i heq
  cases hx
  cases x with
  |fW=>simp only[az]at hr;exact .inl ⟨hr,rfl⟩
  |bK id=>simp only[cY]at heq;split at heq<;>cases heq
  |_=>simp only[cY]at heq<;>cases heq
 ·cases hx
structure oE(P:Program)(e:TypeId)(k:K)(i:TypeInfo)(z:Value):Prop where
 info:P.info? e=some i
 zero:i.zero=some z
 size:i.size=k.sz
 wO:z.cells.size=k.sz
 bytes:i.bytes≤65536
theorem cg{e:TypeId}{k:K}(he:yx P e k=true):∃i z,oE P e k i z:=by
 unfold yx at he
 split at he
 ·rename_i i hi
  split at he
  ·rename_i z hz;simp only[Bool.and_eq_true,decide_eq_true_eq]at he;exact⟨i,z,hi,hz,he.1,he.2.1,he.2.2⟩
  ·cases he
 ·cases he
theorem la.append{k:K}{xs ys:List k.T}{vs us:List Value}(h1:la Z w k xs vs)(h2:la Z w k ys us)(hl:vs.length=xs.length*k.sz):la Z w k (xs++ys) (vs++us):=fun i x hx=>by
 by_cases hi:i<xs.length
 ·rw[List.getElem?_append_left hi]at hx;have hm:i*k.sz+k.sz≤xs.length*k.sz:=by rw[←Nat.succ_mul];exact ab5 _ hi
  have h3:=h1 i x hx;rw[List.drop_append_of_le_length (by omega),List.take_append_of_le_length (by rw[List.length_drop];omega)];exact h3
 ·rw[List.getElem?_append_right (by omega)]at hx;have h3:=h2 (i-xs.length) x hx;have e:i*k.sz=vs.length+(i-xs.length)*k.sz:=by rw[hl,←Nat.add_mul];congr 1;omega
  rw[e,List.drop_append,List.drop_eq_nil_of_le (by omega),List.nil_append,Nat.add_sub_cancel_left];exact h3
theorem la.Co{k:K}{xs:List k.T}{vs:List Value}(h:la Z w k xs vs)(sm:cr Z w w'):la Z w' k xs vs:=fun i x hx=>(h i x hx).mono (fun _ h=>h) sm
theorem Jz(g:Good Z ψ h w B0 O)(hB:B0≤w.heap.size)(id:Nat)(hN:N id){ok:OK}{x:ok.T}{v:Value}(kk:cO ψ h w w')(uW:∀b,Own ψ h b→w'.heap[b]? = w.heap[b]?) (ho:jM Z w' ok v x) (hb:∀b,ob v=some b→w.heap.size≤b) (bj:∀i ty cs,h i=some (.box ty cs)→aC (fun i=>i≠id) cs) :
  Next Z ψ h w B0 O N Z (dV ψ id v) (dV h id (some (.own ok x))) w':=by
 have n:Next Z ψ h w B0 O (·=id) Z (dV ψ id v) (dV h id (some (.own ok x))) w':=by
  refine g.more kk uW (fun i hi=>⟨dx _ _ hi,dx _ _ hi⟩) (fun i Jh cs' hb=>bj i Jh cs' hb) (fun i Jh cs' hi hb=>?_) (fun i ok x hi hb=>?_) (fun i b hi bz hbb=>?_) (fun i i' b hi yu _ _ _ _=>by omega) hB
  ·grind [bf]
  ·grind [bf]
  grind [bf]
 exact⟨n.gy,n.fb,n.keep,fun i hi=>(n.ids i hi).imp (fun h=>h) (fun e=>by simp_all),n.dA⟩
theorem pe(g:Good Z ψ h w B0 O)(hB:B0≤w.heap.size)(id:Nat)(ty:TypeId)(hN:N id){k:K}{xs:List k.T}{vs:List Value}{v:Value}(kk:cO ψ h w w')(uW:∀b,Own ψ h b→w'.heap[b]? = w.heap[b]?) (ho:dS w' ty k.sz v xs.length vs) (hv:la Z w' k xs vs) (hb:∀b,ob v=some b→w.heap.size≤b) (bj:∀i ty cs,h i=some (.box ty cs)→aC (fun i=>i≠id) cs) :
  Next Z ψ h w B0 O N Z (dV ψ id v) (dV h id (some (.own (.row ty k) xs))) w':=Jz g hB id hN (ok:=.row ty k) kk uW ⟨vs,ho,hv⟩ hb bj
theorem cO.grown{row:Option Nat}(hg:w.grownBy w' row)(hr:∀b,row=some b→Own ψ h b):cO ψ h w w' :=⟨hg.os,hg.tape,hg.output,hg.size,fun b hb hn=>hg.block b hb (fun e=>hn (hr b e.symm))⟩
theorem nQ(g:Good Z ψ h w B0 O)(hB:B0≤w.heap.size)(id cF:Nat)(hN:N id){ok:OK}{x y:ok.T}(ho:h cF=some (.own ok x))(bz:cF≠id) (hg:w.grownBy w' (ob (ψ cF))) {v:Value} (hv:jM Z w' ok v y) (hb:ob v=ob (ψ cF)∨∀b,ob v=some b→w.heap.size≤b) (bj:∀i ty cs,h i=some (.box ty cs)→aC (fun i=>i≠id) cs) :
  Next Z ψ h w B0 O N Z (dV ψ id v) (dV (dV h cF none) id (some (.own ok y))) w':=by
 have hold:h cF≠none:=by rw[ho];simp
 have oP:∀b,ob (ψ cF)=some b→ob (ψ cF)=some b:=fun _ h=>h;have kk:cO ψ h w w':=cO.grown hg (fun b e=>⟨cF,hold,oP b e⟩);have sm:=kk.same g;have other:∀i b,h i≠none→i≠cF→ob (ψ i)=some b→w'.heap[b]? = w.heap[b]? := fun i b h1 h2 h3 =>hg.block b (g.bO ⟨i,h1,h3⟩) (fun e=>h2 (g.apart i cF b h1 hold h3 (oP b e.symm)));have at_:∀i,i≠id→dV (dV h cF none) id (some (.own ok y)) i≠none→h i≠none∧i≠cF:=fun i hi h1=>by
  rw[dx _ _ hi]at h1;by_cases e:i=cF
  ·subst e;rw[bf]at h1;exact absurd rfl h1
  ·rw[dx _ _ e]at h1;exact⟨h1,e⟩
 have ids:∀i,dV (dV h cF none) id (some (.own ok y)) i≠none→(h i≠none∧dV ψ id v i=ψ i)∨i=id:=fun i h1=>by
  by_cases e:i=id
  ·exact .inr e
  ·exact .inl ⟨(at_ i e h1).1,dx _ _ e⟩
 have vob:∀b,ob v=some b→ob (ψ cF)=some b∨w.heap.size≤b:=fun b hbb=>by
  rcases hb with hb|hb
  ·left;rw[←hb];exact hbb
  ·right;exact hb b hbb
 refine⟨fun _ h=>h,fun _ h=>.inl h,kk,fun i h1=>(ids i h1).imp (fun h=>h) (fun e=>by subst e;exact hN),⟨fun i Jh cs rQ=>?_,fun i XM z rQ=>?_,fun i b h1 h2=>?_,fun i i' b h1 h2 h3 h4=>?_,fun b hz=>adg (g.kx b hz) kk.size⟩⟩
 ·by_cases e:i=id
  ·subst e;rw[bf]at rQ;cases rQ
  ·have HL:=at_ i e (by rw[rQ];simp);rw[dx _ _ e,dx _ _ HL.2]at rQ;obtain⟨gg,us,h1,h2,h3,h4⟩:=g.box i Jh cs rQ;refine⟨gg,us,by rw[dx _ _ e];exact h1,(other i gg HL.1 HL.2 (by rw[h1];rfl)).trans h2,?_,h4⟩;exact h3.move (fun _ h=>h) sm (fun j hj hn=>(ids j hn).resolve_right hj) (bj i Jh cs rQ)
 ·by_cases e:i=id
  ·subst e;rw[bf]at rQ;cases rQ;rw[bf];exact hv
  ·have HL:=at_ i e (by rw[rQ];simp);rw[dx _ _ e,dx _ _ HL.2]at rQ;rw[dx _ _ e];exact(g.row i XM z rQ).kept (fun _ h=>h) sm (fun gg Qi=>other i gg HL.1 HL.2 Qi)
 ·by_cases e:i=id
  ·subst e;rw[bf]at h2;rcases vob b h2 with h3|h3
   ·exact g.live cF b hold h3
   ·exact⟨fun hz=>by have:=g.kx b hz;omega,.inl (by omega)⟩
  ·rw[dx _ _ e]at h2;exact g.live i b (at_ i e h1).1 h2
 ·have key:∀j,j≠id→dV (dV h cF none) id (some (.own ok y)) j≠none→ob (ψ j)=some b→ob v=some b→False:=fun j hj h5 h6 h7=>by
   obtain⟨h8,h9⟩:=at_ j hj h5;rcases vob b h7 with qg|qg
   ·exact h9 (g.apart j cF b h8 hold h6 qg)
   ·have:=g.bO ⟨j,h8,h6⟩;omega
  by_cases e:i=id<;>by_cases e':i'=id
  ·rw[e,e']
  ·subst e;rw[bf]at h3;rw[dx _ _ e']at h4;exact(key i' e' h2 h4 h3).elim
  ·subst e';rw[bf]at h4;rw[dx _ _ e]at h3;exact(key i e h1 h3 h4).elim
  ·rw[dx _ _ e]at h3;rw[dx _ _ e']at h4;exact g.apart i i' b (at_ i e h1).1 (at_ i' e' h2).1 h3 h4
def XS(w:World)(sz:Nat)(u:Value)(m:Nat)(news:List Value):Prop :=news.length=m*sz∧(∀q∈news,q.oneCell'=true)∧((u=.slice none 0 0∧m=0)∨∃a c,u=.slice (some a) m c∧∀(j:Nat) q,news[j]? = some q→w.cell? (a.add j)=some q)
theorem wP{hh:Heap}(g:Good Z ψ hh.get w B0 O){x:AV}{u:Value}{k:K}{ys:List k.T}(hx:rowOf hh x k=some ys)(hr:az Z ψ hh.get w x u):∃news,XS w k.sz u ys.length news∧la Z w k ys news:=by
 rcases Qk g hx hr with⟨rfl,rfl⟩|⟨a,c,news,h1,_,h2,h3,h4,h5⟩
 ·exact⟨[],⟨by simp,by simp,.inl ⟨rfl,rfl⟩⟩,fun i x hx=>by simp at hx⟩
 ·exact⟨news,⟨h2,h4,.inr ⟨a,c,h1,h3⟩⟩,h5⟩
theorem fN{t ty e:TypeId}{i:TypeInfo}(ht:P.underlying t=some (.slice e))(hi:P.info? e=some i)(A:Option Addr)(n c:Nat)(hc:n≤c)(A':Option Addr)(c':Nat) :
  (Builtin.append_ #[t,t] ty #[.slice A n c,.slice A' 0 c']).run P w=.ok (.slice A n c) w:=by
 cases A<;>cases A'<;>simp[Builtin.append_,run_underlying ht,sizeOf,typeInfo,hi,Builtin.lenOf,Builtin.firstCells,hc,storeCells,loadCells,loadCellsFrom]
theorem dW{t ty e:TypeId}{k:K}{i:TypeInfo}{z:Value}(ht:P.underlying t=some (.slice e))(he:oE P e k i z){v:Value}{n:Nat}{xs:List Value}(ho:dS w e k.sz v n xs) {u:Value} {m:Nat} {news:List Value} (hu:XS w k.sz u m news) (hm:n+m≤fk) :
  ∃v' w',(Builtin.append_ #[t,t] ty #[v,u]).run P w=.ok v' w'∧dS w' e k.sz v' (n+m) (xs++news)∧w.grownBy w' (ob v)∧(ob v'=ob v∨∀b,ob v'=some b→w.heap.size≤b):=by
 obtain⟨h1,h3,hu⟩:=hu;obtain⟨A0,c0,ZB⟩:=ho.slice;by_cases hm0:m=0
 ·subst hm0;have adK:news=[]:=abN (by omega);subst adK;have Al:n≤c0:=by
   rcases ho.2 with⟨h0,A,e⟩|⟨g,cap,cur,e,hc,h2,h3,_⟩
   ·omega
   simp_all
  refine⟨v,w,?_,by simpa using ho,World.grownBy.refl w _,.inl rfl⟩;subst ZB;rcases hu with⟨rfl,_⟩|⟨a,c,rfl,_⟩<;>exact fN ht he.info A0 n c0 Al _ _
 ·rcases hu with⟨_,h0⟩|⟨a,c,rfl,h2⟩
  ·omega
  have hb:=he.bytes;unfold fk at hm;have sE:(n+m)*i.bytes≤140737488355328:=acz (ad5 hm hb) (by decide);have new:∀v',w.heap.size≤w.heap.size→∀(w':World),w'.ownsRow w.heap.size e k.sz v' (n+m) (xs++news)→∀b,ob v'=some b→w.heap.size≤b:=fun v' _ w' rY b hb=>by
   rcases rY.2 with⟨rfl,_⟩|⟨g,cap,cur,rfl,h5,_⟩
   ·omega
   grind [ob]
  rcases ho.2 with⟨rfl,A,rfl⟩|⟨g,cap,cur,rfl,SZ,h4,h5,h6,h7,h8⟩
  ·have Cp:xs=[]:=abN (by rw[ho.1,Nat.zero_mul]);subst Cp;have oP:ob (.slice A 0 0)=none:=by cases A<;>simp[ob]
   cases A with
   |none =>obtain⟨v',w',hr,h4,h5,_,h6⟩:=run_append_own_at (P:=P) w w.heap.size t ty e i z k.sz i.bytes ht he.info he.zero he.size rfl he.wO k.gO (.slice none 0 0) 0 [] ⟨by simp,.inl ⟨rfl,rfl⟩⟩ a m c news h1 h2 h3 (by grind [maxLen]) sE (acb _);exact⟨v',w',hr,dS.of h4,by rw[oP];exact h5,.inr (new v' (acb _) w' h4)⟩
   |some b0 =>obtain⟨v',w',hr,h4,h5⟩:=run_append_arg_grows (P:=P) w t ty e i z k.sz i.bytes ht he.info he.zero he.size rfl he.wO k.gO b0 0 0 [] (by simp) (by simp) a m c news h1 h2 (by omega) (by grind [maxLen]) sE;exact⟨v',w',hr,dS.of h4,by simp_all,.inr (new v' (acb _) w' h4)⟩
  ·have rR:w.ownsRow 0 e k.sz (.slice (some ⟨g,0,none⟩) n cap) n xs:=⟨ho.1,.inr ⟨g,cap,cur,rfl,adl _,h4,h5,h6,h7,h8⟩⟩;have oP:ob (.slice (some ⟨g,0,none⟩) n cap)=some g:=by simp only[ob];grind
   obtain⟨v',w',hr,h4,h5,_,h6⟩:=run_append_own_at (P:=P) w 0 t ty e i z k.sz i.bytes ht he.info he.zero he.size rfl he.wO k.gO _ n xs rR a m c news h1 h2 h3 (by grind [maxLen]) sE (adl _);refine⟨v',w',hr,dS.of h4,by rw[oP];exact h5,?_⟩;rw[oP];rcases h4.2 with⟨rfl,h0⟩|⟨g',ai9,gK,rfl,_,_,h9,_⟩
   ·omega
   ·have adL:ob (.slice (some ⟨g',0,none⟩) (n+m) ai9)=some g':=by simp only[ob];grind
    grind [Value.ownBlock,Option.some.injEq]
theorem az.oF{h h':Hp}(hs:∀id o,h' id=some o→h id=some o){a:AV}{v:Value}(hr:az Z ψ h w a v):az Z ψ h' w a v :=hr.less (fun _ h=>h) (cr.refl _ _) (fun id bL=>by obtain⟨o,ho⟩:=abK.1 bL;simp_all)
theorem au.oF{h h':Hp}(hs:∀id o,h' id=some o→h id=some o){a:List AV}{v:List Value}(hr:au Z ψ h w a v):au Z ψ h' w a v :=hr.less (fun _ h=>h) (cr.refl _ _) (fun id bL=>by obtain⟨o,ho⟩:=abK.1 bL;simp_all)
theorem ru{hh:Heap}(g:Good Z ψ h w B0 O)(bu:∀id o,hh.get id=some o→h id=some o)(hB:B0≤w.heap.size){id:Nat}(hN:N id){t ty e:TypeId}{k:K}{i:TypeInfo}{z:Value}(ht:P.underlying t=some (.slice e))(he:oE P e k i z) {x:AV} {u:Value} {ys:List k.T} (hx:rowOf hh x k=some ys) (hr:az Z ψ h w x u) (hm:ys.length≤fk) (bj:∀i ty cs,h i=some (.box ty cs)→aC (fun i=>i≠id) cs) :
  ∃v' w',(Builtin.append_ #[t,t] ty #[.slice none 0 0,u]).run P w=.ok v' w'∧Next Z ψ h w B0 O N Z (dV ψ id v') (dV h id (some (.own (.row e k) ys))) w'∧v'.cells=#[v']∧v'.oneCell'=true:=by
 obtain⟨news,yK,hv⟩:=wP (g.sub bu) hx (hr.oF bu);have Mz:dS w e k.sz (.slice none 0 0) 0 []:=⟨by simp,.inl ⟨rfl,none,rfl⟩⟩;obtain⟨v',w',dg,h4,h5,h6⟩:=dW (ty:=ty) ht he Mz yK (by omega);have hg:w.grownBy w' none:=h5;have kk:cO ψ h w w':=cO.grown hg (fun b e=>by cases e);have sm:=kk.same g;refine⟨v',w',dg,pe g hB id e hN (vs:=news) kk (fun b hb=>hg.block b (g.bO hb) (by simp)) (by simpa using h4) (fun i x hx=>(hv i x hx).mono (fun _ h=>h) sm) (fun b hb=>?_) bj,h4.one⟩
 grind [ob]
theorem Bg{hh:Heap}(g:Good Z ψ h w B0 O)(bu:∀id o,hh.get id=some o→h id=some o)(hB:B0≤w.heap.size){id cF:Nat}(hN:N id)(bz:cF≠id){t ty e:TypeId}{k:K}{i:TypeInfo}{z:Value}(ht:P.underlying t=some (.slice e))(he:oE P e k i z) {xs:List k.T} (ho:h cF=some (.own (.row e k) xs)) {x:AV} {u:Value} {ys:List k.T} (hx:rowOf hh x k=some ys) (hr:az Z ψ h w x u) (hm:xs.length+ys.length≤fk) (bj:∀i ty cs,h i=some (.box ty cs)→aC (fun i=>i≠id) cs) :
  ∃v' w',(Builtin.append_ #[t,t] ty #[ψ cF,u]).run P w=.ok v' w'∧Next Z ψ h w B0 O N Z (dV ψ id v') (dV (dV h cF none) id (some (.own (.row e k) (xs++ys)))) w'∧v'.cells=#[v']∧v'.oneCell'=true:=by
 obtain⟨news,yK,hv⟩:=wP (g.sub bu) hx (hr.oF bu);obtain⟨vs,XT,ZB⟩:=g.row cF (.row e k) xs ho;obtain⟨v',w',dg,h4,h5,h6⟩:=dW (ty:=ty) ht he XT yK hm;have hold:h cF≠none:=by rw[ho];simp
 have kk:cO ψ h w w':=cO.grown h5 (fun b e=>⟨cF,hold,e⟩);have sm:=kk.same g;refine⟨v',w',dg,nQ g hB id cF hN ho bz h5 (ok:=.row e k) (y:=xs++ys) ⟨_,by simp_all,(ZB.append hv XT.1).Co sm⟩ h6 bj,h4.one⟩
theorem Cq{hh:Heap}(g:Good Z ψ h w B0 O)(bu:∀id o,hh.get id=some o→h id=some o)(hB:B0≤w.heap.size){id:Nat}(hN:N id){t ty e:TypeId}{k:K}{i:TypeInfo}{z:Value}(ht:P.underlying t=some (.slice e))(he:oE P e k i z) {xs:List k.T} {v:Value} (hd:az Z ψ h w (.sl true k xs) v) {x:AV} {u:Value} {ys:List k.T} (hx:rowOf hh x k=some ys) (hr:az Z ψ h w x u) (E3:0<ys.length∨xs=[]) (hm:xs.length+ys.length≤fk) (bj:∀i ty cs,h i=some (.box ty cs)→aC (fun i=>i≠id) cs) :
  ∃v' w',(Builtin.append_ #[t,t] ty #[v,u]).run P w=.ok v' w'∧Next Z ψ h w B0 O N Z (dV ψ id v') (dV h id (some (.own (.row e k) (xs++ys)))) w'∧v'.cells=#[v']∧v'.oneCell'=true:=by
 simp only[az]at hd;obtain⟨hd,hex⟩:=hd;obtain⟨A,c,Sz⟩:=hex trivial;rcases vG hd with⟨rfl,rfl⟩|⟨a,c',adM,h1,_,h2,h3,h4,h5⟩
 ·have:=ru (ty:=ty) (N:=N) g bu hB hN ht he hx hr (by omega) bj;simp_all
 ·rw[h1]at Sz;cases Sz;obtain⟨news,⟨h6,h7,hu⟩,hv⟩:=wP (g.sub bu) hx (hr.oF bu);by_cases hy0:ys.length=0
  ·have hy:ys=[]:=abN hy0;have Cp:xs=[]:=E3.resolve_left (by omega);subst Cp;have Mz:dS w e k.sz (.slice (some a) 0 0) 0 []:=⟨by simp,.inl ⟨rfl,_,rfl⟩⟩;refine⟨v,w,?_,pe g hB id e hN (vs:=[]) (cO.refl _ _ _) (fun _ _=>rfl) (by simp_all) (fun i x hx=>by simp_all) (fun b hb=>by grind [ob]) bj,by rw[h1];exact Mz.one⟩;rw[h1];rw[hy0]at hu;rcases hu with⟨rfl,_⟩|⟨b,cu,rfl,_⟩<;>exact fN ht he.info _ _ _ (acb _) _ _
  rcases hu with⟨_,h0⟩|⟨b,cu,rfl,h8⟩
  ·omega
  ·have hb:=he.bytes;unfold fk at hm;have sE:(xs.length+ys.length)*i.bytes≤140737488355328:=acz (ad5 hm hb) (by decide);obtain⟨v',w',dg,h9,qg⟩:=run_append_arg_grows (P:=P) w t ty e i z k.sz i.bytes ht he.info he.zero he.size rfl he.wO k.gO a xs.length xs.length adM h2 h3 b ys.length cu news h6 h8 (by omega) (by grind [maxLen]) sE;have kk:cO ψ h w w':=cO.grown qg (fun b e=>by cases e);have sm:=kk.same g;have h9':dS w' e k.sz v' (xs++ys).length (adM++news):=by rw[List.length_append];exact dS.of h9
   subst h1;refine⟨v',w',dg,pe g hB id e hN kk (fun b hb=>qg.block b (g.bO hb) (by simp)) h9' ((h5.append hv h2).Co sm) (fun b hb=>?_) bj,h9'.one⟩;rcases h9.2 with⟨e1,_⟩|⟨gg,cap,cur,e1,e2,_⟩
   ·omega
   grind [ob]
theorem wQ:∀(vs:List Value) (k off:Nat) (cells:Array Value),(vs.zipIdx k).foldl (fun cs (p:Value×Nat)=>cs.setIfInBounds (off+p.2) p.1) cells=(eF cells.toList (off+k) vs).toArray
 |[],k,off,cells=>by simp[eF]
 |v::r,k,off,cells=>by simp only[List.zipIdx_cons,List.foldl_cons,eF];rw[wQ r (k+1) off];simp[Nat.add_assoc]
theorem Am(V:Array Value)(off:Nat)(cells:Array Value) :
  V.zipIdx.foldl (fun cs (p:Value×Nat)=>cs.setIfInBounds (off+p.2) p.1) cells=(eF cells.toList off V.toList).toArray:=by
 rw[←Array.foldl_toList,Array.toList_zipIdx];simp_all [wQ]
theorem uY{α:Type}:∀(vs cs:List α) (off:Nat),(eF cs off vs).length=cs.length
 |[],_,_=>rfl
 |v::r,cs,off=>by simp only[eF];rw[uY r];simp
theorem au.eF:∀{vs cs:List AV} {us ds:List Value} (off:Nat),au Z ψ h w vs us→au Z ψ h w cs ds→au Z ψ h w (eF cs off vs) (eF ds off us)
 |[],cs,us,ds,off,h1,h2=>by simp only[au]at h1;subst h1;exact h2
 |v::r,cs,us,ds,off,h1,h2=>by simp only[au]at h1;obtain⟨u,jk,rfl,h3,h4⟩:=h1;simp only[Vs.eF];exact au.eF (off+1) h4 (h2.set off h3)
theorem az.cells{a:AV}{v:Value}(hk:a≠.no)(hr:az Z ψ h w a v):au Z ψ h w a.cells v.cells.toList:=by
 cases a with
 |no=>exact absurd rfl hk
 |agg cs=>simp only[az]at hr;obtain⟨vs,rfl,hr⟩:=hr;simpa[AV.cells,Value.cells] using hr
 |bool b=>simp only[az]at hr;subst hr;simp[AV.cells,Value.cells,au,az]
 |int k n=>simp only[az]at hr;subst hr;simp[AV.cells,Value.cells,au,az]
 |str s=>simp only[az]at hr;subst hr;simp[AV.cells,Value.cells,au,az]
 |l8=>simp only[az]at hr;subst hr;simp[AV.cells,Value.cells,au,az]
 |fW=>simp only[az]at hr;subst hr;simp[AV.cells,Value.cells,au,az]
 |ref id s i off=>obtain⟨a,rfl,h2⟩:=(by simpa only[az] using hr:∃a,v=.pointer (some a)∧_);simp only[AV.cells,Value.cells,au];exact⟨_,[],by simp,hr,rfl⟩
 |fp k x off=>obtain⟨a,us,rfl,h2⟩:=(by simpa only[az] using hr:∃a us,v=.pointer (some a)∧_);simp only[AV.cells,Value.cells,au];exact⟨_,[],by simp,hr,rfl⟩
 |sl ex k xs =>
  have tE:=hr;simp only[az,aI]at tE;obtain⟨⟨v',hv,A,c,rfl,_⟩,_⟩:=tE
  cases hv
  simp only[AV.cells,Value.cells,au];exact⟨_,[],by simp,hr,rfl⟩
 |bK id =>have tE:=hr;simp only[az]at tE;obtain⟨⟨hc,_⟩,_⟩:=tE;simp only[AV.cells,au,hc];exact⟨_,[],by simp,hr,rfl⟩
 |mp kk vk es =>
  have tE:=hr;simp only[az,aI]at tE;obtain⟨A,hv,_⟩:=tE
  cases hv
  simp only[AV.cells,Value.cells,au];exact⟨_,[],by simp,hr,rfl⟩
 |fn f cap =>have tE:=hr;simp only[az]at tE;obtain⟨vs,rfl,_⟩:=tE;simp only[AV.cells,Value.cells,au];exact⟨_,[],by simp,hr,rfl⟩
 |oz vs =>have tE:=hr;simp only[az]at tE;obtain⟨us,rfl,_⟩:=tE;simp only[AV.cells,Value.cells,au];exact⟨_,[],by simp,hr,rfl⟩
def uZ(Z:Nat→Prop)(ψ:Nat→Value)(h:Hp)(w:World):List (Nat×AV)→List (Nat×Value)→Prop
 |[],[]=>True
 |p::r,q::s=>p.1=q.1∧p.2≠.no∧az Z ψ h w p.2 q.2∧uZ Z ψ h w r s
 |_,_=>False
theorem JA{place:Nat→Option (Nat×Nat)}:∀{ps:List (Nat×AV)} {qs:List (Nat×Value)} {cs cs':List AV} {cells:Array Value},uZ Z ψ h w ps qs→au Z ψ h w cs cells.toList→F4 place cs ps=some cs' → ∃gD,Instr.fill place cells qs=some gD∧au Z ψ h w cs' gD.toList
 |[],[],cs,cs',cells,_,hr,hf=>by simp only[F4]at hf;cases hf;exact⟨cells,rfl,hr⟩
 |[],_::_,_,_,_,hp,_,_=>hp.elim
 |_::_,[],_,_,_,hp,_,_=>hp.elim
 |(i,a)::ps,(j,v)::qs,cs,cs',cells,hp,hr,hf=>by
  obtain⟨rfl,tG,hv,hp⟩:=hp;simp only[F4]at hf;simp only at tG hv;have Sz:=hv.cells tG;have hl:=Sz.length;have u5:=hr.length;simp only[Array.length_toList]at hl u5;simp only[Instr.fill]
  split at hf
  ·cases hf
  ·rename_i off size S5;simp only[S5]
   split at hf
   ·cases hf
   ·rename_i hc;have hc1:a.cells.length=size:=Decidable.not_not.1 (fun e=>hc (.inl e));have pf:¬off+a.cells.length>cs.length:=fun e=>hc (.inr e);rw[if_neg (by simp_all)];refine JA hp ?_ hf;rw[Am,List.toList_toArray];exact Sz.eF off hr
theorem S6(fs:Array Field)(hi:∀f∈fs.toList,∃i,P.info? f.type=some i):(fs.mapM fun f=>do pure (f.offset,←sizeOf f.type):Sem (Array (Nat×Nat))).run P w=.ok (fs.map fun f=>(f.offset,P.cellsOf f.type)) w:=by
 rw[←Array.toArray_toList (xs:=fs)];generalize fs.toList=l at hi;have key:∀(l:List Field) (acc:Array (Nat×Nat)),(∀f∈l,∃i,P.info? f.type=some i) →(l.foldlM (fun(bs:Array (Nat×Nat)) f=>do let y ←(do pure (f.offset,←sizeOf f.type):Sem (Nat×Nat));pure (bs.push y)) acc:Sem (Array (Nat×Nat))).run P w=.ok (acc++(l.map fun f=>(f.offset,P.cellsOf f.type)).toArray) w:=by
  intro l
  induction l with
  |nil=>simp_all
  |cons f r ih =>simp_all [List.foldlM_cons,Sem.run_bind,dJ,Result.andThen_ok,Sem.run_pure,List.mem_cons_of_mem]
 simp_all [Array.mapM_eq_foldlM,List.size_toArray,List.foldlM_toArray']
theorem HM(v:Value):az Z ψ h w (yw v) v:=by
 cases v with
 |bool b=>simp only[yw,az]
 |int k n=>simp only[yw,az]
 |string s=>simp only[yw,az]
 |pointer a =>
  simp only[yw];split
  ·rename_i e;subst e;simp only[az]
  ·simp only[az]
 |slice a n c =>
  simp only[yw];split
  ·rename_i e;obtain⟨rfl,rfl,rfl⟩:=e;simp only[az]
  ·simp only[az]
 |func fn first cap =>
  cases fn with
  |func f =>
   simp only[yw];split
   ·rename_i e;have h1:first=#[]:=adB e.1
    have h2:cap=#[]:=adB e.2;subst h1;subst h2;simp only[az];exact⟨#[],rfl,by simp[au]⟩
   ·simp only[az]
  |_=>simp only[yw,az]
 |_=>simp only[yw,az]
theorem Cr:∀vs:List Value,au Z ψ h w (vs.map yw) vs
 |[]=>by simp[au]
 |v::r=>by simp only[List.map_cons,au];exact⟨v,r,rfl,HM v,Cr r⟩
theorem JB(v:Value):az Z ψ h w (vA v) v:=by
 cases v with
 |agg cs=>simp only[vA,az];exact⟨cs,rfl,Cr _⟩
 |_=>simp only[vA];exact HM _
theorem Gb(v:Value):(yw v).cells=[yw v]:=by
 cases v with
 |pointer a=>simp only[yw];split<;>rfl
 |slice a n c=>simp only[yw];split<;>rfl
 |func fn first cap =>
  cases fn with
  |func f=>simp only[yw];split<;>rfl
  |_=>rfl
 |_=>rfl
theorem Cs(v:Value):au Z ψ h w (vA v).cells v.cells.toList:=by
 cases v with
 |agg cs=>grind [vA,AV.cells,Value.cells,Cr]
 |_ =>simp only[vA];rw[Gb];simp only[au];exact⟨_,[],rfl,HM _,rfl⟩
theorem qv{t:TypeId}{zs:List AV}(hz:B7 P t=some zs):∃i z,P.info? t=some i∧i.zero=some z∧zs=(vA z).cells∧∀u∈z.cells.toList,u.oneCell'=true:=by
 unfold B7 at hz;obtain⟨i,hi,Ao⟩:=ada.1 hz;obtain⟨z,EV,Ql⟩:=ada.1 Ao
 grind
theorem sF{t:TypeId}{i:TypeInfo}{z:Value}(hi:P.info? t=some i)(hz:i.zero=some z):(zeroValue t).run P w=.ok z w:=by simp[zeroValue,typeInfo,hi,hz]
theorem Qm{t:TypeId}{fs:Array Field}{zs cs:List AV}{ps:List (Nat×AV)}{qs:Array (Nat×Value)}(hz:B7 P t=some zs)(ht:P.underlying t=some (.struct fs))(jN:fs.toList.all (fun f=>(P.info? f.type).isSome)=true) (hp:uZ Z ψ h w ps qs.toList) (hf:F4 (fun i=>(fs[i]?).map fun f=>(f.offset,P.cellsOf f.type)) zs ps=some cs) :
  ∃V,(Instr.build t qs).run P w=.ok V w∧az Z ψ h w (.agg cs) V:=by
 obtain⟨i,z,hi,hzz,rfl,_⟩:=qv hz;obtain⟨gD,h1,h2⟩:=JA hp (Cs z) hf;have S5:=S6 (P:=P) (w:=w) fs (fun f hf=>acn.1 (adb.1 jN f hf));refine⟨.agg gD,?_,by simp only[az];exact⟨_,rfl,h2⟩⟩;have Xn:Instr.fill (fun x=>(fs.map fun f=>(f.offset,P.cellsOf f.type))[x]?) z.cells qs.toList=some gD:=by rw[←h1];congr 1;funext x;simp
 simp only[Instr.build,Sem.run_bind,sF hi hzz,run_underlying ht,Result.andThen_ok,S5,Xn];rfl
theorem MA:∀(k:K) (cs:List AV) (x:k.T) (r:List AV),dec k cs=some (x,r)→cs.head?≠some .no
 |.int ik,cs,x,r,h,hc=>by
  cases cs with
  |nil=>simp at hc
  |cons a s=>simp at hc;subst hc;simp[dec,HD]at h
 |.bool,cs,x,r,h,hc=>by
  cases cs with
  |nil=>simp at hc
  |cons a s=>simp at hc;subst hc;simp[dec,Bv]at h
 |.str,cs,x,r,h,hc=>by
  cases cs with
  |nil=>simp at hc
  |cons a s=>simp at hc;subst hc;simp[dec,HE]at h
 |.sl k,cs,x,r,h,hc=>by
  cases cs with
  |nil=>simp at hc
  |cons a s=>simp at hc;subst hc;simp[dec,N8]at h
 |.pair a b,cs,x,r,h,hc=>by
  simp only[dec]at h
  split at h
  ·rename_i x1 r1 h1;exact MA a cs x1 r1 h1 hc
  ·cases h
 |.one k,cs,x,r,h,hc=>by simp only[dec]at h;exact MA k cs x r h hc
 |.mp kk vk,cs,x,r,h,hc=>by
  cases cs with
  |nil=>simp at hc
  |cons a s=>simp at hc;subst hc;simp[dec,N9]at h
 |.fn f,cs,x,r,h,hc=>by
  cases cs with
  |nil=>simp at hc
  |cons a s=>simp at hc;subst hc;simp[dec,Oc]at h
theorem Gc{k:K}{hh:Heap}{a:AV}{x:k.T}(h:dv k (a.cells.map (cY hh))=some x):a≠.no:=by
 rintro rfl;unfold dv at h
 split at h
 ·rename_i x' h1;exact MA k _ _ _ h1 (by rfl)
 ·cases h
theorem JC{k:K}{hh:Heap}(g:Good Z ψ hh.get w B0 O)(hz:∀b,Z b→Z' b):∀{ps:List (Nat×AV)} {qs:List (Nat×Value)} {xs:List k.T} {i:Nat} {cells:Array Value},(∀p∈ps,∀id b,AV.bK id∈p.2.cells→hh.get id≠none→ob (ψ id)=some b→Z' b)→uZ Z ψ hh.get w ps qs→sr k hh i ps=some xs→(i+ps.length)*k.sz≤cells.size → ∃gD flat,Instr.fill (fun i=>some (i*k.sz,k.sz)) cells qs=some gD∧gD.toList=cells.toList.take (i*k.sz)++flat++cells.toList.drop ((i+ps.length)*k.sz)∧flat.length=ps.length*k.sz∧la Z' w k xs flat∧(∀q∈flat,q.oneCell'=true)∧xs.length=ps.length
 |[],[],xs,i,cells,_,_,hl,_=>by simp only[sr]at hl;cases hl;exact⟨cells,[],rfl,by simp,by simp,fun i x hx=>by simp at hx,by simp,rfl⟩
 |[],_::_,_,_,_,_,hp,_,_=>hp.elim
 |_::_,[],_,_,_,_,hp,_,_=>hp.elim
 |(j,a)::ps,(j',v)::qs,xs,i,cells,hb,hp,hl,hs=>by
  obtain⟨hjj,tG,hv,hp⟩:=hp;simp only at hjj tG hv;subst hjj;simp only[sr]at hl
  split at hl
  ·rename_i e;subst e
   split at hl
   ·rename_i y ys h1 h2
    cases hl
    simp only[List.length_cons]at hs;have Sz:=hv.cells tG;have hvw:=o6 g hz (hb (j,a) (by simp)) Sz;have hk:=dw h1 hvw;have Xo:=hk.len;rw[Array.length_toList]at Xo;have iW:j*k.sz+k.sz≤cells.size:=by have:(j+1)*k.sz≤(j+(ps.length+1))*k.sz:=ab5 _ (by omega);rw[Nat.succ_mul]at this;omega
    simp only[Instr.fill];rw[if_neg (by simp only[Bool.or_eq_true,decide_eq_true_eq];omega),Am];obtain⟨gD,flat,h3,h4,h5,h6,h7,h8⟩:=JC g hz (ps:=ps) (qs:=qs) (xs:=ys) (i:=j+1) (cells:=(eF cells.toList (j*k.sz) v.cells.toList).toArray) (fun p hp=>hb p (abt _ hp)) hp h2 (by rw[List.size_toArray,uY];have e9:cells.toList.length=cells.size:=Array.length_toList;rw[e9,show j+1+ps.length=j+(ps.length+1) by omega];exact hs);refine⟨gD,v.cells.toList++flat,h3,?_,?_,?_,?_,by simp[h8]⟩
    ·rw[h4,List.toList_toArray,tF _ _ _ (by rw[Array.length_toList,Array.length_toList];omega)];have e1:(j+1)*k.sz=j*k.sz+k.sz:=adJ _ _;have e2:(j+1+ps.length)*k.sz=(j+(ps.length+1))*k.sz:=by congr 1;omega
     rw[List.length_cons,e1,e2];have l1:(cells.toList.take (j*k.sz)++v.cells.toList).length=j*k.sz+k.sz:=by rw[List.length_append,List.length_take,Array.length_toList,Array.length_toList];omega
     rw[←l1,List.take_left];have l2:(j+(ps.length+1))*k.sz=(cells.toList.take (j*k.sz)++v.cells.toList).length+(ps.length*k.sz):=by rw[l1,Nat.add_mul,Nat.add_mul];omega
     have hd:(cells.toList.take (j*k.sz)++v.cells.toList++cells.toList.drop (j*k.sz+v.cells.toList.length)).drop ((j+(ps.length+1))*k.sz)=cells.toList.drop ((j+(ps.length+1))*k.sz):=by rw[l2,List.drop_append,List.drop_eq_nil_of_le (by omega),List.nil_append,Nat.add_sub_cancel_left,List.drop_drop];congr 1;rw[l1,Array.length_toList];omega
     rw[hd];simp[List.append_assoc]
    ·rw[List.length_append,h5,Array.length_toList,Xo,List.length_cons,Nat.succ_mul];omega
    ·intro n x hx
     cases n with
     |zero =>
      simp only[List.getElem?_cons_zero,Option.some.injEq]at hx;subst hx;have abh:v.cells.toList.length=k.sz:=by rw[Array.length_toList];exact Xo
      rw[Nat.zero_mul,List.drop_zero,←abh,List.take_left];exact hk
     |succ n =>
      have:=h6 n x (by simpa using hx);have abh:v.cells.toList.length=k.sz:=by rw[Array.length_toList];exact Xo
      have e:(n+1)*k.sz=v.cells.toList.length+n*k.sz:=by rw[abh,Nat.succ_mul];omega
      rw[e,List.drop_append,List.drop_eq_nil_of_le (by omega),List.nil_append,Nat.add_sub_cancel_left];exact this
    ·intro q hq;rcases abX.1 hq with hq|hq
     ·exact hk.one q hq
     ·exact h7 q hq
   ·cases hl
  ·cases hl
theorem Next.drop{Z1:Nat→Prop}{h1:Hp}(n:Next Z1 ψ h1 w B0 O N Z' ψ' h' w')(hz:∀b,Z b→Z1 b)(Ao:∀b,Z1 b→Z b∨Own ψ h b)(bu:∀id o,h1 id=some o→h id=some o):Next Z ψ h w B0 O N Z' ψ' h' w':=by
 have hn:∀id,h1 id≠none→h id≠none:=fun id hn=>by obtain⟨o,ho⟩:=abK.1 hn;simp_all
 have ho:∀b,Own ψ h1 b→Own ψ h b:=fun b ⟨id,h2,h3⟩=>⟨id,hn id h2,h3⟩;refine⟨fun b hb=>n.gy b (hz b hb),fun b hb=>?_,⟨n.keep.os,n.keep.tape,n.keep.output,n.keep.size,fun b hb tG=>n.keep.block b hb (fun h=>tG (ho b h))⟩,fun id bL=>(n.ids id bL).imp (fun⟨h2,h3⟩=>⟨hn id h2,h3⟩) (fun h=>h),n.dA⟩;rcases n.fb b hb with h2|h2|h2
 ·grind
 ·simp_all
 omega
theorem uZ.oF{h h':Hp}(hs:∀id o,h' id=some o→h id=some o):∀{ps:List (Nat×AV)} {qs:List (Nat×Value)},uZ Z ψ h w ps qs→uZ Z ψ h' w ps qs:=by
 intro ps
 induction ps with
 |nil=>intro qs hp;cases qs with
  |nil=>trivial
  |cons q r=>exact hp.elim
 |cons p r ih=>intro qs hp;cases qs with
  |nil=>exact hp.elim
  |cons q s=>exact⟨hp.1,hp.2.1,hp.2.2.1.oF hs,ih hp.2.2.2⟩
theorem JD{hh:Heap}{Z1:Nat→Prop}(g:Good Z1 ψ h w B0 O)(g0:Good Z ψ hh.get w B0 O)(hz:∀b,Z b→Z1 b)(hB:B0≤w.heap.size){id:Nat}(hN:N id){t e:TypeId}{k:K}{i:TypeInfo}{z:Value}(ht:P.underlying t=some (.slice e))(he:oE P e k i z) {ps:List (Nat×AV)} {qs:Array (Nat×Value)} {xs:List k.T} (hos:∀p∈ps,∀id b,AV.bK id∈p.2.cells→hh.get id≠none→ob (ψ id)=some b→Z1 b) (hp:uZ Z ψ hh.get w ps qs.toList) (hl:sr k hh 0 ps=some xs) (hn:ps.length*k.sz≤1048576) (bj:∀i ty cs,h i=some (.box ty cs)→aC (fun i=>i≠id) cs) :
  ∃v' w',(Instr.buildSlice t ps.length qs).run P w=.ok v' w'∧Next Z1 ψ h w B0 O N Z1 (dV ψ id v') (dV h id (some (.own (.row e k) xs))) w'∧(v'.cells=#[v']∧v'.oneCell'=true)∧(∀b,Own ψ h b→w'.heap[b]? = w.heap[b]?)∧(∀b,ob v'=some b→w.heap.size≤b)∧∃A c,v'=.slice A c c:=by
 let Oh:Array Value:=(Array.range (ps.length*k.sz)).map (z.cells[· % z.cells.size]!)
 have Ji:Oh.size=ps.length*k.sz:=by simp[Oh]
 obtain⟨gD,flat,h1,h2,h3,h4,h5,h6⟩:=JC (Z':=Z1) g0 hz (ps:=ps) (qs:=qs.toList) (xs:=xs) (i:=0) (cells:=Oh) hos hp hl (by simp_all);have anQ:gD.toList=flat:=by simp_all
 have MB:gD.size=ps.length*k.sz:=by grind
 have E3:=k.gO;have hlen:ps.length≤1048576:=acz (Nat.le_mul_of_pos_right _ E3) hn;have rR:(w.alloc (.cells gD e)).ownsRow 0 e k.sz (.slice (some ⟨w.heap.size,0,none⟩) ps.length ps.length) xs.length flat:=by have:=World.ownsRow_lit (base:=0) (e:=e) (size:=k.sz) w gD ps.length (adl _) (by grind [maxLen]) MB;simp_all
 refine⟨.slice (some ⟨w.heap.size,0,none⟩) ps.length ps.length,w.alloc (.cells gD e),?_,pe g hB id e hN (vs:=flat) (cO.alloc _ _ _ _) (fun b hb=>heap_alloc_old w _ (g.bO hb)) (dS.of rR) (h4.Co ((cO.alloc ψ h w _).same g)) (fun b hb=>by simp_all [ob,Nat.le_refl]) bj,(dS.of rR).one,fun b hb=>heap_alloc_old w _ (g.bO hb),fun b hb=>by simp_all [ob,Nat.le_refl],_,_,rfl⟩
 ·show _=Result.ok (Value.slice (some ⟨w.heap.size,0,none⟩) ps.length ps.length) _;have Ct:¬ps.length*k.sz>2 ^ 24:=by omega
  have hc:P.cellsOf e=k.sz:=by simp[Program.cellsOf,he.info,he.size]
  simp only[Instr.buildSlice,Sem.run_bind,run_underlying ht,Result.andThen_ok,dJ he.info,hc];rw[if_neg Ct];have Cu:(newRow e gD).run P w=.ok ⟨w.heap.size,0,none⟩ (w.alloc (.cells gD e)):=rfl;by_cases h0:ps.length*k.sz=0
  ·simp_all [Array.eq_empty_of_size_eq_zero,Array.range,if_pos,Sem.run_pure,Result.andThen_ok,Sem.run_bind]
  ·rw[if_neg h0];simp only[Sem.run_bind,sF he.info he.zero,Result.andThen_ok,Sem.run_pure];rw[show(Array.range (ps.length*k.sz)).map (fun x=>z.cells[x%z.cells.size]!)=Oh from rfl,h1];rfl
theorem S7(g:Good Z ψ h w B0 O)(hB:B0≤w.heap.size){id:Nat}{e:TypeId}{k:K}{xs:List k.T}{v':Value}(n:Next Z ψ h w B0 O N Z (dV ψ id v') (dV h id (some (.own (.row e k) xs))) w') (uW:∀b,Own ψ h b→w'.heap[b]? = w.heap[b]?) (Cu:∀b,ob v'=some b→w.heap.size≤b) (hex:∃A c,v'=.slice A c c) :
  Next Z ψ h w B0 O N (fun b=>Z b∨ob v'=some b) ψ h w'∧az (fun b=>Z b∨ob v'=some b) ψ h w' (.sl true k xs) v':=by
 have o8:jM Z w' (.row e k) v' xs:=by
  have:=n.dA.row id (.row e k) xs (bf _ _ _)
  rwa [bf]at this
 obtain⟨vs,ho,hv⟩:=o8;have m:Next Z ψ h w B0 O (fun _=>False) Z ψ h w':=g.more n.keep uW (fun _ _=>⟨rfl,rfl⟩) (fun i ty cs hb=>by
  grind [aC.top]) (fun _ _ _ h=>h.elim) (fun _ _ _ h=>h.elim) (fun _ _ h=>h.elim) (fun _ _ _ h=>h.elim) hB
 have hz:∀b,Z b→Z b∨ob v'=some b:=fun b h=>.inl h;refine⟨⟨hz,fun b hb=>hb.imp (fun h=>h) fun h=>.inr (Cu b h),m.keep,fun i hi=>.inl ((m.ids i hi).resolve_right (fun h=>h)),⟨fun i ty cs hb=>?_,fun i ok x hb=>?_,fun i b h1 h2=>?_,m.dA.apart,fun b hb=>?_⟩⟩,?_⟩
 ·obtain⟨gg,vs,f1,f2,f3,f4⟩:=m.dA.box i ty cs hb;exact⟨gg,vs,f1,f2,au.less hz (cr.refl _ _) (fun _ h=>⟨h,rfl⟩) f3,f4⟩
 ·exact(m.dA.row i ok x hb).kept hz (cr.refl _ _) (fun _ _=>rfl)
 ·obtain⟨k1,k2⟩:=m.dA.live i b h1 h2;refine⟨fun hb=>hb.elim k1 fun hb=>?_,k2⟩;have:=g.bO ⟨i,h1,h2⟩
  grind
 ·rcases hb with hb|hb
  ·exact m.dA.kx b hb
  ·exact jM.lt (ok:=.row e k) ⟨vs,ho,hv⟩ hb
 grind [az,wM]
end Go.Vs
