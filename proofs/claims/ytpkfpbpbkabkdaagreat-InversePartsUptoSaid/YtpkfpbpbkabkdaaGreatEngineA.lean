/- The value semantics of the loaded code: its definitions, what abstract values say of memory, and what single steps leave. -/
import Derived.Control
import Derived.Calls
import Derived.Orders
import GoSem.Machine.Frame
import Derived.Laws.AppendOwn
import GoSem.Core.Utf8
import Derived.Below
import Derived.Laws.OwnMore
import Derived.Laws.Rows
import Derived.Deep.Draws
import Derived.Laws.CopyRow
import Derived.Laws.Cells
import Derived.Laws.Sem
import Derived.Maps.AppendAt
import Derived.ArgAppend
import Derived.WalkKit
namespace Go.Vs
inductive K where
 |int (k:IntKind)|bool|str|sl (k:K)|pair (a b:K)|one (k:K)|mp (kk vk:K)
 deriving DecidableEq
def K.T:K→Type
 |.int _=>Int
 |.bool=>Bool
 |.str=>ByteArray
 |.sl k=>List k.T
 |.pair a b=>a.T×b.T
 |.one k=>k.T
 |.mp kk vk=>List (kk.T×vk.T)
def K.sz:K→Nat
 |.pair a b=>a.sz+b.sz
 |.one k=>k.sz
 |_=>1
def qz(P:Program):Nat→TypeId→Option K
 |0,_=>none
 |d+1,t =>
  match P.underlying t with
  |some (.int k)=>some (.int k)
  |some .bool=>some .bool
  |some .string=>some .str
  |some (.slice e)=>(qz P d e).map .sl
  |some (.map a b)=>match qz P d a,qz P d b with
   |some x,some y=>some (.mp x y)
   |_,_=>none
  |some (.struct fs) =>
   match (fs.toList.map fun f=>qz P d f.type).reverse with
   |[]=>none
   |[k]=>k.map .one
   |last::rest=>rest.foldl (fun acc k=>match k,acc with|some k,some a=>some (.pair k a)|_,_=>none) last
  |_=>none
def K.flat:K→Bool
 |.sl _=>false
 |.mp _ _=>false
 |.pair a b=>a.flat&&b.flat
 |.one k=>k.flat
 |_=>true
def K.isAgg:K→Bool
 |.pair _ _=>true
 |.one _=>true
 |_=>false
inductive AV where
 |no
 |bool (b:Bool)
 |int (k:IntKind) (n:Int)
 |str (s:ByteArray)
 |kX
 |fV
 |ref (id s i off:Nat)
 |fp (k:K) (x:k.T) (off:Nat)
 |sl (ex:Bool) (k:K) (xs:List k.T)
 |mp (kk vk:K) (es:List (kk.T×vk.T))
 |bH (id:Nat)
 |fn (f:FuncId) (cap:List AV)
 |agg (cs:List AV)
 |nh (vs:List AV)
def AV.isAgg:AV→Bool
 |.agg _=>true
 |_=>false
def AV.cells:AV→List AV
 |.agg cs=>cs
 |v=>[v]
def enc:(k:K)→k.T→List AV
 |.int ik,n=>[.int ik n]
 |.bool,b=>[.bool b]
 |.str,s=>[.str s]
 |.sl k,xs=>[.sl false k xs]
 |.mp kk vk,es=>[.mp kk vk es]
 |.pair a b,x=>enc a x.1++enc b x.2
 |.one k,x=>enc k x
def EH(ik:IntKind):List AV→Option (Int×List AV)
 |.int YS n::r=>if YS=ik then some (n,r) else none
 |_=>none
def zk:List AV→Option (Bool×List AV)
 |.bool b::r=>some (b,r)
 |_=>none
def EI:List AV→Option (ByteArray×List AV)
 |.str s::r=>some (s,r)
 |_=>none
def Le(k:K):List AV→Option (List k.T×List AV)
 |.sl _ k' xs::r=>if h:k'=k then some (h▸xs,r) else none
 |.fV::r=>some ([],r)
 |_=>none
def Lf(kk vk:K):List AV→Option (List (kk.T×vk.T)×List AV)
 |.mp Lg TS es::r=>if h:Lg=kk∧TS=vk then some (h.1▸h.2▸es,r) else none
 |_=>none
def dec:(k:K)→List AV→Option (k.T×List AV)
 |.int ik,cs=>EH ik cs
 |.bool,cs=>zk cs
 |.str,cs=>EI cs
 |.sl k,cs=>Le k cs
 |.mp kk vk,cs=>Lf kk vk cs
 |.pair a b,cs =>
  match dec a cs with
  |some (x,r)=>match dec b r with
   |some (y,r')=>some ((x,y),r')
   |none=>none
  |none=>none
 |.one k,cs=>dec k cs
def dG(k:K)(cs:List AV):Option k.T :=
 match dec k cs with
 |some (x,[])=>some x
 |_=>none
def cj:(k:K)→k.T→AV
 |.pair a b,x=>.agg (enc (.pair a b) x)
 |.one k,x=>.agg (enc (.one k) x)
 |.int ik,n=>.int ik n
 |.bool,b=>.bool b
 |.str,s=>.str s
 |.sl k,xs=>.sl false k xs
 |.mp kk vk,es=>.mp kk vk es
inductive OK where
 |row (ty:TypeId) (k:K)|map (kk vk:K)|iter (kk vk:K)|nP
 deriving DecidableEq
abbrev OK.T:OK→Type
 |.row _ k=>List k.T
 |.map kk vk=>List (kk.T×vk.T)
 |.iter kk vk=>Option (kk.T×vk.T)×List (kk.T×vk.T)
 |.nP=>ByteArray×Nat
inductive Ob where
 |box (ty:TypeId) (cs:List AV)
 |own (ok:OK) (x:ok.T)
abbrev Heap:=List (Nat×Ob)
def Heap.get:Heap→Nat→Option Ob
 |[],_=>none
 |(i,o)::r,n=>if i=n then some o else Heap.get r n
def Heap.del:Heap→Nat→Heap
 |[],_=>[]
 |(i,o)::r,n=>if i=n then Heap.del r n else(i,o)::Heap.del r n
def Heap.set(h:Heap)(n:Nat)(o:Ob):Heap:=(n,o)::h.del n
def cM(h:Heap):AV→AV
 |.bH id=>match h.get id with
  |some (.own (.row _ k) xs)=>.sl false k xs
  |some (.own (.map kk vk) es)=>.mp kk vk es
  |_=>.no
 |v=>v
def drop1(h:Heap):AV→Heap
 |.bH id=>h.del id
 |_=>h
def cI(h:Heap):List AV→Heap
 |[]=>h
 |c::r=>cI (drop1 h c) r
structure St where
 tmps:List (Nat×AV)
 heap:Heap
def look:List (Nat×AV)→Nat→AV
 |[],_=>.no
 |(i,v)::r,n=>if i=n then v else look r n
def St.put(s:St)(d:Option Tmp)(v:AV):St :=
 match d with
 |some d=>{ s with tmps:=(d,v)::s.tmps }
 |none=>s
def we:Value→AV
 |.bool b=>.bool b
 |.int k n=>.int k n
 |.string s=>.str s
 |.pointer a=>if a=none then .kX else .no
 |.slice a n c=>if a=none∧n=0∧c=0 then .fV else .no
 |.func fn first cap=>match fn with
  |.func f=>if first.size=0∧cap.size=0 then .fn f [] else .no
  |_=>.no
 |_=>.no
def tz(v:Value):AV :=
 match v with
 |.agg cs=>.agg (cs.toList.map we)
 |v=>we v
def ρ(s:List (Nat×AV)):Operand→AV
 |.tmp t=>look s t
 |.const v=>tz v
 |.global _=>.no
 |.func f=>.fn f []
inductive bI where
 |val (v:AV)
 |new (v:AV) (os:Heap)
 |wr (v:AV) (h:Heap)
def bI.v:bI→AV
 |.val v=>v
 |.new v _=>v
 |.wr v _=>v
def bI.h(h:Heap):bI→Heap
 |.val _=>h
 |.new _ os=>os++h
 |.wr _ h'=>h'
inductive CK where
 |val (k:K)
 |own (ok:OK)
inductive PK where
 |val (k:K)
 |ref
 |own
 |Gh (f:FuncId) (n:Nat)
 |agg (n:Nat)
inductive RK where
 |val (k:K)
 |own (ok:OK)
 |eV (b:Nat) (alts:List (Nat×Nat×Nat))
 |agg (c:List CK)
inductive BK where
 |box (ty:TypeId) (dt:List CK)
 |own (ok:OK)
def BK.dt:BK→List CK
 |.box _ c=>c
 |.own _=>[]
def CK.T:CK→Type
 |.val k=>k.T
 |.own ok=>ok.T
def qA:List CK→Type
 |[]=>Unit
 |c::r=>c.T×qA r
abbrev BK.T:BK→Type
 |.box _ c=>qA c
 |.own ok=>ok.T
def wg:List BK→Type
 |[]=>Unit
 |b::r=>b.T×wg r
def Gp:List K→Type
 |[]=>Unit
 |k::r=>k.T×Gp r
def RK.T:RK→Type
 |.val k=>k.T
 |.own ok=>ok.T
 |.eV _ alts=>Option (Fin alts.length×Nat)
 |.agg c=>qA c
def lG:List RK→Type
 |[]=>Unit
 |r::l=>r.T×lG l
def kN:List PK→List K
 |[]=>[]
 |.val k::r=>k::kN r
 |_::r=>kN r
structure aN where
 ps:List PK
 bs:List BK
 rs:List RK
 x:Option (Heap→Nat→List AV→Option (Bool×bI)):=none
abbrev aN.A(g:aN):Type:=Gp (kN g.ps)×wg g.bs
abbrev aN.B(g:aN):Type:=lG g.rs×wg g.bs
def RK.plain:RK→Bool
 |.val _=>true
 |.own ..=>true
 |.eV ..=>false
 |.agg c=>decide (c.length≤16)
def RK.flat:RK→Bool
 |.val k=>k.flat
 |.own ..=>false
 |.eV ..=>true
 |.agg _=>false
end Go.Vs
namespace Go.Vs
section
variable (P:Program)
def Jt:TypeDesc→Bool
 |.struct _=>true
 |.array _ _=>true
 |_=>false
def Dt(t:TypeId):Option Bool:=(P.underlying t).map Jt
def gV(t:TypeId)(f:Nat):Option (Nat×TypeId) :=
 match P.underlying t with
 |some (.struct fs)=>(fs[f]?).map fun x=>(x.offset,x.type)
 |_=>none
def xN(t:TypeId):Option TypeId :=
 match P.underlying t with
 |some (.slice e)=>some e
 |_=>none
def Ae(t:TypeId):Option (List AV):=(P.info? t).bind fun i=>i.zero.bind fun z=>if z.cells.toList.all (·.oneCell') then some (tz z).cells else none
def dY(t:TypeId)(cs:List AV):Option AV :=
 match Dt P t with
 |some true=>if P.cellsOf t≤cs.length then some (.agg (cs.take (P.cellsOf t))) else none
 |some false=>match cs with
  |c::_=>some c
  |[]=>none
 |none=>none
def dU{α:Type}(cs:List α):Nat→List α→List α
 |_,[]=>cs
 |off,v::r=>dU (cs.set off v) (off+1) r
def Du(place:Nat→Option (Nat×Nat))(cs:List AV):List (Nat×AV)→Option (List AV)
 |[]=>some cs
 |(i,v)::r =>
  match place i with
  |none=>none
  |some (off,size)=>if v.cells.length≠size∨off+v.cells.length>cs.length then none else Du place (dU cs off v.cells) r
def cU(op:BinOp)(k:IntKind)(a b:Int):Int :=
 k.wrap ((match op with
  |.and=>BitVec.ofInt k.bits a &&& BitVec.ofInt k.bits b
  |.or=>BitVec.ofInt k.bits a ||| BitVec.ofInt k.bits b
  |.xor=>BitVec.ofInt k.bits a ^^^ BitVec.ofInt k.bits b
  |_=>BitVec.ofInt k.bits a &&& ~~~(BitVec.ofInt k.bits b)).toNat:Int)
def Gq(k:IntKind)(a b:Int):Int:=k.wrap (a*2 ^ (min b.toNat k.bits))
def kY(k:IntKind)(a b:Int):Int:=a.fdiv (2 ^ (min b.toNat k.bits))
def WW(op:BinOp)(k:IntKind)(a b:Int):Option AV :=
 match op with
 |.add=>some (.int k (k.wrap (a+b)))
 |.sub=>some (.int k (k.wrap (a-b)))
 |.mul=>some (.int k (k.wrap (a*b)))
 |.eql=>some (.bool (a==b))
 |.neq=>some (.bool (a != b))
 |.lss=>some (.bool (decide (a<b)))
 |.leq=>some (.bool (decide (a≤b)))
 |.gtr=>some (.bool (decide (a>b)))
 |.geq=>some (.bool (decide (a≥b)))
 |.and=>some (.int k (cU .and k a b))
 |.or=>some (.int k (cU .or k a b))
 |.xor=>some (.int k (cU .xor k a b))
 |.andNot=>some (.int k (cU .andNot k a b))
 |_=>none
def Zm(op:BinOp)(a b:ByteArray):Option AV :=
 match op with
 |.eql=>some (.bool (a==b))
 |.neq=>some (.bool (!(a==b)))
 |_=>none
def rF:(k:K)→k.T→k.T→Bool
 |.int _,x,y=>(show Int from x)==y
 |.bool,x,y=>(show Bool from x)==y
 |.str,x,y=>(show ByteArray from x)==y
 |.sl _,_,_=>false
 |.mp _ _,_,_=>false
 |.pair a b,x,y=>rF a x.1 y.1&&rF b x.2 y.2
 |.one k,x,y=>rF k x y
def tB(kk:K){α:Type}(x:kk.T)(es:List (kk.T×α)):Option Nat:=es.findIdx? fun e=>rF kk x e.1
def jh(kk:K){α:Type}(x:kk.T)(es:List (kk.T×α)):Option α:=(tB kk x es).bind fun i=>(es[i]?).map (·.2)
def mB(kk:K){α:Type}(x:kk.T)(v:α)(es:List (kk.T×α)):List (kk.T×α):=match tB kk x es with
 |some i=>es.set i (x,v)
 |none=>es++[(x,v)]
def O5(kk:K){α:Type}(x:kk.T)(es:List (kk.T×α)):List (kk.T×α):=match tB kk x es with
 |some i=>es.eraseIdx i
 |none=>es
def nQ:(k:K)→k.T
 |.int _=>(0:Int)
 |.bool=>false
 |.str=>ByteArray.empty
 |.sl k=>([]:List k.T)
 |.pair a b=>(nQ a,nQ b)
 |.one k=>nQ k
 |.mp kk vk=>([]:List (kk.T×vk.T))
def O6:K→Value→Bool
 |.int ik,.int YS n=>decide (YS=ik∧n=0)
 |.bool,.bool b => !b
 |.str,.string s=>decide (s=ByteArray.empty)
 |.sl _,.slice a n c=>decide (a=none∧n=0∧c=0)
 |_,_=>false
def Lh(t:TypeId)(k:K):Bool:=match P.info? t with
 |some i=>match i.zero with
  |some z=>O6 k z
  |none=>false
 |none=>false
def Li(Eqs:TypeId→Option K)(t:TypeId)(k:K):Bool:=k.flat&&(match k,P.underlying t with
 |.int ik,some (.int YS)=>decide (YS=ik)
 |.bool,some .bool=>true
 |.str,some .string=>true
 |k,_=>k.isAgg&&decide (Eqs t=some k))
def mapOf(Eqs:TypeId→Option K)(t:TypeId):Option (K×K):=match P.underlying t with
 |some (.map a b)=>match qz P 8 a,qz P 8 b with
  |some kk,some vk=>if Li P Eqs a kk&&Lh P b vk then some (kk,vk) else none
  |_,_=>none
 |_=>none
def aY{α:Type}(xs:List α)(i:Int):Option α:=if 0≤i then xs[i.toNat]? else none
def fi:Nat:=1073741824
def aO(n m:Nat):Bool:=decide (n+m≤fi)
def nR(n:Nat)(lo hi:Option AV):Option (Int×Int) :=
 match lo,hi with
 |none,none=>some (0,(n:Int))
 |some (.int .i64 l),none=>some (l,(n:Int))
 |none,some (.int .i64 h)=>some (0,h)
 |some (.int .i64 l),some (.int .i64 h)=>some (l,h)
 |_,_=>none
def bj(n:Nat)(l h:Int):Bool:=decide (0≤l)&&(decide (l≤h)&&decide (h≤(n:Int)))
def cut{α:Type}(xs:List α)(l h:Int):List α:=(xs.take h.toNat).drop l.toNat
def WX(s:ByteArray)(l h:Int):ByteArray:=s.extract l.toNat h.toNat
variable {R:Type}
def fT(k:K)(h:Heap)(v:AV):Option k.T:=if k.isAgg=v.isAgg then dG k (v.cells.map (cM h)) else none
def rowOf(h:Heap)(v:AV)(k:K):Option (List k.T) :=
 match cM h v with
 |.sl _ k' xs=>if e:k'=k then some (e▸xs) else none
 |.fV=>some []
 |_=>none
def EJ(e:TypeId)(k:K):Bool :=
 match P.info? e with
 |some i=>(match i.zero with
  |some z=>decide (i.size=k.sz)&&(decide (z.cells.size=k.sz)&&decide (i.bytes≤65536))
  |none=>false)
 |none=>false
def nS(h:Heap)(id:Nat)(t:TypeId)(s x:AV)(K:bI→Option R):Option R :=
 match xN P t with
 |none=>none
 |some e =>
  match qz P 8 e with
  |none=>none
  |some kk =>
   match rowOf h x kk,EJ P e kk with
   |some ys,true =>
    match s with
    |.fV=>cond (aO 0 ys.length) (K (.new (.bH id) [(id,.own (.row e kk) ys)])) none
    |.bH cT =>
     match h.get cT with
     |some (.own (.row e' k') xs) =>
      if c:e'=e∧k'=kk then cond (aO xs.length ys.length) (K (.wr (.bH id) ((h.del cT).set id (.own (.row e kk) (c.2▸xs++ys))))) none else none
     |_=>none
    |.sl ex k' xs =>
     if c:k'=kk then cond (ex&&((!ys.isEmpty || xs.isEmpty)&&aO xs.length ys.length)) (K (.new (.bH id) [(id,.own (.row e kk) (c▸xs++ys))])) none else none
    |_=>none
   |_,_=>none
def wh:AV→Bool
 |.no=>false
 |.agg _=>false
 |.nh _=>false
 |_=>true
def Ju(id:Nat):List AV→Bool
 |[]=>true
 |.bH i::r => !(i==id)&&Ju id r
 |_::r=>Ju id r
def stored(h:Heap)(vs:List AV):List AV×Heap:=(vs.map (cM h),cI h vs)
def rG(h:Heap)(t:TypeId)(a v:AV)(K:bI→Option R):Option R :=
 if v.cells.length=P.cellsOf t∧(P.info? t).isSome∧v.cells.all wh then
  match a with
  |.ref id s i off =>
   match h.get id with
   |some (.box ty cs)=>if i=0∧off+v.cells.length≤cs.length then K (.wr .no (h.set id (.box ty (dU cs off v.cells)))) else none
   |some (.own (.row ty kk) xs) =>
    (xs[i]?).bind fun x =>
     if s=kk.sz∧off+v.cells.length≤kk.sz∧Ju id v.cells then
      match dG kk (dU (enc kk x) off (stored h v.cells).1) with
      |some y=>K (.wr .no ((stored h v.cells).2.set id (.own (.row ty kk) (xs.set i y))))
      |none=>none
     else none
   |_=>none
  |_=>none
 else none
def lH(h:Heap)(t:TypeId)(a:AV)(K:bI→Option R):Option R :=
 match a with
 |.ref id s i off =>
  match h.get id with
  |some (.box _ cs)=>if i=0 then(match dY P t (cs.drop off) with|some v=>K (.val v)|none=>none) else none
  |some (.own (.row _ kk) xs)=>if s=kk.sz then(xs[i]?).bind fun x=>match dY P t ((enc kk x).drop off) with|some v=>K (.val v)|none=>none else none
  |_=>none
 |.fp kk x off=>match dY P t ((enc kk x).drop off) with|some v=>K (.val v)|none=>none
 |_=>none
def dy(h:Heap)(t:TypeId)(x i:AV)(K:bI→Option R):Option R :=
 match xN P t with
 |none=>none
 |some e =>
  match x,i with
  |.sl _ kk xs,.int _ n=>if P.cellsOf e=kk.sz then(aY xs n).bind fun y=>K (.val (.fp kk y 0)) else none
  |.bH id,.int _ n =>
   match h.get id with
   |some (.own (.row _ kk) xs)=>if P.cellsOf e=kk.sz then cond (decide (0≤n)&&decide (n<(xs.length:Int))) (K (.val (.ref id kk.sz n.toNat 0))) none else none
   |_=>none
  |_,_=>none
def wi(x:AV)(lo hi mx:Option AV)(K:bI→Option R):Option R :=
 match x,mx with
 |.str s,none =>
  match nR s.size lo hi with
  |some (l,u)=>cond (bj s.size l u) (K (.val (.str (WX s l u)))) none
  |none=>none
 |_,_=>none
def oV(_:Heap)(sz:Nat)(x:AV)(lo hi mx:Option AV)(K:bI→Option R):Option R :=
 match x with
 |.fV =>
  match nR 0 lo hi,mx with
  |some (l,u),none=>cond (bj 0 l u) (K (.val .fV)) none
  |_,_=>none
 |.sl _ kk xs =>
  if sz=kk.sz then
   match nR xs.length lo hi with
   |some (l,u) =>
    match mx with
    |none=>cond (bj xs.length l u) (K (.val (.sl false kk (cut xs l u)))) none
    |some (.int .i64 m)=>cond (bj xs.length l u&&(hi.isSome&&decide (m=u))) (K (.val (.sl true kk (cut xs l u)))) none
    |_=>none
   |none=>none
  else none
 |_=>none
def WY(t:TypeId)(x:AV):Bool :=
 match P.underlying t,x with
 |some .string,.str _=>true
 |some (.slice _),.str _=>false
 |some (.slice _),_=>true
 |_,_=>false
def Jv(t:TypeId):Bool :=
 match P.underlying t with
 |some (.map _ _)=>true
 |_=>false
def Dv(h:Heap)(x:AV)(K:bI→Option R):Option R :=
 match cM h x with
 |.str s=>K (.val (.int .i64 (s.size:Int)))
 |.sl _ _ xs=>K (.val (.int .i64 (xs.length:Int)))
 |.fV=>K (.val (.int .i64 0))
 |_=>none
def wj(h:Heap)(x:AV)(K:bI→Option R):Option R :=
 match cM h x with
 |.mp _ _ es=>K (.val (.int .i64 (es.length:Int)))
 |_=>none
def ln(Eqs:TypeId→Option K)(id:Nat)(t:TypeId)(K:bI→Option R):Option R :=
 match mapOf P Eqs t with
 |some (kk,vk)=>K (.new (.bH id) [(id,.own (.map kk vk) [])])
 |none=>none
def nT(Eqs:TypeId→Option K)(h:Heap)(t:TypeId)(m i:AV)(ok:Bool)(K:bI→Option R):Option R :=
 match mapOf P Eqs t,cM h m with
 |some (kk,vk),.mp Lg TS es =>
  if c:Lg=kk∧TS=vk then
   match fT kk h i with
   |some x=>K (.val (cond ok (.nh [cj vk ((jh kk x (c.1▸c.2▸es:List (kk.T×vk.T))).getD (nQ vk)),.bool (jh kk x (c.1▸c.2▸es:List (kk.T×vk.T))).isSome]) (cj vk ((jh kk x (c.1▸c.2▸es:List (kk.T×vk.T))).getD (nQ vk)))))
   |none=>none
  else none
 |_,_=>none
def iH(Eqs:TypeId→Option K)(h:Heap)(t:TypeId)(m i v:AV)(K:bI→Option R):Option R :=
 match mapOf P Eqs t,m with
 |some (kk,vk),.bH id =>
  match h.get id with
  |some (.own (.map Lg TS) es) =>
   if c:Lg=kk∧TS=vk then
    match fT kk h i,fT vk h v,(v.cells.all fun c=>match c with | .bH j => !(j==id)|_=>true) with
    |some x,some y,true=>K (.wr (.nh []) ((cI h v.cells).set id (.own (.map kk vk) (mB kk x y (c.1▸c.2▸es:List (kk.T×vk.T))))))
    |_,_,_=>none
   else none
  |_=>none
 |_,_=>none
def nV(Eqs:TypeId→Option K)(h:Heap)(t:TypeId)(m i:AV)(K:bI→Option R):Option R :=
 match mapOf P Eqs t,m with
 |some (kk,vk),.bH id =>
  match h.get id with
  |some (.own (.map Lg TS) es) =>
   if c:Lg=kk∧TS=vk then
    match fT kk h i with
    |some x=>K (.wr (.nh []) (h.set id (.own (.map kk vk) (O5 kk x (c.1▸c.2▸es:List (kk.T×vk.T))))))
    |none=>none
   else none
  |_=>none
 |_,_=>none
def nW(id:Nat)(t:TypeId)(x:AV)(K:bI→Option R):Option R :=
 match P.underlying t,x with
 |some .string,.str s=>K (.new (.bH id) [(id,.own .nP (s,0))])
 |_,_=>none
def oW(s:ByteArray)(p:Nat):Int:=(Utf8.decode s p).1
def Af(s:ByteArray)(p:Nat):Nat:=(Utf8.decode s p).2
def rH(h:Heap)(x:AV)(K:bI→Option R):Option R :=
 match x with
 |.bH id=>match h.get id with
  |some (.own .nP x)=>cond (decide (x.2<x.1.size)) (K (.wr (.nh [.bool true,.int .i64 (x.2:Int),.int .i32 (oW x.1 x.2)]) (h.set id (.own .nP (x.1,x.2+Af x.1 x.2))))) (K (.val (.nh [.bool false])))
  |_=>none
 |_=>none
def rI(h:Heap)(x:AV)(K:bI→Option R):Option R :=
 match x with
 |.bH id=>match h.get id with
  |some (.own (.iter kk vk) (some c,_))=>K (.val (.nh [cj kk c.1,cj vk c.2]))
  |_=>none
 |_=>none
def EK:TypeDesc→Bool
 |.bool=>true
 |_=>false
def wm:TypeDesc→Bool
 |.pointer _=>true
 |_=>false
def xO(Eqs:TypeId→Option K)(op:BinOp)(t:TypeId)(x y:AV)(K:bI→Option R):Option R :=
 match x,y with
 |.int k a,.int k' b =>
  match op with
  |.shl=>cond (decide (b<0)) none (K (.val (.int k (Gq k a b))))
  |.shr=>cond (decide (b<0)) none (K (.val (.int k (kY k a b))))
  |op =>
  if k=k' then
   match op with
   |.quo=>cond (b==0) none (K (.val (.int k (k.wrap (a.tdiv b)))))
   |.rem=>cond (b==0) none (K (.val (.int k (a.tmod b))))
   |op=>match WW op k a b with
    |some v=>K (.val v)
    |none=>none
  else none
 |.str a,.str b=>match Zm op a b with
  |some v=>K (.val v)
  |none=>none
 |.bool a,.bool b =>
  match op,(P.underlying t).map EK with
  |.eql,some true=>K (.val (.bool (a==b)))
  |.neq,some true=>K (.val (.bool (!(a==b))))
  |_,_=>none
 |.agg a,.agg b =>
  match Eqs t with
  |none=>none
  |some k =>
   match op,dG k a,dG k b with
   |.eql,some x,some y=>K (.val (.bool (rF k x y)))
   |.neq,some x,some y=>K (.val (.bool (!(rF k x y))))
   |_,_,_=>none
 |.kX,.kX =>
  match op,(P.underlying t).map wm with
  |.eql,some true=>K (.val (.bool true))
  |.neq,some true=>K (.val (.bool false))
  |_,_=>none
 |.ref ..,.kX =>
  match op,(P.underlying t).map wm with
  |.eql,some true=>K (.val (.bool false))
  |.neq,some true=>K (.val (.bool true))
  |_,_=>none
 |_,_=>none
def VF(b:Bool)(x y:AV):AV :=
 match x,y with
 |.bool p,.bool q=>.bool (cond b p q)
 |x,y=>cond b x y
end
def dS(h:Heap)(ok:OK)(c:AV):Option ok.T :=
 match c with
 |.fV=>match ok with
  |.row _ _=>some []
  |_=>none
 |.bH id=>match h.get id with
  |some (.own YT x)=>if e:YT=ok then some (e▸x) else none
  |_=>none
 |_=>none
def oX:AV→List Nat
 |.bH id=>[id]
 |_=>[]
def cO:(dt:List CK)→Heap→List AV→Option (qA dt)
 |[],_,[]=>some ()
 |.val k::r,h,cs =>
  match dG k ((cs.take k.sz).map (cM h)),cO r h (cs.drop k.sz) with
  |some x,some y=>some (x,y)
  |_,_=>none
 |.own ok::r,h,c::cs =>
  match dS h ok c,cO r h cs with
  |some x,some y=>some (x,y)
  |_,_=>none
 |_,_,_=>none
def qe:List CK→List AV→List AV
 |.val k::r,cs=>cs.take k.sz++qe r (cs.drop k.sz)
 |.own _::r,_::cs=>qe r cs
 |_,_=>[]
def fP:List CK→List AV→List Nat
 |.val k::r,cs=>fP r (cs.drop k.sz)
 |.own _::r,c::cs=>oX c++fP r cs
 |_,_=>[]
def aD:(dt:List CK)→Nat→qA dt→List AV
 |[],_,_=>[]
 |.val k::r,n,x=>enc k x.1++aD r (n+1) x.2
 |.own _::r,n,x=>.bH n::aD r (n+1) x.2
def bg:(dt:List CK)→Nat→qA dt→Heap
 |[],_,_=>[]
 |.val _::r,n,x=>bg r (n+1) x.2
 |.own ok::r,n,x=>(n,.own ok x.1)::bg r (n+1) x.2
def Dx(h:Heap)(id:Nat)(ty:TypeId):Option (List AV) :=
 match h.get id with
 |some (.box yS cs)=>if yS=ty then some cs else none
 |_=>none
def qf:(b:BK)→Heap→Nat→Option b.T
 |.box ty c,h,i=>match Dx h i ty with
  |some cs=>cO c h cs
  |none=>none
 |.own ok,h,i=>dS h ok (.bH i)
def c7:(bs:List BK)→Heap→List Nat→Option (wg bs)
 |[],_,[]=>some ()
 |b::r,h,i::is =>
  match qf b h i,c7 r h is with
  |some x,some y=>some (x,y)
  |_,_=>none
 |_,_,_=>none
def ji:(b:BK)→Nat→Nat→b.T→Heap
 |.box ty c,i,n,x=>(i,.box ty (aD c n x))::bg c n x
 |.own ok,i,_,x=>[(i,.own ok x)]
def bA:(bs:List BK)→List Nat→Nat→wg bs→Heap
 |b::r,i::is,n,x=>ji b i n x.1++bA r is (n+16) x.2
 |_,_,_,_=>[]
def Ag:BK→Heap→Nat→List AV
 |.box _ c,h,i=>match h.get i with
  |some (.box _ cs)=>qe c cs
  |_=>[]
 |.own _,_,_=>[]
def fW:List BK→Heap→List Nat→List AV
 |b::r,h,i::is=>Ag b h i++fW r h is
 |_,_,_=>[]
def j6:BK→Heap→Nat→List Nat
 |.box _ c,h,i=>i::(match h.get i with
  |some (.box _ cs)=>fP c cs
  |_=>[])
 |.own _,_,i=>[i]
def c8:List BK→Heap→List Nat→List Nat
 |b::r,h,i::is=>j6 b h i++c8 r h is
 |_,_,_=>[]
def gW(h:Heap):List Nat→Heap
 |[]=>h
 |i::r=>gW (h.del i) r
def Dy:AV→Option Nat
 |.ref id _ 0 0=>some id
 |_=>none
def jJ:List AV→Option (List Nat)
 |[]=>some []
 |v::r=>match Dy v,jJ r with
  |some i,some is=>some (i::is)
  |_,_=>none
def oY:List AV→Option (List Nat)
 |[]=>some []
 |.bH i::r=>match oY r with
  |some is=>some (i::is)
  |none=>none
 |_=>none
def cF:List PK→List AV→Option (List Nat)
 |[],[]=>some []
 |.val _::ps,_::vs=>cF ps vs
 |.ref::ps,v::vs=>match Dy v,cF ps vs with
  |some i,some is=>some (i::is)
  |_,_=>none
 |.own::ps,.bH i::vs=>match cF ps vs with
  |some is=>some (i::is)
  |none=>none
 |.Gh f n::ps,.fn f' cap::vs =>
  if f'=f∧cap.length=n then match jJ cap,cF ps vs with
   |some a,some b=>some (a++b)
   |_,_=>none
  else none
 |.agg n::ps,.agg cs::vs =>
  if cs.length=n then match oY cs,cF ps vs with
   |some a,some b=>some (a++b)
   |_,_=>none
  else none
 |_,_=>none
def eQ:(ps:List PK)→Heap→List AV→Option (Gp (kN ps))
 |[],_,[]=>some ()
 |.val k::ps,h,v::vs =>
  match fT k h v,eQ ps h vs with
  |some x,some y=>some (x,y)
  |_,_=>none
 |.ref::ps,h,_::vs=>eQ ps h vs
 |.own::ps,h,_::vs=>eQ ps h vs
 |.Gh _ _::ps,h,_::vs=>eQ ps h vs
 |.agg _::ps,h,_::vs=>eQ ps h vs
 |_,_,_=>none
def dq:List PK→List AV→List AV
 |.val _::ps,v::vs=>v.cells++dq ps vs
 |_::ps,_::vs=>dq ps vs
 |_,_=>[]
def aU:(ps:List PK)→(ids:List Nat)→Nat→Gp (kN ps)→List (Nat×AV)
 |[],_,_,_=>[]
 |.val k::ps,ids,s,x=>(s,cj k x.1)::aU ps ids (s+1) x.2
 |.ref::ps,i::ids,s,x=>(s,.ref i 0 0 0)::aU ps ids (s+1) x
 |.ref::ps,[],s,x=>(s,.no)::aU ps [] (s+1) x
 |.own::ps,i::ids,s,x=>(s,.bH i)::aU ps ids (s+1) x
 |.own::ps,[],s,x=>(s,.no)::aU ps [] (s+1) x
 |.Gh f n::ps,ids,s,x=>(s,.fn f ((ids.take n).map fun i=>.ref i 0 0 0))::aU ps (ids.drop n) (s+1) x
 |.agg n::ps,ids,s,x=>(s,.agg ((ids.take n).map .bH))::aU ps (ids.drop n) (s+1) x
def mI:List CK→Nat→Nat
 |.val k::r,c+1=>k.sz+mI r c
 |.own _::r,c+1=>1+mI r c
 |_,_=>0
def fU:List CK→Nat→Bool
 |.own (.row _ _)::_,0=>true
 |_::r,c+1=>fU r c
 |_,_=>false
def O7(id:Nat):Option AV→Bool
 |some (.bH mC)=>mC==id
 |_=>false
def xQ(c:List CK)(cs:List AV)(id s off:Nat)(a:Nat×Nat×Nat):Bool :=
 O7 id (cs[mI c a.1]?)&&(decide (s=a.2.1)&&(decide (off=a.2.2)&&fU c a.1))
def ni(bs:List BK)(h:Heap)(ids:List Nat)(b:Nat)(alts:List (Nat×Nat×Nat))(v:AV):Option (Option (Fin alts.length×Nat)) :=
 match v with
 |.kX=>some none
 |.ref id s i off =>
  (match ids[b]?,bs[b]? with
  |some bi,some bk=>(match h.get bi with
   |some (.box _ cs)=>(match (List.finRange alts.length).find? (fun a=>xQ bk.dt cs id s off (alts.get a)) with
    |some a=>some (some (a,i))
    |none=>none)
   |_=>none)
  |_,_=>none)
 |_=>none
def Ah(c:List CK)(h:Heap)(v:AV):Option (qA c) :=
 match v with
 |.agg cs=>cO c h cs
 |_=>none
def bJ(bs:List BK):(rs:List RK)→Heap→List Nat→List AV→Option (lG rs)
 |[],_,_,[]=>some ()
 |.val k::r,h,ids,v::vs =>
  match fT k h v,bJ bs r h ids vs with
  |some x,some y=>some (x,y)
  |_,_=>none
 |.own ok::r,h,ids,v::vs =>
  match dS h ok v,bJ bs r h ids vs with
  |some x,some y=>some (x,y)
  |_,_=>none
 |.eV b alts::r,h,ids,v::vs =>
  match ni bs h ids b alts v,bJ bs r h ids vs with
  |some x,some y=>some (x,y)
  |_,_=>none
 |.agg c::r,h,ids,v::vs =>
  match Ah c h v,bJ bs r h ids vs with
  |some x,some y=>some (x,y)
  |_,_=>none
 |_,_,_,_=>none
def fX:List RK→List AV→List AV
 |.val _::r,v::vs=>v.cells++fX r vs
 |.agg c::r,v::vs=>qe c v.cells++fX r vs
 |_::r,_::vs=>fX r vs
 |_,_=>[]
def dO:List RK→List AV→List Nat
 |.own _::r,v::vs=>oX v++dO r vs
 |.agg c::r,v::vs=>fP c v.cells++dO r vs
 |_::r,_::vs=>dO r vs
 |_,_=>[]
def uA(b n:Nat)(alts:List (Nat×Nat×Nat)):Option (Fin alts.length×Nat)→AV
 |none=>.kX
 |some (a,i)=>.ref (n+16*b+(alts.get a).1) (alts.get a).2.1 i (alts.get a).2.2
def aW:(rs:List RK)→(ids:List Nat)→(n m:Nat)→lG rs→List AV
 |[],_,_,_,_=>[]
 |.val k::r,ids,n,m,x=>cj k x.1::aW r ids n (m+1) x.2
 |.agg c::r,ids,n,m,x=>.agg (aD c m x.1)::aW r ids n (m+1) x.2
 |.own _::r,ids,n,m,x=>.bH m::aW r ids n (m+1) x.2
 |.eV b alts::r,ids,n,m,x=>uA b n alts x.1::aW r ids n (m+1) x.2
def ak:(rs:List RK)→(m:Nat)→lG rs→Heap
 |[],_,_=>[]
 |.own ok::r,m,x=>(m,.own ok x.1)::ak r (m+1) x.2
 |.agg c::r,m,x=>bg c m x.1++ak r (m+1) x.2
 |.val _::r,m,x=>ak r (m+1) x.2
 |.eV _ _::r,m,x=>ak r (m+1) x.2
def fe:List AV→AV
 |[v]=>v
 |vs=>.nh vs
def ck:List CK→Nat→List Nat
 |[],_=>[]
 |.val _::r,n=>ck r (n+1)
 |.own _::r,n=>n::ck r (n+1)
def bZ:List BK→List Nat→Nat→List Nat
 |b::r,i::is,n=>i::(ck b.dt n++bZ r is (n+16))
 |_,_,_=>[]
def bB:List RK→Nat→List Nat
 |[],_=>[]
 |.own _::r,m=>m::bB r (m+1)
 |.agg c::r,m=>ck c m++bB r (m+1)
 |.val _::r,m=>bB r (m+1)
 |.eV _ _::r,m=>bB r (m+1)
def aP(n:Nat):List Nat:=(List.range n).map fun i=>1000+20*i
def qB(g:aN):List Nat:=bZ g.bs (aP g.bs.length) 2000++bB g.rs 3000
def Gs:List AV→Bool
 |[]=>true
 |.bH _::_=>false
 |_::r=>Gs r
def qC:List AV→Bool
 |[]=>true
 |v::r=>Gs v.cells&&qC r
def cc:List Nat→Bool
 |[]=>true
 |i::r => !(r.contains i)&&cc r
def wo(kept:List Nat)(kL:List AV):Bool:=cc kept&&kept.all fun i=>Ju i kL
section
variable (P:Program) (Eqs:TypeId→Option K) (Sg:FuncId→Option aN) (F:(f:FuncId)→(g:aN)→g.A→Option g.B)
variable {R:Type}
def tC(f:FuncId):List AV→FuncId
 |[]=>f
 |.fn g _::_=>f+1000*(g+1)
 |_::r=>tC f r
def Ai:List AV→Bool
 |[]=>false
 |.bH _::_=>true
 |.agg cs::r=>(cs.any fun c=>match c with | .bH _=>true|_=>false) || Ai r
 |_::r=>Ai r
def keyOf(f:FuncId)(vs:List AV):FuncId:=if Ai vs&&(Sg (tC f vs+500000)).isSome then tC f vs+500000 else tC f vs
def CW(bs:List BK)(r:RK):Bool:=match r with
 |.eV b alts=>match bs[b]? with
  |some bk=>(alts.all fun a=>fU bk.dt a.1)&&decide ((alts.map fun a=>(a.1,a.2.2)).Nodup)
  |none=>false
 |.agg c=>decide (c.length≤16)
 |_=>true
def qD(bs:List BK)(rs:List RK):Bool:=rs.all (CW bs)
def O8(f:FuncId)(g:aN):Bool:=qD g.bs g.rs&&( (decide (g.bs.length≤8)&&(g.bs.all fun b=>decide (b.dt.length≤16)))&&((decide (g.rs.length≤100)&&decide (f<1000))&&cc (qB g)))
def qE{α R:Type}(o:Option α)(a:Option R)(f:α→Option R):Option R:=match o with
 |none=>a
 |some x=>f x
def Zn{R:Type}(n:Nat)(a:Fin n)(f:Fin n→Option R):Option R:=(List.finRange n).foldr (fun j r=>cond (a.val==j.val) (f j) r) none
def jK{R:Type}:(rs:List RK)→lG rs→(lG rs→Option R)→Option R
 |[],_,K=>K ()
 |.eV _ alts::r,x,K=>qE x.1 (jK r x.2 fun z=>K (none,z)) (fun p=>Zn alts.length p.1 fun a=>jK r x.2 fun z=>K (some (a,p.2),z))
 |.val _::r,x,K=>jK r x.2 fun z=>K (x.1,z)
 |.own _::r,x,K=>jK r x.2 fun z=>K (x.1,z)
 |.agg _::r,x,K=>jK r x.2 fun z=>K (x.1,z)
def jk(h:Heap)(id:Nat)(f:FuncId)(vs:List AV)(K:bI→Option R):Option R :=
 match Sg (keyOf Sg f vs) with
 |none=>none
 |some g=>match g.x with
 |some u=>if f<1000 then(u h id vs).bind fun p=>cond p.1 (K p.2) none else none
 |none =>
  match cF g.ps vs,O8 f g with
  |some is,true =>
   if is.isEmpty&&g.rs.all RK.plain then
   match eQ g.ps h vs,c7 g.bs h [],g.rs.all RK.plain with
   |some x,some b,true =>
    (F (keyOf Sg f vs) g (x,b)).bind fun y =>
     cond (g.rs.all RK.flat || qC vs)
      (K (.new (fe (aW g.rs [] id (id+128) y.1)) (ak g.rs (id+128) y.1)))
      (K (.wr (fe (aW g.rs [] id (id+128) y.1)) (ak g.rs (id+128) y.1++cI h (dq g.ps vs))))
   |_,_,_=>none
   else
   match eQ g.ps h vs,c7 g.bs h is,wo (c8 g.bs h is) (dq g.ps vs++fW g.bs h is)&&cc (bZ g.bs is id++bB g.rs (id+128)) with
   |some x,some b,true =>
    (F (keyOf Sg f vs) g (x,b)).bind fun y=>jK g.rs y.1 fun z =>
     K (.wr (fe (aW g.rs is id (id+128) z))
      (bA g.bs is id y.2++(ak g.rs (id+128) z++gW (cI h (dq g.ps vs++fW g.bs h is)) (c8 g.bs h is))))
   |_,_,_=>none
  |_,_=>none
def qF{α:Type}(xs:List α)(i:Int)(ys:List α):Bool:=decide (0≤i)&&(decide (i≤xs.length)&&(decide (ys.length=1)&&aO xs.length ys.length))
def fY{α:Type}(xs:List α)(i:Int)(ys:List α):List α:=xs.take i.toNat++(ys++xs.drop i.toNat)
def jC{α:Type}(xs:List α)(i j:Int):Bool:=decide (0≤i)&&(decide (i<j)&&(decide (j≤xs.length)&&aO xs.length 0))
def du{α:Type}(xs:List α)(i j:Int):List α:=xs.take i.toNat++xs.drop j.toNat
def qG(n:Int):Bool:=decide (0≤n)&&decide (n≤fi)
def O9(ty:TypeId)(k:K)(h:Heap)(id:Nat):List AV→Option (Bool×bI)
 |[.bH o,.int .i64 i,.bH j]=>match dS h (.row ty k) (.bH o),dS h (.row ty k) (.bH j) with
  |some xs,some ys=>if o=j then none else some (qF xs i ys,.wr (.bH id) ((id,.own (.row ty k) (fY xs i ys))::h.del o))
  |_,_=>none
 |_=>none
def TT(ty:TypeId)(k:K)(h:Heap)(id:Nat):List AV→Option (Bool×bI)
 |[.bH o,.int .i64 i,.int .i64 j]=>match dS h (.row ty k) (.bH o) with
  |some xs=>some (jC xs i j,.wr (.bH id) ((id,.own (.row ty k) (du xs i j))::h.del o))
  |none=>none
 |_=>none
def Lj(ty:TypeId)(k:K)(_:Heap)(id:Nat):List AV→Option (Bool×bI)
 |[.fV,.int .i64 n]=>some (qG n,.new (.bH id) [(id,.own (.row ty k) [])])
 |_=>none
def wq(id:Nat)(t:TypeId)(vs:List AV)(K:bI→Option R):Option R :=
 K (.new (.ref id vs.length 0 0) [(id,.box t vs)])
def VG:AV→Bool
 |.no=>false
 |_=>true
def rJ(t:TypeId)(parts:List (Nat×AV))(K:bI→Option R):Option R :=
 match Ae P t,P.underlying t with
 |some z,some (.struct fs) =>
  match Du (fun i=>(fs[i]?).map fun f=>(f.offset,P.cellsOf f.type)) z parts,fs.toList.all (fun f=>(P.info? f.type).isSome)&&parts.all (fun p=>VG p.2) with
  |some cs,true=>K (.val (.agg cs))
  |_,_=>none
 |_,_=>none
def qH(k:K)(h:Heap):Nat→List (Nat×AV)→Option (List k.T)
 |_,[]=>some []
 |i,(j,v)::r =>
  if j=i then match dG k (v.cells.map (cM h)),qH k h (i+1) r with
   |some x,some xs=>some (x::xs)
   |_,_=>none
  else none
def uB(h:Heap)(id:Nat)(t:TypeId)(n:Nat)(parts:List (Nat×AV))(K:bI→Option R):Option R :=
 match xN P t with
 |none=>none
 |some e =>
  match qz P 8 e with
  |none=>none
  |some k =>
   match qH k h 0 parts,EJ P e k with
   |none,_=>none
   |some _,false=>none
   |some xs,true =>
    if parts.length=n∧n*k.sz≤1048576 then
     cond (qC (parts.map (·.2))) (K (.new (.bH id) [(id,.own (.row e k) xs)])) (K (.wr (.bH id) ((id,.own (.row e k) xs)::cI h (parts.flatMap (·.2.cells)))))
    else none
def TU:bI→bI
 |.new (.bH _) [(_,.own (.row _ k) xs)]=>.new (.sl true k xs) []
 |e=>e
def wu(kL:Bool)(h:Heap)(id:Nat)(t:TypeId)(n:Nat)(parts:List (Nat×AV))(K:bI→Option R):Option R :=
 uB P h id t n parts fun e=>K (if kL then TU e else e)
def Aj(src dst:TypeId)(x:AV)(K:bI→Option R):Option R :=
 match P.underlying src,P.underlying dst,x with
 |some (.int _),some (.int k),.int _ n=>K (.val (.int k (k.wrap n)))
 |some .string,some .string,.str s=>K (.val (.str s))
 |_,_,_=>none
def MK(mx:Bool)(vs:List AV)(K:bI→Option R):Option R :=
 match vs with
 |[.int k a,.int k' b]=>if k=k' then K (.val (.int k (cond mx (max a b) (min a b)))) else none
 |_=>none
def VH(t id:Nat):Bool:=(Sg (900000+t)).isSome&&(Sg (2000003+1000*(id / 256-128))).isSome
def cV(id:Nat)(h:Heap)(s:List (Nat×AV))(o:Oper)(K:bI→Option R):Option R :=
 match o.op with
 |.move x | .assign x=>K (.val (ρ s x))
 |.pick c a b=>match ρ s c with
  |.bool t=>K (.val (VF t (ρ s a) (ρ s b)))
  |_=>none
 |.box t x=>if(ρ s x).cells.all wh then wq id t (ρ s x).cells K else none
 |.alloc t=>match Ae P t with
  |some z=>wq id t z K
  |none=>none
 |.build t ps=>rJ P t (ps.toList.map fun p=>(p.1,ρ s p.2)) K
 |.buildSlice t n ps=>wu P (VH Sg t id) h id t n (ps.toList.map fun p=>(p.1,ρ s p.2)) K
 |.load t a=>lH P h t (ρ s a) K
 |.store t a v=>rG P h t (ρ s a) (ρ s v) K
 |.nilCheck x=>match ρ s x with
  |.ref id s i off=>K (.val (.ref id s i off))
  |.fp k x off=>K (.val (.fp k x off))
  |.fn f cap=>K (.val (.fn f cap))
  |_=>none
 |.binOp op t x y _=>xO P Eqs op t (ρ s x) (ρ s y) K
 |.unOp .not _ x=>match ρ s x with
  |.bool b=>K (.val (.bool (!b)))
  |_=>none
 |.convert src dst x=>Aj P src dst (ρ s x) K
 |.makeFunc (.func f) first cap=>if first.size=0 then K (.val (.fn f (cap.toList.map (ρ s)))) else none
 |.slice t x lo hi mx=>match P.underlying t with
  |some .string=>wi (ρ s x) (lo.map (ρ s)) (hi.map (ρ s)) (mx.map (ρ s)) K
  |some (.slice e)=>if(P.info? e).isSome then oV h (P.cellsOf e) (ρ s x) (lo.map (ρ s)) (hi.map (ρ s)) (mx.map (ρ s)) K else none
  |_=>none
 |.fieldAddr t x f=>match gV P t f,ρ s x with
  |some (n,ft),.ref id s i off=>if P.cellsOf ft=0 then none else K (.val (.ref id s i (off+n)))
  |some (n,ft),.fp k x off=>if P.cellsOf ft=0 then none else K (.val (.fp k x (off+n)))
  |_,_=>none
 |.field t x f=>match gV P t f,ρ s x with
  |some (n,ft),.agg cs=>match dY P ft (cs.drop n) with
   |some v=>K (.val v)
   |none=>none
  |_,_=>none
 |.indexAddr t x i=>dy P h t (ρ s x) (ρ s i) K
 |.index t x i=>match P.underlying t,ρ s x,ρ s i with
  |some .string,.str b,.int _ n=>(if 0≤n then b[n.toNat]? else none).bind fun c=>K (.val (.int .u8 (c.toNat:Int)))
  |_,_,_=>none
 |.makeMap t none=>ln P Eqs id t K
 |.lookup t m i ok=>nT P Eqs h t (ρ s m) (ρ s i) ok K
 |.mapUpdate t m i v=>iH P Eqs h t (ρ s m) (ρ s i) (ρ s v) K
 |.range t x=>nW P id t (ρ s x) K
 |.next x true=>rH h (ρ s x) K
 |.entry x=>rI h (ρ s x) K
 |.extract t i=>match ρ s t with
  |.nh vs=>match vs[i]? with
   |some v=>K (.val v)
   |none=>none
  |_=>none
 |.call c =>
  match c.callee with
  |.value f=>match ρ s f with
   |.fn f cap=>jk Sg F h id f (c.args.toList.map (ρ s)++cap) K
   |_=>none
  |.builtin .len=>match c.args.toList,c.argTypes.toList with
   |[x],[t]=>if Jv P t then wj h (ρ s x) K else if WY P t (ρ s x) then Dv h (ρ s x) K else none
   |_,_=>none
  |.builtin .append=>match c.args.toList,c.argTypes.toList with
   |[x,y],[t,t']=>if t'=t then nS P h id t (ρ s x) (ρ s y) K else none
   |_,_=>none
  |.builtin .delete=>match c.args.toList,c.argTypes.toList with
   |[m,x],t::_=>nV P Eqs h t (ρ s m) (ρ s x) K
   |_,_=>none
  |.builtin .max=>MK true (c.args.toList.map (ρ s)) K
  |.builtin .min=>MK false (c.args.toList.map (ρ s)) K
  |_=>none
 |_=>none
def nj:Op→Bool
 |.move _ | .assign _ | .extract .. | .unOp .. | .pick .. | .fieldAddr .. | .nilCheck _ | .makeFunc .. | .build .. | .slice ..=>true
 |.binOp op ..=>match op with
  |.eql | .neq=>false
  |_=>true
 |_=>false
def makes:Op→Bool
 |.box .. | .alloc _ | .buildSlice .. | .makeMap .. | .range ..=>true
 |.call c=>match c.callee with
  |.builtin .append | .value _=>true
  |_=>false
 |_=>false
def opId(rid i:Nat):Nat:=((rid+1)*128+i)*256
def uC(ops:Array Oper)(b:Array Nat):Bool :=
 (List.range ops.size).all fun i=>match ops[i]? with
  |some o=>(o.after.toList.all fun e => !Region.binds .any e || decide (e.on<i)) &&
   b.getD i 0==o.after.toList.foldl (fun s e=>if Region.binds .any e then s ||| 2 ^ e.on ||| b.getD e.on 0 else s) 0
  |none=>false
def Ak(ops:Array Oper)(b:Array Nat):Bool :=
 (List.range ops.size).all fun j=>(List.range j).all fun i =>
  (b.getD j 0).testBit i || (match ops[i]?,ops[j]? with
   |some x,some y=>x.apart ops y
   |_,_=>false)
def jl:Op→Option Operand
 |.load _ x=>some x
 |.indexAddr _ x _=>some x
 |_=>none
def EL:Op→Bool
 |.store ..=>true
 |.call c=>match c.callee with
  |.value _=>true
  |_=>false
 |_=>false
def uD(ops:Array Oper)(i j:Nat):Bool :=
 match (ops[j]?).bind (jl ·.op) with
 |some (.tmp d)=>(List.range ops.size).all fun m => !(decide (min i j≤m)&&decide (m<max i j)) || (match (ops[m]?).bind (·.dst) with|some d'=>d' != d|none=>true)
 |some _=>true
 |none=>false
def uE:AV→List Nat
 |.ref id _ _ _=>[id]
 |.bH id=>[id]
 |_=>[]
def WZ(ops:Array Oper)(b:Array Nat)(i:Nat)(tmps:List (Nat×AV)):List Nat :=
 (List.range ops.size).flatMap fun j=>if j==i || (b.getD j 0).testBit i || (b.getD i 0).testBit j then[] else match (ops[j]?).bind (jl ·.op) with
  |some x=>uE (ρ tmps x)
  |none=>[]
def gX(ops:Array Oper)(b:Array Nat)(i:Nat)(tmps:List (Nat×AV))(o:Oper):List Nat:=if EL o.op then WZ ops b i tmps else[]
def Jw(ops:Array Oper)(b:Array Nat)(i:Nat):Bool :=
 (List.range ops.size).all fun j =>
  j==i || (b.getD j 0).testBit i || (b.getD i 0).testBit j || (match ops[j]? with|some o=>nj o.op|none=>true) || ((match ops[i]? with|some o=>EL o.op|none=>false)&&uD ops i j)
def ahead(rid:Nat)(Jx:Nat)(h:Heap):Heap:=h.filter fun p=>(p.1 / 32768 != rid+1) || Jx.testBit (p.1 / 256%128)
def im(n:Nat)(o:Oper):Bool :=
 match o.dst with
 |some d=>decide (d<n)
 |none=>true
end
def qI(rid bits id:Nat):Bool:=(id / 32768 != rid+1) || bits.testBit (id / 256%128)
mutual
def sO(rid bits:Nat):AV→Bool
 |.ref id _ _ _=>qI rid bits id
 |.bH id=>qI rid bits id
 |.fn _ cap=>Al rid bits cap
 |.agg cs=>Al rid bits cs
 |.nh vs=>Al rid bits vs
 |.no=>true
 |.bool _=>true
 |.int _ _=>true
 |.str _=>true
 |.kX=>true
 |.fV=>true
 |.fp _ _ _=>true
 |.sl _ _ _=>true
 |.mp _ _ _=>true
def Al(rid bits:Nat):List AV→Bool
 |[]=>true
 |v::r=>sO rid bits v&&Al rid bits r
end
def xR(rid bits:Nat):Heap→Bool
 |[]=>true
 |(id,.box _ cs)::r=>qI rid bits id&&Al rid bits cs&&xR rid bits r
 |(id,.own _ _)::r=>qI rid bits id&&xR rid bits r
def gP(draw:Bool)(rid:Nat)(ops:Array Oper)(b:Array Nat)(i Jx:Nat):bI→Bool
 |.wr v h=>(!draw || Jw ops b i)&&sO rid (Jx ||| 2 ^ i) v&&xR rid (Jx ||| 2 ^ i) h
 |.new v os=>sO rid (Jx ||| 2 ^ i) v&&(os.all fun p=>p.1 / 256==(rid+1)*128+i)&&xR rid (Jx ||| 2 ^ i) os
 |.val v=>sO rid Jx v
def fj(ft:List Nat)(hp h:Heap):Heap:=(ft.filterMap fun i=>(hp.get i).map fun o=>(i,o))++h
def gQ(ft:List Nat)(hp:Heap):bI→bI
 |.wr v h=>.wr v (fj ft hp h)
 |.val v=>.val v
 |.new v os=>.new v os
mutual
def qJ(ft:List Nat):AV→Bool
 |.ref id _ _ _ => !(ft.contains id)
 |.bH id => !(ft.contains id)
 |.fn _ cap=>tD ft cap
 |.agg cs=>tD ft cs
 |.nh vs=>tD ft vs
 |.no=>true
 |.bool _=>true
 |.int _ _=>true
 |.str _=>true
 |.kX=>true
 |.fV=>true
 |.fp _ _ _=>true
 |.sl _ _ _=>true
 |.mp _ _ _=>true
def tD(ft:List Nat):List AV→Bool
 |[]=>true
 |v::r=>qJ ft v&&tD ft r
end
def tE(ft:List Nat):Heap→Bool
 |[]=>true
 |(id,.box _ cs)::r => !(ft.contains id)&&(tD ft cs&&tE ft r)
 |(id,.own _ _)::r => !(ft.contains id)&&tE ft r
def nk(ft:List Nat):bI→Bool
 |.wr v h=>qJ ft v&&tE ft h
 |_=>true
section
variable (P:Program) (Eqs:TypeId→Option K) (Sg:FuncId→Option aN) (F:(f:FuncId)→(g:aN)→g.A→Option g.B)
variable {R:Type}
noncomputable def sK(n:Nat)(f:Nat→Option R):Option R:=open Classical in if h:∃r,∀j,j<n→f j=some r then some (Classical.choose h) else none
def yT(m:Nat)(d:AV):AV→AV
 |.bH i=>if i=m then d else .bH i
 |v=>v
def oZ(id:Nat)(st:St)(o:Oper):Option St :=
 match o.op with
 |.range t x=>match P.underlying t,ρ st.tmps x with
  |some (.map _ _),.bH m=>match st.heap.get m with
   |some (.own (.map kk vk) es)=>some (({ tmps:=st.tmps.map fun p=>(p.1,yT m (.mp kk vk es) p.2),heap:=(id,.own (.iter kk vk) (none,es))::st.heap.del m }:St).put o.dst (.bH id))
   |_=>none
  |_,_=>none
 |_=>none
def uF(o:Oper):Option Operand :=
 match o.op with
 |.next x false=>some x
 |_=>none
noncomputable def kZ(h:Heap)(x:AV)(K:AV→Heap→Option R):Option R :=
 match x with
 |.bH id=>match h.get id with
  |some (.own (.iter kk vk) p)=>cond p.2.isEmpty (K (.nh [.bool false]) h) (sK p.2.length fun j=>(p.2[j]?).bind fun c=>K (.nh [.bool true,cj kk c.1,cj vk c.2]) (h.set id (.own (.iter kk vk) (some c,p.2.eraseIdx j))))
  |_=>none
 |_=>none
def isNil(o:Oper):Option (Operand×Bool) :=
 match o.op with
 |.binOp op t x (.const v) _=>match op,P.underlying t,we v with
  |.eql,some (.slice _),.fV=>some (x,true)
  |.neq,some (.slice _),.fV=>some (x,false)
  |_,_,_=>none
 |_=>none
noncomputable def uG(h:Heap)(x:AV)(want:Bool)(K:AV→Option R):Option R :=
 match cM h x with
 |.fV=>K (.bool want)
 |.sl _ _ xs=>cond xs.isEmpty (sK 2 fun j=>K (.bool ((j==0)==want))) (K (.bool (!want)))
 |_=>none
noncomputable def bD(rid:Nat)(draw:Bool)(ops:Array Oper)(b:Array Nat):List (Nat×Oper)→St→(St→Option R)→Option R
 |[],st,K=>K st
 |(i,o)::r,st,K =>
  let run (st:St):Option R :=
   match (if draw then none else oZ P (opId rid i) st o) with
   |some eJ=>bD rid draw ops b r eJ K
   |none =>
   match (if draw then none else uF o) with
   |some x=>kZ st.heap (ρ st.tmps x) fun v h=>bD rid draw ops b r (({ st with heap:=h }:St).put o.dst v) K
   |none =>
   match (if draw then none else isNil P o) with
   |some (x,want)=>uG st.heap (ρ st.tmps x) want fun v=>bD rid draw ops b r (st.put o.dst v) K
   |none =>
   if draw then
    cV P Eqs Sg F (opId rid i) (gW (ahead rid (b.getD i 0) st.heap) (gX ops b i st.tmps o)) st.tmps o fun e =>
     if gP true rid ops b i (b.getD i 0) (gQ (gX ops b i st.tmps o) (ahead rid (b.getD i 0) st.heap) e)&&nk (gX ops b i st.tmps o) e then
      bD rid draw ops b r ({ st with heap:=match gQ (gX ops b i st.tmps o) (ahead rid (b.getD i 0) st.heap) e with | .wr _ h=>h|e=>e.h st.heap }.put o.dst e.v) K else none
   else
    cV P Eqs Sg F (opId rid i) st.heap st.tmps o fun e =>
     if gP false rid ops b i (2 ^ i-1) e then bD rid draw ops b r ({ st with heap:=match e with | .wr _ h=>h|e=>e.h st.heap }.put o.dst e.v) K else none
  let skip (st:St):Option R:=bD rid draw ops b r (st.put o.dst (.nh [])) K
  match o.guard with
  |none=>run st
  |some (j,want) =>
   match (ops[j]?).bind (·.dst) with
   |none=>none
   |some d =>
    match look st.tmps d with
    |.bool t=>cond t (if want then run (st.put (some d) (.bool true)) else skip (st.put (some d) (.bool true))) (if want then skip (st.put (some d) (.bool false)) else run (st.put (some d) (.bool false)))
    |.nh _=>skip st
    |_=>none
end
mutual
def bE(rid:Nat):AV→AV
 |.ref id s i off=>if id / 32768=rid+1 then .no else .ref id s i off
 |.bH id=>if id / 32768=rid+1 then .no else .bH id
 |.fn f cap=>.fn f (lJ rid cap)
 |.agg cs=>.agg (lJ rid cs)
 |.nh vs=>.nh (lJ rid vs)
 |.no=>.no
 |.bool b=>.bool b
 |.int k n=>.int k n
 |.str s=>.str s
 |.kX=>.kX
 |.fV=>.fV
 |.fp k x off=>.fp k x off
 |.sl ex k xs=>.sl ex k xs
 |.mp kk vk es=>.mp kk vk es
def lJ(rid:Nat):List AV→List AV
 |[]=>[]
 |v::r=>bE rid v::lJ rid r
end
def Am(rid:Nat):Ob→Ob
 |.box ty cs=>.box ty (lJ rid cs)
 |.own ok x=>.own ok x
def kT(draw:Bool)(rid:Nat)(ops:Array Oper)(st:St):St :=
 if draw || ops.any (makes ·.op) then
  { tmps:=st.tmps.map fun p=>(p.1,bE rid p.2),heap:=(st.heap.filter fun p=>p.1 / 32768 != rid+1).map fun p=>(p.1,Am rid p.2) }
 else st
section
variable (P:Program) (Eqs:TypeId→Option K) (Sg:FuncId→Option aN) (F:(f:FuncId)→(g:aN)→g.A→Option g.B)
variable {R:Type}
noncomputable def iq(n rid:Nat)(ops:Array Oper)(draw:Bool)(st:St)(K:St→Option R):Option R :=
 let b:=if draw then Region.before ops else #[]
 if(ops.all fun o=>im n o)&&(!draw || (uC ops b&&(Ak ops b&&cc (ops.toList.filterMap (·.dst)))))&&decide (ops.size≤128) then
  bD P Eqs Sg F rid draw ops b (ops.toList.zipIdx.map fun p=>(p.2,p.1)) (kT draw rid ops st) K
 else none
inductive Src where
 |slot (s:Nat)
 |cap (s j:Nat)
structure Shape where
 yU:List (Nat×K)
 boxes:List (Src×Nat×BK)
 rows:List (Nat×Nat×OK)
 fns:List (Nat×FuncId×List Nat)
def Shape.ks(sh:Shape):List K:=sh.yU.map (·.2)
def Shape.bs(sh:Shape):List BK:=sh.boxes.map (·.2.2)
def Jy:List OK→Type
 |[]=>Unit
 |k::r=>k.T×Jy r
abbrev Shape.T(sh:Shape):Type:=Gp sh.ks×wg sh.bs×Jy (sh.rows.map (·.2.2))
def qK(st:St):(l:List (Nat×K))→Option (Gp (l.map (·.2)))
 |[]=>some ()
 |(s,k)::r =>
  match fT k st.heap (look st.tmps s),qK st r with
  |some x,some y=>some (x,y)
  |_,_=>none
def VI(st:St):Src→Option Nat
 |.slot s=>Dy (look st.tmps s)
 |.cap s j=>match look st.tmps s with
  |.fn _ cap=>match cap[j]? with
   |some v=>Dy v
   |none=>none
  |_=>none
def EM(st:St):List (Src×Nat×BK)→Option (List Nat)
 |[]=>some []
 |p::r=>match VI st p.1,EM st r with
  |some i,some is=>some (i::is)
  |_,_=>none
def nm(st:St):(l:List (Nat×Nat×OK))→Option (Jy (l.map (·.2.2)))
 |[]=>some ()
 |(s,_,ok)::r =>
  match dS st.heap ok (look st.tmps s),nm st r with
  |some x,some y=>some (x,y)
  |_,_=>none
def zm(st:St)(sh:Shape)(ids:List Nat):List AV:=(sh.yU.flatMap fun p=>(look st.tmps p.1).cells)++fW sh.bs st.heap ids
def Gt(st:St)(sh:Shape)(ids:List Nat):List Nat:=c8 sh.bs st.heap ids++sh.rows.flatMap fun p=>oX (look st.tmps p.1)
def nX(st:St)(m:Nat):List (Nat×Nat×OK)→Bool
 |[]=>false
 |(s,id,_)::r=>(id==m&&(match look st.tmps s with | .bH i=>i==m|_=>false)) || nX st m r
def rK(sh:Shape):List Nat:=bZ sh.bs (sh.boxes.map (·.2.1)) 9000++sh.rows.map (·.2.1)
def Lk(st:St)(ids:List (Nat×Nat)):List (Nat×FuncId×List Nat)→Bool
 |[]=>true
 |(s,f,CX)::r =>
  (match look st.tmps s with
  |.fn f' cap=>decide (f'=f)&&(match jJ cap with|some is=>decide (is.map (fun i=>(ids.find? (·.1==i)).map (·.2))=CX.map some)|none=>false)
  |_=>false)&&Lk st ids r
def cG(sh:Shape)(st:St):Option sh.T :=
 match EM st sh.boxes with
 |none=>none
 |some ids =>
  match qK st sh.yU,c7 sh.bs st.heap ids,nm st sh.rows,wo (Gt st sh ids) (zm st sh ids)&&(cc (rK sh)&&((rK sh).all (fun m=>decide (2000≤m) || ((ids.zip (sh.boxes.map (·.2.1))).any fun p=>p.1==m&&p.2==m) || nX st m sh.rows)&&Lk st (ids.zip (sh.boxes.map (·.2.1))) sh.fns)) with
  |some x,some y,some z,true=>some (x,y,z)
  |_,_,_,_=>none
def qL:(l:List (Nat×K))→Gp (l.map (·.2))→List (Nat×AV)
 |[],_=>[]
 |(s,k)::r,x=>(s,cj k x.1)::qL r x.2
def jL:List (Src×Nat×BK)→List (Nat×AV)
 |[]=>[]
 |(.slot s,id,_)::r=>(s,.ref id 0 0 0)::jL r
 |(.cap _ _,_,_)::r=>jL r
def zn(l:List (Nat×FuncId×List Nat)):List (Nat×AV):=l.map fun p=>(p.1,.fn p.2.1 (p.2.2.map fun i=>.ref i 0 0 0))
def qM:(l:List (Nat×Nat×OK))→Jy (l.map (·.2.2))→Heap
 |[],_=>[]
 |(_,id,ok)::r,x=>(id,.own ok x.1)::qM r x.2
def aq(sh:Shape)(x:sh.T):St :=
  { tmps:=qL sh.yU x.1++(jL sh.boxes++(zn sh.fns++sh.rows.map fun p=>(p.1,.bH p.2.1))),
    heap:=bA sh.bs (sh.boxes.map (·.2.1)) 9000 x.2.1++qM sh.rows x.2.2 }
def rL:Code→Nat
 |.region id _ _=>id
 |.seq a _=>rL a
 |.block _ a=>rL a
 |.loop a=>rL a
 |.scope a=>rL a
 |_=>0
def Pb(s:Nat)(st:St):St:=match look st.tmps s with
 |.bH m=>match st.heap.get m with
  |some (.own (.row _ k) xs)=>{ tmps:=st.tmps.map fun p=>(p.1,yT m (.sl false k xs) p.2),heap:=st.heap.del m }
  |_=>st
 |_=>st
def Gu(o:Option Shape)(st:St):St:=match o with
 |some sh=>sh.rows.foldl (fun st p=>Pb p.1 st) st
 |none=>st
noncomputable def aB(n:Nat)(ann:Nat→Option Shape)(J:(sh:Shape)→List Item→sh.T→Option R)(ret:St→Option R):Nat→List Item→St→Option R
 |0,_,_=>none
 |_+1,[],st=>ret st
 |m+1,.inBlock _::k,st=>aB n ann J ret m k st
 |m+1,.inScope _::k,st=>aB n ann J ret m k st
 |_+1,.inLoop c::k,st =>
  match ann (rL c) with
  |none=>none
  |some sh=>match cG sh st with
   |some x=>J sh (.inLoop c::k) x
   |none=>none
 |m+1,.code c::k,st =>
  match c with
  |.skip | .label _=>aB n ann J ret m k st
  |.seq a b=>aB n ann J ret m (.code a::.code b::k) st
  |.cond c a b=>match ρ st.tmps c with
   |.bool t=>cond t (aB n ann J ret m (.code a::k) st) (aB n ann J ret m (.code b::k) st)
   |_=>none
  |.block id c=>aB n ann J ret m (.code c::.inBlock id::k) st
  |.scope c=>aB n ann J ret m (.code c::.inScope c::k) st
  |.loop c=>aB n ann J ret m (.inLoop c::k) st
  |.exit id=>match exitTo id k with
   |some k'=>aB n ann J ret m k' st
   |none=>none
  |.ret=>ret st
  |.region id ops draw=>iq P Eqs Sg F n id ops draw (Gu (ann (500000+id)) st) fun eJ=>aB n ann J ret m k eJ
  |_=>none
 |_,_,_=>none
def xS(h:Heap)(tmps:List (Nat×AV))(rvs:List ResultVar):Option (List AV) :=
 match rvs with
 |[]=>some []
 |.tmp t::r=>match xS h tmps r with
  |some vs=>some (look tmps t::vs)
  |none=>none
 |.cell a t::r=>match look tmps a with
  |.ref id _ 0 off=>(match h.get id with
   |some (.box _ cs)=>(match dY P t (cs.drop off),xS h tmps r with
    |some v,some vs=>some (v::vs)
    |_,_=>none)
   |_=>none)
  |_=>none
def qN(g:aN)(fn:Func)(st:St):Option g.B :=
 match xS P st.heap st.tmps fn.results.toList with
 |none=>none
 |some vs =>
  match bJ g.bs g.rs st.heap (aP g.bs.length) vs,c7 g.bs st.heap (aP g.bs.length),
   wo (c8 g.bs st.heap (aP g.bs.length)++dO g.rs vs) (fX g.rs vs++fW g.bs st.heap (aP g.bs.length))&&cc (qB g) with
  |some x,some y,true=>some (x,y)
  |_,_,_=>none
def entry(g:aN)(x:g.A):St :=
 { tmps:=aU g.ps (aP g.bs.length) 0 x.1,heap:=bA g.bs (aP g.bs.length) 2000 x.2 }
def fuel:Nat:=100000
end
section
variable (P:Program) (Eqs:TypeId→Option K) (Sg:FuncId→Option aN) (An:FuncId→Nat→Option Shape) (G:(f:FuncId)→(g:aN)→Option (g.A→Option g.B))
variable (F:(f:FuncId)→(g:aN)→g.A→Option g.B)
def body(f:FuncId):Option (Func×Code):=(P.funcs[f]?).bind fun fn=>fn.body.map fun c=>(fn,c)
noncomputable def mD(f:FuncId)(g:aN)(fn:Func):Nat→(sh:Shape)→List Item→sh.T→Option g.B
 |0,_,_,_=>none
 |n+1,sh,.inLoop c::k,x=>aB P Eqs Sg F fn.ntmps (An f) (mD f g fn n) (qN P g fn) fuel (.code c::.inLoop c::k) (aq sh x)
 |_+1,_,_,_=>none
noncomputable def Jz(f:FuncId)(g:aN)(n:Nat)(x:g.A):Option g.B :=
 match body P (f%1000) with
 |none=>none
 |some (fn,c)=>if decide (g.ps.length≤fn.ntmps)&&decide (g.bs.length≤8) then aB P Eqs Sg F fn.ntmps (An f) (mD P Eqs Sg An F f g fn n) (qN P g fn) fuel [.code c] (entry g x) else none
end
section
variable (P:Program) (Eqs:TypeId→Option K) (Sg:FuncId→Option aN) (An:FuncId→Nat→Option Shape) (G:(f:FuncId)→(g:aN)→Option (g.A→Option g.B))
noncomputable def Fn:Nat→(f:FuncId)→(g:aN)→g.A→Option g.B
 |0,f,g,x=>match G f g with
  |some u=>u x
  |none=>none
 |m+1,f,g,x=>match G f g with
  |some u=>u x
  |none=>Jz P Eqs Sg An (Fn m) f g m x
end
end Go.Vs
namespace Go.Vs
def qO:Code→List Item→List (List Item)
 |.seq a b,k=>qO a (.code b::k)++qO b k
 |.cond _ a b,k=>qO a k++qO b k
 |.block id c,k=>qO c (.inBlock id::k)
 |.scope c,k=>qO c (.inScope c::k)
 |.loop c,k=>(.inLoop c::k)::qO c (.inLoop c::k)
 |_,_=>[]
def aM(P:Program)(f:FuncId)(j:Nat):List Item :=
 match body P f with
 |some (_,c)=>(qO c []).getD j []
 |none=>[]
def round:List Item→List Item
 |.inLoop c::k=>.code c::.inLoop c::k
 |k=>k
end Go.Vs
namespace Go.Vs
theorem uH(a:Addr)(n m:Nat):(a.add n).add m=a.add (n+m):=by
 unfold Addr.add
 by_cases h1:n=0<;>by_cases h2:m=0<;>simp[h1,h2,Nat.add_assoc]
theorem Dz(a:Addr):a.add 0=a:=by simp[Addr.add]
theorem cy(a:Addr)(n:Nat):(a.add n).block=a.block:=by unfold Addr.add;split<;>rfl
theorem cp(g i n:Nat):(⟨g,i,none⟩:Addr).add n=⟨g,i+n,none⟩:=by unfold Addr.add;split<;>simp_all
def ct(Z:Nat→Prop)(w w':World):Prop:=∀b,Z b→w'.heap[b]? = w.heap[b]?
theorem ct.refl(Z:Nat→Prop)(w:World):ct Z w w:=fun _ _=>rfl
theorem ct.trans{Z:Nat→Prop}{w w1 w2:World}(h:ct Z w w1)(k:ct Z w1 w2):ct Z w w2:=fun b hb=>(k b hb).trans (h b hb)
theorem ct.cell{Z:Nat→Prop}{w w':World}(h:ct Z w w'){a:Addr}(ha:Z a.block):w'.cell? a=w.cell? a:=World.cell?_of_block (h _ ha)
def aet{α:Type}(r:α→List Value→Prop)(Z:Nat→Prop)(sz:Nat)(w:World)(xs:List α)(v:Value):Prop :=
 ∃A c,v=.slice A xs.length c∧xs.length≤c∧(A=none→c=0) ∧
  ∀(i:Nat) (x:α),xs[i]? = some x→∃a us,A=some a∧Z a.block∧r x us∧∀(j:Nat) u,us[j]? = some u→w.cell? (a.add (i*sz+j))=some u
def EN{α β:Type}(ra:α→List Value→Prop)(rb:β→List Value→Prop)(pa pb:Bool)(es:List (α×β))(bW:List MapEntry):Prop :=
 es.length=bW.length∧∀(i:Nat) (x:α×β) (e:MapEntry),es[i]? = some x→bW[i]? = some e →
  (ra x.1 e.key.cells.toList∧(pa=true→∃vs,e.key=.agg vs)∧(pa=false→e.key.cells=#[e.key]))∧rb x.2 e.val.cells.toList∧(pb=true→∃vs,e.val=.agg vs)∧(pb=false→e.val.cells=#[e.val])
def aI(Z:Nat→Prop)(w:World):(k:K)→k.T→List Value→Prop
 |.int ik,n,vs=>vs=[.int ik n]
 |.bool,b,vs=>vs=[.bool b]
 |.str,s,vs=>vs=[.string s]
 |.sl k,xs,vs=>∃v,vs=[v]∧aet (aI Z w k) Z k.sz w xs v
 |.pair a b,x,vs=>∃us ws,vs=us++ws∧aI Z w a x.1 us∧aI Z w b x.2 ws
 |.one k,x,vs=>aI Z w k x vs
 |.mp kk vk,es,vs=>∃A,vs=[.map A]∧((A=none∧es=[])∨∃m bW clock,A=some m∧Z m∧w.heap[m]? = some (.map bW clock)∧EN (aI Z w kk) (aI Z w vk) kk.isAgg vk.isAgg es bW.toList)
variable {Z Z':Nat→Prop} {w w':World}
theorem aI.len:∀{k:K} {x:k.T} {vs:List Value},aI Z w k x vs→vs.length=k.sz
 |.int _,_,_,h=>by simp only[aI]at h;subst h;rfl
 |.bool,_,_,h=>by simp only[aI]at h;subst h;rfl
 |.str,_,_,h=>by simp only[aI]at h;subst h;rfl
 |.sl _,_,_,h=>by simp only[aI]at h;obtain⟨v,rfl,_⟩:=h;rfl
 |.pair a b,x,_,h=>by
  simp only[aI]at h
  obtain⟨us,ws,rfl,h1,h2⟩:=h
  rw[List.length_append,aI.len h1,aI.len h2];rfl
 |.one k,x,_,h=>by
  simp only[aI]at h
  exact aI.len (k:=k) h
 |.mp _ _,_,_,h=>by simp only[aI]at h;obtain⟨A,rfl,_⟩:=h;rfl
theorem K.ir:∀k:K,0<k.sz
 |.int _=>Nat.one_pos
 |.bool=>Nat.one_pos
 |.str=>Nat.one_pos
 |.sl _=>Nat.one_pos
 |.pair a _=>Nat.lt_of_lt_of_le (K.ir a) (Nat.le_add_right _ _)
 |.one k=>K.ir k
 |.mp _ _=>Nat.one_pos
theorem aI.one:∀{k:K} {x:k.T} {vs:List Value},aI Z w k x vs→∀u∈vs,u.oneCell'=true
 |.int _,_,_,h=>by simp only[aI]at h;subst h;simp[Value.oneCell']
 |.bool,_,_,h=>by simp only[aI]at h;subst h;simp[Value.oneCell']
 |.str,_,_,h=>by simp only[aI]at h;subst h;simp[Value.oneCell']
 |.sl _,_,_,h=>by simp only[aI]at h;obtain⟨v,rfl,A,c,rfl,_⟩:=h;simp[Value.oneCell']
 |.pair a b,x,_,h=>by
  simp only[aI]at h
  obtain⟨us,ws,rfl,h1,h2⟩:=h
  intro u hu
  rcases List.mem_append.1 hu with hu|hu
  ·exact aI.one h1 u hu
  ·exact aI.one h2 u hu
 |.one k,x,_,h=>by
  simp only[aI]at h
  exact aI.one (k:=k) h
 |.mp _ _,_,_,h=>by simp only[aI]at h;obtain⟨A,rfl,_⟩:=h;simp[Value.oneCell']
theorem EN.imp{α β:Type}{ra ra':α→List Value→Prop}{rb rb':β→List Value→Prop}{pa pb:Bool}(ha:∀x vs,ra x vs→ra' x vs)(hb:∀x vs,rb x vs→rb' x vs){es:List (α×β)}{bW:List MapEntry}(h:EN ra rb pa pb es bW):EN ra' rb' pa pb es bW :=
 ⟨h.1,fun i x e h1 h2=>by obtain⟨⟨a,b⟩,c,d⟩:=h.2 i x e h1 h2;exact⟨⟨ha _ _ a,b⟩,hb _ _ c,d⟩⟩
theorem aI.mono(hz:∀b,Z b→Z' b)(hs:ct Z w w'):∀{k:K} {x:k.T} {vs:List Value},aI Z w k x vs→aI Z' w' k x vs
 |.int _,_,_,h=>h
 |.bool,_,_,h=>h
 |.str,_,_,h=>h
 |.sl k,xs,_,h=>by
  simp only[aI]at h ⊢
  obtain⟨v,rfl,A,c,rfl,hl,hn,he⟩:=h
  refine⟨_,rfl,A,c,rfl,hl,hn,fun i x hx=>?_⟩
  obtain⟨a,us,ha,Zo,hr,hc⟩:=he i x hx
  refine⟨a,us,ha,hz _ Zo,aI.mono hz hs hr,fun j u hu=>?_⟩
  rw[hs.cell (by rw[cy];exact Zo)]
  exact hc j u hu
 |.pair a b,x,_,h=>by
  simp only[aI]at h ⊢
  obtain⟨us,ws,rfl,h1,h2⟩:=h
  exact⟨us,ws,rfl,aI.mono hz hs h1,aI.mono hz hs h2⟩
 |.one k,x,_,h=>by
  simp only[aI]at h ⊢
  exact aI.mono hz hs (k:=k) h
 |.mp kk vk,es,_,h=>by
  simp only[aI]at h ⊢
  obtain⟨A,rfl,h⟩:=h
  refine⟨A,rfl,h.imp (fun h=>h) fun⟨m,bW,clock,h1,h2,h3,h4⟩=>⟨m,bW,clock,h1,hz _ h2,(hs m h2).trans h3,h4.imp (fun _ _ h=>aI.mono hz hs h) (fun _ _ h=>aI.mono hz hs h)⟩⟩
def TV:Value→Nat
 |.pointer (some a)=>a.block
 |.slice (some a) _ _=>a.block
 |_=>0
def ob:Value→Option Nat
 |.pointer (some a)=>some a.block
 |.slice (some a) _ c=>if c=0 then none else some a.block
 |.map (some m)=>some m
 |_=>none
mutual
def az(Z:Nat→Prop)(ψ:Nat→Value)(h:Nat→Option Ob)(w:World):AV→Value→Prop
 |.no,_=>True
 |.bool b,v=>v=.bool b
 |.int k n,v=>v=.int k n
 |.str s,v=>v=.string s
 |.kX,v=>v=.pointer none
 |.fV,v=>v=.slice none 0 0
 |.ref id s i off,v=>∃a,v=.pointer (some a)∧(h id≠none→a=⟨TV (ψ id),i*s+off,none⟩)
 |.fp k x off,v=>∃a us,v=.pointer (some a)∧Z a.block∧aI Z w k x us∧∀(j:Nat) u,us[off+j]? = some u→w.cell? (a.add j)=some u
 |.sl ex k xs,v=>aI Z w (.sl k) xs [v]∧(ex=true→∃A c,v=.slice A c c)
 |.mp kk vk es,v=>aI Z w (.mp kk vk) es [v]
 |.bH id,v=>(v.cells=#[v]∧v.oneCell'=true)∧(h id≠none→v=ψ id)
 |.fn f cap,v=>∃vs,v=.func (.func f) #[] vs∧an Z ψ h w cap vs.toList
 |.agg cs,v=>∃vs,v=.agg vs∧an Z ψ h w cs vs.toList
 |.nh cs,v=>∃vs,v=.tuple vs∧an Z ψ h w cs vs.toList
def an(Z:Nat→Prop)(ψ:Nat→Value)(h:Nat→Option Ob)(w:World):List AV→List Value→Prop
 |[],vs=>vs=[]
 |a::r,vs=>∃v us,vs=v::us∧az Z ψ h w a v∧an Z ψ h w r us
end
mutual
def aJ(p:Nat→Prop):AV→Prop
 |.ref id _ _ _=>p id
 |.bH id=>p id
 |.fn _ cap=>aC p cap
 |.agg cs=>aC p cs
 |.nh vs=>aC p vs
 |.no=>True
 |.bool _=>True
 |.int _ _=>True
 |.str _=>True
 |.kX=>True
 |.fV=>True
 |.fp _ _ _=>True
 |.sl _ _ _=>True
 |.mp _ _ _=>True
def aC(p:Nat→Prop):List AV→Prop
 |[]=>True
 |v::r=>aJ p v∧aC p r
end
section
variable {Z Z':Nat→Prop} {w w':World} {ψ ψ':Nat→Value} {h h':Nat→Option Ob} {p:Nat→Prop}
mutual
theorem az.move(hz:∀b,Z b→Z' b)(hs:ct Z w w')(hh:∀id,p id→h' id≠none→h id≠none∧ψ' id=ψ id):∀{a:AV} {v:Value},aJ p a→az Z ψ h w a v→az Z' ψ' h' w' a v
 |.no,_,_,_=>by simp only[az]
 |.bool b,_,_,hr=>by simpa only[az] using hr
 |.int k n,_,_,hr=>by simpa only[az] using hr
 |.str s,_,_,hr=>by simpa only[az] using hr
 |.kX,_,_,hr=>by simpa only[az] using hr
 |.fV,_,_,hr=>by simpa only[az] using hr
 |.ref id s i off,_,hm,hr=>by
  simp only[az,aJ]at hr hm ⊢
  obtain⟨a,rfl,ha⟩:=hr
  refine⟨a,rfl,fun hn=>?_⟩
  obtain⟨h1,h2⟩:=hh id hm hn
  rw[h2];exact ha h1
 |.fp k x off,_,_,hr=>by
  simp only[az]at hr ⊢
  obtain⟨a,us,rfl,Zo,hk,hc⟩:=hr
  refine⟨a,us,rfl,hz _ Zo,hk.mono hz hs,fun j u hu=>?_⟩
  rw[hs.cell (by rw[cy];exact Zo)]
  exact hc j u hu
 |.sl ex k xs,_,_,hr=>by
  simp only[az]at hr ⊢
  exact⟨aI.mono hz hs hr.1,hr.2⟩
 |.mp kk vk es,_,_,hr=>by
  simp only[az]at hr ⊢
  exact aI.mono hz hs hr
 |.bH id,_,hm,hr=>by
  simp only[az,aJ]at hr hm ⊢
  refine⟨hr.1,fun hn=>?_⟩
  obtain⟨h1,h2⟩:=hh id hm hn
  rw[h2];exact hr.2 h1
 |.fn f cap,_,hm,hr=>by
  simp only[az,aJ]at hr hm ⊢
  obtain⟨vs,rfl,hl⟩:=hr
  exact⟨vs,rfl,an.move hz hs hh hm hl⟩
 |.agg cs,_,hm,hr=>by
  simp only[az,aJ]at hr hm ⊢
  obtain⟨vs,rfl,hl⟩:=hr
  exact⟨vs,rfl,an.move hz hs hh hm hl⟩
 |.nh cs,_,hm,hr=>by
  simp only[az,aJ]at hr hm ⊢
  obtain⟨vs,rfl,hl⟩:=hr
  exact⟨vs,rfl,an.move hz hs hh hm hl⟩
theorem an.move(hz:∀b,Z b→Z' b)(hs:ct Z w w')(hh:∀id,p id→h' id≠none→h id≠none∧ψ' id=ψ id):∀{a:List AV} {v:List Value},aC p a→an Z ψ h w a v→an Z' ψ' h' w' a v
 |[],_,_,hr=>by simpa only[an] using hr
 |a::r,_,hm,hr=>by
  simp only[an,aC]at hr hm ⊢
  obtain⟨v,us,rfl,h1,h2⟩:=hr
  exact⟨v,us,rfl,az.move hz hs hh hm.1 h1,an.move hz hs hh hm.2 h2⟩
end
mutual
theorem aJ.top:∀a:AV,aJ (fun _=>True) a
 |.no=>by simp only[aJ]
 |.bool b=>by simp only[aJ]
 |.int k n=>by simp only[aJ]
 |.str s=>by simp only[aJ]
 |.kX=>by simp only[aJ]
 |.fV=>by simp only[aJ]
 |.ref id s i off=>by simp only[aJ]
 |.fp k x off=>by simp only[aJ]
 |.sl ex k xs=>by simp only[aJ]
 |.mp kk vk es=>by simp only[aJ]
 |.bH id=>by simp only[aJ]
 |.fn f cap=>by simp only[aJ];exact aC.top cap
 |.agg cs=>by simp only[aJ];exact aC.top cs
 |.nh cs=>by simp only[aJ];exact aC.top cs
theorem aC.top:∀a:List AV,aC (fun _=>True) a
 |[]=>by simp only[aC]
 |a::r=>by simp only[aC];exact⟨aJ.top a,aC.top r⟩
end
theorem az.less(hz:∀b,Z b→Z' b)(hs:ct Z w w')(hh:∀id,h' id≠none→h id≠none∧ψ' id=ψ id){a:AV}{v:Value}(hr:az Z ψ h w a v):az Z' ψ' h' w' a v :=
 az.move (p:=fun _=>True) hz hs (fun id _ hn=>hh id hn) (aJ.top a) hr
theorem an.less(hz:∀b,Z b→Z' b)(hs:ct Z w w')(hh:∀id,h' id≠none→h id≠none∧ψ' id=ψ id){a:List AV}{v:List Value}(hr:an Z ψ h w a v):an Z' ψ' h' w' a v :=
 an.move (p:=fun _=>True) hz hs (fun id _ hn=>hh id hn) (aC.top a) hr
theorem an.length:∀{a:List AV} {v:List Value},an Z ψ h w a v→a.length=v.length
 |[],_,hr=>by simp only[an]at hr;subst hr;rfl
 |a::r,_,hr=>by
  simp only[an]at hr
  obtain⟨v,us,rfl,_,h2⟩:=hr
  simp[an.length h2]
theorem an.get:∀{a:List AV} {v:List Value} (i:Nat) {x:AV},an Z ψ h w a v→a[i]? = some x→∃u,v[i]? = some u∧az Z ψ h w x u
 |[],_,i,x,_,hx=>by simp at hx
 |a::r,_,0,x,hr,hx=>by
  simp only[an]at hr
  obtain⟨v,us,rfl,h1,h2⟩:=hr
  simp only[List.getElem?_cons_zero,Option.some.injEq]at hx;subst hx
  exact⟨v,rfl,h1⟩
 |a::r,_,i+1,x,hr,hx=>by
  simp only[an]at hr
  obtain⟨v,us,rfl,h1,h2⟩:=hr
  obtain⟨u,hu,hr⟩:=an.get i h2 (by simpa using hx)
  exact⟨u,by simpa using hu,hr⟩
theorem an.append:∀{a b:List AV} {v u:List Value},an Z ψ h w a v→an Z ψ h w b u→an Z ψ h w (a++b) (v++u)
 |[],b,_,u,hr,hb=>by simp only[an]at hr;subst hr;exact hb
 |a::r,b,_,u,hr,hb=>by
  simp only[an]at hr
  obtain⟨v,us,rfl,h1,h2⟩:=hr
  simp only[List.cons_append,an]
  exact⟨v,us++u,rfl,h1,an.append h2 hb⟩
theorem an.split:∀{a b:List AV} {v:List Value},an Z ψ h w (a++b) v→∃us ws,v=us++ws∧an Z ψ h w a us∧an Z ψ h w b ws
 |[],b,v,hr=>⟨[],v,rfl,by simp only[an],hr⟩
 |a::r,b,v,hr=>by
  simp only[List.cons_append,an]at hr
  obtain⟨x,us,rfl,h1,h2⟩:=hr
  obtain⟨iX,ws,rfl,h3,h4⟩:=an.split h2
  exact⟨x::iX,ws,rfl,by simp only[an];exact⟨x,iX,rfl,h1,h3⟩,h4⟩
theorem an.drop(n:Nat){a:List AV}{v:List Value}(hr:an Z ψ h w a v):an Z ψ h w (a.drop n) (v.drop n):=by
 by_cases hn:n≤a.length
 ·have rM:an Z ψ h w (a.take n++a.drop n) v:=by rw[List.take_append_drop];exact hr
  obtain⟨us,ws,rfl,h1,h2⟩:=an.split rM
  have hl:=h1.length
  rw[List.length_take,Nat.min_eq_left hn]at hl
  rw[hl,List.drop_left];rw[←hl];exact h2
 ·have:=hr.length
  rw[List.drop_eq_nil_of_le (by omega),List.drop_eq_nil_of_le (by omega)];simp only[an]
theorem an.take(n:Nat){a:List AV}{v:List Value}(hr:an Z ψ h w a v):an Z ψ h w (a.take n) (v.take n):=by
 by_cases hn:n≤a.length
 ·have rM:an Z ψ h w (a.take n++a.drop n) v:=by rw[List.take_append_drop];exact hr
  obtain⟨us,ws,rfl,h1,h2⟩:=an.split rM
  have hl:=h1.length
  rw[List.length_take,Nat.min_eq_left hn]at hl
  conv=>rhs;rw[hl,List.take_left]
  exact h1
 ·have:=hr.length
  rw[List.take_of_length_le (by omega),List.take_of_length_le (by omega)];exact hr
theorem an.set:∀{a:List AV} {v:List Value} (i:Nat) {x:AV} {u:Value},an Z ψ h w a v→az Z ψ h w x u→an Z ψ h w (a.set i x) (v.set i u)
 |[],_,i,x,u,hr,_=>by simp only[an]at hr;subst hr;simp only[List.set_nil,an]
 |a::r,_,0,x,u,hr,hx=>by
  simp only[an]at hr
  obtain⟨v,us,rfl,h1,h2⟩:=hr
  simp only[List.set_cons_zero,an];exact⟨u,us,rfl,hx,h2⟩
 |a::r,_,i+1,x,u,hr,hx=>by
  simp only[an]at hr
  obtain⟨v,us,rfl,h1,h2⟩:=hr
  simp only[List.set_cons_succ,an];exact⟨v,_,rfl,h1,an.set i h2 hx⟩
theorem ig:∀{k:K} {x:k.T} {vs:List Value},aI Z w k x vs→an Z ψ h w (enc k x) vs
 |.int _,_,_,hr=>by simp only[aI]at hr;subst hr;simp[enc,an,az]
 |.bool,_,_,hr=>by simp only[aI]at hr;subst hr;simp[enc,an,az]
 |.str,_,_,hr=>by simp only[aI]at hr;subst hr;simp[enc,an,az]
 |.sl k,xs,_,hr=>by
  have rM:=hr
  simp only[aI]at rM
  obtain⟨v,rfl,_⟩:=rM
  simp only[enc,an,az]
  exact⟨v,[],rfl,⟨hr,by simp⟩,rfl⟩
 |.pair a b,x,_,hr=>by
  simp only[aI]at hr
  obtain⟨us,ws,rfl,h1,h2⟩:=hr
  simp only[enc]
  exact an.append (ig h1) (ig h2)
 |.one k,x,_,hr=>by
  simp only[aI]at hr
  simp only[enc]
  exact ig (k:=k) hr
 |.mp kk vk,es,_,hr=>by
  have rM:=hr
  simp only[aI]at rM
  obtain⟨A,rfl,_⟩:=rM
  simp only[enc,an,az]
  exact⟨_,[],rfl,hr,rfl⟩
theorem Pc{k:K}{v:Value}(hr:az Z ψ h w .fV v):aI Z w (.sl k) [] [v]:=by
 simp only[az]at hr
 subst hr
 simp only[aI]
 exact⟨_,rfl,none,0,rfl,Nat.le_refl _,fun _=>rfl,fun i x hx=>by simp at hx⟩
theorem zo:∀{k:K} {cs:List AV} {x:k.T} {r:List AV} {vs:List Value},dec k cs=some (x,r)→an Z ψ h w cs vs→∃us ws,vs=us++ws∧aI Z w k x us∧an Z ψ h w r ws
 |.int ik,cs,x,r,vs,hd,hr=>by
  simp only[dec]at hd
  unfold EH at hd
  split at hd
  ·split at hd
   ·rename_i he
    subst he
    cases hd
    simp only[an,az]at hr
    obtain⟨v,us,rfl,rfl,h2⟩:=hr
    exact⟨[_],us,rfl,by simp only[aI],h2⟩
   ·cases hd
  ·cases hd
 |.bool,cs,x,r,vs,hd,hr=>by
  simp only[dec]at hd
  unfold zk at hd
  split at hd
  ·cases hd
   simp only[an,az]at hr
   obtain⟨v,us,rfl,rfl,h2⟩:=hr
   exact⟨[_],us,rfl,by simp only[aI],h2⟩
  ·cases hd
 |.str,cs,x,r,vs,hd,hr=>by
  simp only[dec]at hd
  unfold EI at hd
  split at hd
  ·cases hd
   simp only[an,az]at hr
   obtain⟨v,us,rfl,rfl,h2⟩:=hr
   exact⟨[_],us,rfl,by simp only[aI],h2⟩
  ·cases hd
 |.sl k,cs,x,r,vs,hd,hr=>by
  simp only[dec]at hd
  unfold Le at hd
  split at hd
  ·split at hd
   ·rename_i he
    subst he
    cases hd
    simp only[an]at hr
    obtain⟨v,us,rfl,h1,h2⟩:=hr
    simp only[az]at h1
    exact⟨[_],us,rfl,h1.1,h2⟩
   ·cases hd
  ·cases hd
   simp only[an]at hr
   obtain⟨v,us,rfl,h1,h2⟩:=hr
   exact⟨[_],us,rfl,Pc h1,h2⟩
  ·cases hd
 |.pair a b,cs,x,r,vs,hd,hr=>by
  simp only[dec]at hd
  split at hd
  ·rename_i x1 r1 h1
   split at hd
   ·rename_i y1 r2 h2
    cases hd
    obtain⟨us,ws,rfl,k1,k2⟩:=zo h1 hr
    obtain⟨iX,ws',rfl,k3,k4⟩:=zo h2 k2
    exact⟨us++iX,ws',by rw[List.append_assoc],by simp only[aI];exact⟨us,iX,rfl,k1,k3⟩,k4⟩
   ·cases hd
  ·cases hd
 |.one k,cs,x,r,vs,hd,hr=>by
  simp only[dec]at hd
  obtain⟨us,ws,e,k1,k2⟩:=zo (k:=k) hd hr
  exact⟨us,ws,e,by simp only[aI];exact k1,k2⟩
 |.mp kk vk,cs,x,r,vs,hd,hr=>by
  simp only[dec]at hd
  unfold Lf at hd
  split at hd
  ·split at hd
   ·rename_i he
    obtain⟨rfl,rfl⟩:=he
    cases hd
    simp only[an]at hr
    obtain⟨v,us,rfl,h1,h2⟩:=hr
    simp only[az]at h1
    exact⟨[_],us,rfl,h1,h2⟩
   ·cases hd
  ·cases hd
theorem dH{k:K}{cs:List AV}{x:k.T}{vs:List Value}(hd:dG k cs=some x)(hr:an Z ψ h w cs vs):aI Z w k x vs:=by
 unfold dG at hd
 split at hd
 ·rename_i x' h1
  cases hd
  obtain⟨us,ws,rfl,k1,k2⟩:=zo h1 hr
  simp only[an]at k2
  subst k2
  rw[List.append_nil];exact k1
 ·cases hd
theorem lK{k:K}{x:k.T}{v:Value}(hr:aI Z w k x v.cells.toList)(hp:k.isAgg=true→∃vs,v=.agg vs)(hn:k.isAgg=false→v.cells=#[v]):az Z ψ h w (cj k x) v:=by
 cases k with
 |int ik=>rw[hn rfl]at hr;simp only[aI]at hr;simp only[cj,az];simpa using hr
 |bool=>rw[hn rfl]at hr;simp only[aI]at hr;simp only[cj,az];simpa using hr
 |str=>rw[hn rfl]at hr;simp only[aI]at hr;simp only[cj,az];simpa using hr
 |sl k=>rw[hn rfl]at hr;simp only[cj,az];exact⟨hr,by simp⟩
 |mp kk vk=>rw[hn rfl]at hr;simp only[cj,az];exact hr
 |pair a b =>
  obtain⟨vs,rfl⟩:=hp rfl
  simp only[cj,az]
  exact⟨vs,rfl,ig hr⟩
 |one k =>
  obtain⟨vs,rfl⟩:=hp rfl
  simp only[cj,az]
  exact⟨vs,rfl,ig hr⟩
end
end Go.Vs
namespace Go.Vs
theorem Heap.iu{n m:Nat}(br:m≠n):∀h:Heap,(h.del n).get m=h.get m
 |[]=>rfl
 |(i,o)::r=>by
  simp only[Heap.del]
  split
  ·rename_i hi
   rw[Heap.iu br r]
   simp only[Heap.get]
   rw[if_neg (by omega)]
  ·simp only[Heap.get]
   split
   ·rfl
   ·exact Heap.iu br r
theorem Heap.gG(n:Nat):∀h:Heap,(h.del n).get n=none
 |[]=>rfl
 |(i,o)::r=>by
  simp only[Heap.del]
  split
  ·exact Heap.gG n r
  ·rename_i hi
   simp only[Heap.get]
   rw[if_neg hi];exact Heap.gG n r
theorem Heap.EO(h:Heap)(n:Nat)(o:Ob):(h.set n o).get n=some o:=by simp[Heap.set,Heap.get]
theorem Heap.JA{n m:Nat}(br:m≠n)(h:Heap)(o:Ob):(h.set n o).get m=h.get m:=by
 simp only[Heap.set,Heap.get]
 rw[if_neg (by omega)]
 exact Heap.iu br h
theorem Heap.uI{n m:Nat}{h:Heap}{o:Ob}(hg:(h.del n).get m=some o):h.get m=some o∧m≠n:=by
 by_cases br:m=n
 ·subst br;rw[Heap.gG]at hg;cases hg
 ·rw[Heap.iu br]at hg;exact⟨hg,br⟩
theorem Heap.get_append(a b:Heap)(n:Nat):(a++b).get n=(match a.get n with|some o=>some o|none=>b.get n):=by
 induction a with
 |nil=>rfl
 |cons p r ih =>
  obtain⟨i,o⟩:=p
  simp only[List.cons_append,Heap.get]
  split
  ·rfl
  ·exact ih
def np(Z:Nat→Prop)(w:World)(k:K)(xs:List k.T)(vs:List Value):Prop :=
 ∀(i:Nat) (x:k.T),xs[i]? = some x→aI Z w k x ((vs.drop (i*k.sz)).take k.sz)
abbrev Hp:=Nat→Option Ob
def dC(w:World)(e:TypeId)(size:Nat)(v:Value)(n:Nat)(vs:List Value):Prop :=
  vs.length=n*size ∧
  ((n=0∧∃A,v=.slice A 0 0) ∨
   ∃g cap cur,v=.slice (some ⟨g,0,none⟩) n cap∧0<cap∧w.heap[g]? = some (.cells cur e (0,0))∧n≤cap∧cap≤maxLen∧cur.size=cap*size∧cur.toList.take (n*size)=vs)
theorem dC.of{w:World}{base e size n:Nat}{v:Value}{vs:List Value}(h:w.ownsRow base e size v n vs):dC w e size v n vs:=by
 obtain⟨h1,h2⟩:=h
 refine⟨h1,?_⟩
 rcases h2 with⟨rfl,h2⟩|⟨g,cap,cur,rfl,_,h3,h4,h5,h6,h7⟩
 ·exact .inl ⟨h2,none,rfl⟩
 ·by_cases hc:cap=0
  ·subst hc
   have:n=0:=by omega
   subst this
   exact .inl ⟨rfl,_,rfl⟩
  ·exact .inr ⟨g,cap,cur,rfl,by omega,h3,h4,h5,h6,h7⟩
theorem dC.slice{w:World}{e size n:Nat}{v:Value}{vs:List Value}(h:dC w e size v n vs):∃A c,v=.slice A n c:=by
 rcases h.2 with⟨h0,A,rfl⟩|⟨g,cap,cur,rfl,_⟩
 ·subst h0;exact⟨A,0,rfl⟩
 ·exact⟨_,_,rfl⟩
theorem dC.one{w:World}{e size n:Nat}{v:Value}{vs:List Value}(h:dC w e size v n vs):v.cells=#[v]∧v.oneCell'=true:=by
 obtain⟨A,c,rfl⟩:=h.slice
 exact⟨rfl,by simp[Value.oneCell']⟩
theorem dC.kept{w w':World}{e size n:Nat}{v:Value}{vs:List Value}(ho:dC w e size v n vs)(hk:∀g,ob v=some g→w'.heap[g]? = w.heap[g]?):dC w' e size v n vs:=by
 obtain⟨h1,h2⟩:=ho
 refine⟨h1,?_⟩
 rcases h2 with h2|⟨g,cap,cur,rfl,hc,hh,r⟩
 ·exact .inl h2
 ·exact .inr ⟨g,cap,cur,rfl,hc,(hk g (by simp only[ob];rw[if_neg (by omega)])).trans hh,r⟩
def jD(Z:Nat→Prop)(w:World):(ok:OK)→Value→ok.T→Prop
 |.row ty k,v,xs=>∃vs,dC w ty k.sz v xs.length vs∧np Z w k xs vs
 |.map kk vk,v,es=>∃m bW clock,v=.map (some m)∧w.heap[m]? = some (.map bW clock)∧EN (aI Z w kk) (aI Z w vk) kk.isAgg vk.isAgg es bW.toList∧bW.toList.Pairwise (fun a b=>a.born≠b.born)∧∀e∈bW.toList,e.born<clock
 |.iter kk vk,v,x=>∃r m since seen bW clock,v=.pointer (some ⟨r,0,none⟩)∧w.heap[r]? = some (.mapIter (some m) since seen clock)∧Z m∧w.heap[m]? = some (.map bW clock) ∧
   bW.toList.Pairwise (fun a b=>a.born≠b.born)∧since=clock∧(∀e∈bW.toList,e.born<clock)∧EN (aI Z w kk) (aI Z w vk) kk.isAgg vk.isAgg x.2 (bW.toList.filter fun e => !seen.contains e.born) ∧
   (match x.1 with|none=>True|some c=>∃e∈bW.toList,seen.back? = some e.born∧EN (aI Z w kk) (aI Z w vk) kk.isAgg vk.isAgg [c] [e])
 |.nP,v,x=>∃r,v=.pointer (some ⟨r,0,none⟩)∧w.heap[r]? = some (.stringIter x.1 x.2)
theorem jD.lt{Z:Nat→Prop}{w:World}:∀{ok:OK} {v:Value} {x:ok.T} {b:Nat},jD Z w ok v x→ob v=some b→b<w.heap.size
 |.row ty k,v,xs,b,h,hb=>by
  obtain⟨vs,⟨_,h⟩,_⟩:=h
  rcases h with⟨_,A,rfl⟩|⟨g,cap,cur,rfl,hc,h2,_⟩
  ·cases A<;>simp[ob]at hb
  ·simp only[ob]at hb
   rw[if_neg (by omega)]at hb
   cases hb
   exact(Array.getElem?_eq_some_iff.1 h2).1
 |.map _ _,v,_,b,h,hb=>by
  obtain⟨m,bW,clock,rfl,h2,_⟩:=h
  simp only[ob,Option.some.injEq]at hb;subst hb
  exact(Array.getElem?_eq_some_iff.1 h2).1
 |.iter _ _,v,_,b,h,hb=>by
  obtain⟨r,m,since,seen,bW,clock,rfl,h2,_⟩:=h
  simp only[ob,Option.some.injEq]at hb;subst hb
  exact(Array.getElem?_eq_some_iff.1 h2).1
 |.nP,v,_,b,h,hb=>by
  obtain⟨r,rfl,h2⟩:=h
  simp only[ob,Option.some.injEq]at hb;subst hb
  exact(Array.getElem?_eq_some_iff.1 h2).1
theorem jD.one{Z:Nat→Prop}{w:World}:∀{ok:OK} {v:Value} {x:ok.T},jD Z w ok v x→v.cells=#[v]∧v.oneCell'=true
 |.row ty k,v,xs,h=>by
  obtain⟨vs,h,_⟩:=h
  obtain⟨A,c,rfl⟩:=h.slice
  exact⟨rfl,by simp[Value.oneCell']⟩
 |.map _ _,v,_,h=>by obtain⟨m,bW,clock,rfl,_⟩:=h;exact⟨rfl,by simp[Value.oneCell']⟩
 |.iter _ _,v,_,h=>by obtain⟨r,m,since,seen,bW,clock,rfl,_⟩:=h;exact⟨rfl,by simp[Value.oneCell']⟩
 |.nP,v,_,h=>by obtain⟨r,rfl,_⟩:=h;exact⟨rfl,by simp[Value.oneCell']⟩
theorem jD.kept{Z Z':Nat→Prop}{w w':World}(hz:∀b,Z b→Z' b)(sm:ct Z w w'):∀{ok:OK} {v:Value} {x:ok.T},(∀g,ob v=some g→w'.heap[g]? = w.heap[g]?)→jD Z w ok v x→jD Z' w' ok v x
 |.row ty k,v,xs,hk,h=>by
  obtain⟨vs,h1,h2⟩:=h
  exact⟨vs,h1.kept hk,fun i x hx=>(h2 i x hx).mono hz sm⟩
 |.map _ _,v,_,hk,h=>by
  obtain⟨m,bW,clock,rfl,h2,h3,h4⟩:=h
  exact⟨m,bW,clock,rfl,(hk m rfl).trans h2,h3.imp (fun _ _ h=>h.mono hz sm) (fun _ _ h=>h.mono hz sm),h4⟩
 |.iter _ _,v,x,hk,h=>by
  obtain⟨r,m,since,seen,bW,clock,rfl,h2,h3,h4,h5,h6,h7,h8,h9⟩:=h
  refine⟨r,m,since,seen,bW,clock,rfl,(hk r rfl).trans h2,hz _ h3,(sm m h3).trans h4,h5,h6,h7,h8.imp (fun _ _ h=>h.mono hz sm) (fun _ _ h=>h.mono hz sm),?_⟩
  split
  ·trivial
  ·rename_i c hc
   rw[hc]at h9
   obtain⟨e,he,nq,yV⟩:=h9
   exact⟨e,he,nq,yV.imp (fun _ _ h=>h.mono hz sm) (fun _ _ h=>h.mono hz sm)⟩
 |.nP,v,_,hk,h=>by
  obtain⟨r,rfl,h2⟩:=h
  exact⟨r,rfl,(hk r rfl).trans h2⟩
structure Good(Z:Nat→Prop)(ψ:Nat→Value)(h:Hp)(w:World)(B0:Nat)(O:Nat→Prop):Prop where
 box:∀id ty cs,h id=some (.box ty cs)→∃g vs,ψ id=.pointer (some ⟨g,0,none⟩)∧w.heap[g]? = some (.cells vs ty (0,0))∧an Z ψ h w cs vs.toList∧∀u∈vs.toList,u.oneCell'=true
 row:∀id ok x,h id=some (.own ok x)→jD Z w ok (ψ id) x
 live:∀id g,h id≠none→ob (ψ id)=some g→¬Z g∧(B0≤g∨O g)
 apart:∀id mC g,h id≠none→h mC≠none→ob (ψ id)=some g→ob (ψ mC)=some g→id=mC
 jM:∀b,Z b→b<w.heap.size
variable {Z Z':Nat→Prop} {ψ ψ':Nat→Value} {h h':Hp} {w w':World} {B0:Nat} {O:Nat→Prop}
theorem Good.sub(g:Good Z ψ h w B0 O)(hs:∀id o,h' id=some o→h id=some o):Good Z ψ h' w B0 O:=by
 have hn:∀id,h' id≠none→h id≠none:=fun id hn=>by
  obtain⟨o,ho⟩:=Option.ne_none_iff_exists'.1 hn
  rw[hs id o ho];simp
 refine⟨fun id ty cs hb=>?_,fun id ok x hb=>g.row id ok x (hs _ _ hb),fun id b h1 h2=>g.live id b (hn id h1) h2,fun id mC b h1 h2 h3 h4=>g.apart id mC b (hn _ h1) (hn _ h2) h3 h4,g.jM⟩
 obtain⟨b,vs,h1,h2,h3,h4⟩:=g.box id ty cs (hs _ _ hb)
 exact⟨b,vs,h1,h2,an.less (fun _ h=>h) (ct.refl _ _) (fun id bO=>⟨hn id bO,rfl⟩) h3,h4⟩
theorem Good.freeze(g:Good Z ψ h w B0 O)(hs:∀id o,h' id=some o→h id=some o)(hz:∀b,Z b→Z' b)
  (OJ:∀b,Z' b→Z b∨∃id,h id≠none∧h' id=none∧ob (ψ id)=some b):Good Z' ψ h' w B0 O:=by
 have hn:∀id,h' id≠none→h id≠none:=fun id hn=>by
  obtain⟨o,ho⟩:=Option.ne_none_iff_exists'.1 hn
  rw[hs id o ho];simp
 have lt:∀id b,h id≠none→ob (ψ id)=some b→b<w.heap.size:=by
  intro id b h1 h2
  obtain⟨o,ho⟩:=Option.ne_none_iff_exists'.1 h1
  cases o with
  |box ty cs =>
   obtain⟨gg,vs,e1,e2,_⟩:=g.box id ty cs ho
   rw[e1]at h2;simp only[ob,Option.some.injEq]at h2;subst h2
   exact(Array.getElem?_eq_some_iff.1 e2).1
  |own ok x=>exact(g.row id ok x ho).lt h2
 refine⟨fun id ty cs hb=>?_,fun id ok x hb=>?_,fun id b h1 h2=>⟨fun Zp=>?_,(g.live id b (hn id h1) h2).2⟩,fun id mC b h1 h2 h3 h4=>g.apart id mC b (hn _ h1) (hn _ h2) h3 h4,fun b hb=>?_⟩
 ·obtain⟨b,vs,h1,h2,h3,h4⟩:=g.box id ty cs (hs _ _ hb)
  exact⟨b,vs,h1,h2,an.less hz (ct.refl _ _) (fun id bO=>⟨hn id bO,rfl⟩) h3,h4⟩
 ·exact(g.row id ok x (hs _ _ hb)).kept hz (ct.refl _ _) (fun _ _=>rfl)
 ·rcases OJ b Zp with h3|⟨mC,h3,h4,h5⟩
  ·exact(g.live id b (hn id h1) h2).1 h3
  ·have:=g.apart id mC b (hn id h1) h3 h2 h5
   subst this;exact h1 h4
 ·rcases OJ b hb with h3|⟨mC,h3,h4,h5⟩
  ·exact g.jM b h3
  ·exact lt mC b h3 h5
theorem uJ{ty:TypeId}{k:K}{xs:List k.T}{v:Value}{vs:List Value}(ho:dC w ty k.sz v xs.length vs)(hv:np Z w k xs vs)(hz:∀b,Z b→Z' b)(hb:∀b,ob v=some b→Z' b) :
  aI Z' w (.sl k) xs [v]:=by
 simp only[aI]
 refine⟨v,rfl,?_⟩
 obtain⟨hl,e⟩:=ho
 rcases e with⟨h0,A,rfl⟩|⟨g,cap,cur,rfl,JB,hh,hc,_,hs,aev⟩
 ·have:xs=[]:=List.eq_nil_of_length_eq_zero h0
  subst this
  exact⟨A,0,rfl,Nat.le_refl _,fun _=>rfl,fun i x hx=>by simp at hx⟩
 ·refine⟨some ⟨g,0,none⟩,cap,rfl,hc,fun e=>(by cases e),fun i x hx=>?_⟩
  have hi:i<xs.length:=(List.getElem?_eq_some_iff.1 hx).1
  refine⟨⟨g,0,none⟩,_,rfl,hb g (by simp only[ob];rw[if_neg (by omega)]),(hv i x hx).mono hz (ct.refl _ _),fun j u hu=>?_⟩
  rw[cp,Nat.zero_add]
  simp only[World.cell?,hh]
  rw[List.getElem?_take]at hu
  split at hu
  ·rename_i hj
   rw[List.getElem?_drop]at hu
   rw[←aev,List.getElem?_take]at hu
   split at hu
   ·simpa using hu
   ·cases hu
  ·cases hu
theorem DA{hh:Heap}{a:AV}{v:Value}(g:Good Z ψ hh.get w B0 O)(hz:∀b,Z b→Z' b)(hb:∀id b,a=.bH id→hh.get id≠none→ob (ψ id)=some b→Z' b)(hr:az Z ψ hh.get w a v):az Z' ψ hh.get w (cM hh a) v:=by
 unfold cM
 split
 ·rename_i id
  split
  ·rename_i ty k xs hg
   simp only[az]at hr
   have hv:=hr.2 (by rw[hg];simp)
   subst hv
   obtain⟨vs,h1,h2⟩:=g.row id (.row ty k) xs hg
   simp only[az]
   exact⟨uJ h1 h2 hz (fun b W0=>hb id b rfl (by rw[hg];simp) W0),by simp⟩
  ·rename_i kk vk es hg
   simp only[az]at hr
   have hv:=hr.2 (by rw[hg];simp)
   subst hv
   obtain⟨m,bW,clock,h1,h2,h3,_⟩:=g.row id (.map kk vk) es hg
   simp only[az,aI]
   refine⟨some m,by rw[h1],.inr ⟨m,bW,clock,rfl,hb id m rfl (by rw[hg];simp) (by rw[h1];rfl),h2,h3.imp (fun _ _ h=>h.mono hz (ct.refl _ _)) (fun _ _ h=>h.mono hz (ct.refl _ _))⟩⟩
  ·simp only[az]
 ·exact hr.less hz (ct.refl _ _) (fun id bO=>⟨bO,rfl⟩)
theorem nY{hh:Heap}(g:Good Z ψ hh.get w B0 O)(hz:∀b,Z b→Z' b):∀{cs:List AV} {vs:List Value},(∀id b,AV.bH id∈cs→hh.get id≠none→ob (ψ id)=some b→Z' b)→an Z ψ hh.get w cs vs→an Z' ψ hh.get w (cs.map (cM hh)) vs
 |[],_,_,hr=>by simpa only[an,List.map_nil] using hr
 |a::r,_,hb,hr=>by
  simp only[an,List.map_cons]at hr ⊢
  obtain⟨v,us,rfl,h1,h2⟩:=hr
  exact⟨v,us,rfl,DA g hz (fun id b e=>hb id b (by rw[e];simp)) h1,nY g hz (fun id b e=>hb id b (List.mem_cons_of_mem _ e)) h2⟩
theorem ML(hh:Heap)(a:AV):∀id o,(drop1 hh a).get id=some o→hh.get id=some o:=by
 intro id o hg
 unfold drop1 at hg
 split at hg
 ·exact(Heap.uI hg).1
 ·exact hg
theorem dZ:∀(cs:List AV) (hh:Heap),∀id o,(cI hh cs).get id=some o→hh.get id=some o
 |[],_,_,_,hg=>hg
 |c::r,hh,id,o,hg=>ML hh c id o (dZ r (drop1 hh c) id o hg)
theorem Ao:∀(cs:List AV) (hh:Heap) (id:Nat),AV.bH id∈cs→(cI hh cs).get id=none
 |[],_,_,hm=>by simp at hm
 |c::r,hh,id,hm=>by
  simp only[cI]
  rcases List.mem_cons.1 hm with rfl|hm
  ·cases hg:(cI (drop1 hh (.bH id)) r).get id with
   |none=>rfl
   |some o =>
    have:=dZ r _ id o hg
    simp only[drop1,Heap.gG]at this;cases this
  ·exact Ao r _ id hm
theorem o4:∀(cs:List AV) (hh:Heap) (id:Nat),AV.bH id∉cs→(cI hh cs).get id=hh.get id
 |[],_,_,_=>rfl
 |c::r,hh,id,hm=>by
  simp only[cI]
  rw[o4 r _ id (fun h=>hm (List.mem_cons_of_mem _ h))]
  unfold drop1
  split
  ·rename_i mC
   exact Heap.iu (fun e=>hm (by rw[e];simp)) hh
  ·rfl
def qy(Z:Nat→Prop)(ψ:Nat→Value)(h:Hp)(cs:List AV):Nat→Prop:=fun b=>Z b∨∃id,AV.bH id∈cs∧h id≠none∧ob (ψ id)=some b
theorem iv{hh:Heap}(g:Good Z ψ hh.get w B0 O)(cs:List AV):Good (qy Z ψ hh.get cs) ψ (cI hh cs).get w B0 O :=
 g.freeze (dZ cs hh) (fun _ hb=>.inl hb) (fun b hb=>by
  rcases hb with hb|⟨id,h1,h2,h3⟩
  ·exact .inl hb
  ·exact .inr ⟨id,h2,Ao cs hh id h1,h3⟩)
end Go.Vs
namespace Go.Vs
def Own(ψ:Nat→Value)(h:Hp)(b:Nat):Prop:=∃id,h id≠none∧ob (ψ id)=some b
structure c9(ψ:Nat→Value)(h:Hp)(w w':World):Prop where
 os:w'.os=w.os
 tape:w'.tape=w.tape
 output:w'.output=w.output
 size:w.heap.size≤w'.heap.size
 block:∀b,b<w.heap.size→¬Own ψ h b→w'.heap[b]? = w.heap[b]?
structure Next(Z:Nat→Prop)(ψ:Nat→Value)(h:Hp)(w:World)(B0:Nat)(O:Nat→Prop)(N:Nat→Prop)(Z':Nat→Prop)(ψ':Nat→Value)(h':Hp)(w':World):Prop where
 fQ:∀b,Z b→Z' b
 eL:∀b,Z' b→Z b∨Own ψ h b∨w.heap.size≤b
 keep:c9 ψ h w w'
 ids:∀id,h' id≠none→(h id≠none∧ψ' id=ψ id)∨N id
 dV:Good Z' ψ' h' w' B0 O
variable {Z Z':Nat→Prop} {ψ ψ':Nat→Value} {h h':Hp} {w w':World} {B0:Nat} {O:Nat→Prop} {N:Nat→Prop}
theorem c9.refl(ψ:Nat→Value)(h:Hp)(w:World):c9 ψ h w w:=⟨rfl,rfl,rfl,Nat.le_refl _,fun _ _ _=>rfl⟩
theorem c9.same(k:c9 ψ h w w')(g:Good Z ψ h w B0 O):ct Z w w':=fun b hb=>k.block b (g.jM b hb) (fun⟨id,h1,h2⟩=>(g.live id b h1 h2).1 hb)
theorem Next.same(n:Next Z ψ h w B0 O N Z' ψ' h' w')(g:Good Z ψ h w B0 O):ct Z w w':=n.keep.same g
theorem Next.refl(g:Good Z ψ h w B0 O):Next Z ψ h w B0 O N Z ψ h w :=
 ⟨fun _ h=>h,fun _ h=>.inl h,c9.refl _ _ _,fun _ bO=>.inl ⟨bO,rfl⟩,g⟩
theorem Next.rep(n:Next Z ψ h w B0 O N Z' ψ' h' w')(g:Good Z ψ h w B0 O){a:AV}{v:Value}(hm:aJ (fun id=>¬N id) a)(hr:az Z ψ h w a v):az Z' ψ' h' w' a v :=
 hr.move n.fQ (n.same g) (fun id hp bO=>(n.ids id bO).resolve_right hp) hm
theorem Good.bP(g:Good Z ψ h w B0 O){b:Nat}(ho:Own ψ h b):b<w.heap.size:=by
 obtain⟨id,h1,h2⟩:=ho
 obtain⟨o,ho⟩:=Option.ne_none_iff_exists'.1 h1
 cases o with
 |box ty cs =>
  obtain⟨gg,vs,e1,e2,_⟩:=g.box id ty cs ho
  rw[e1]at h2;simp only[ob,Option.some.injEq]at h2;subst h2
  exact(Array.getElem?_eq_some_iff.1 e2).1
 |own ok x=>exact(g.row id ok x ho).lt h2
theorem Good.more(g:Good Z ψ h w B0 O)(k:c9 ψ h w w')(sP:∀b,Own ψ h b→w'.heap[b]? = w.heap[b]?)
  (hold:∀id,¬N id→h' id=h id∧ψ' id=ψ id)
  (bu:∀id ty cs,h id=some (.box ty cs)→aC (fun i=>¬N i) cs)
  (Pd:∀id ty cs,N id→h' id=some (.box ty cs)→∃g vs,ψ' id=.pointer (some ⟨g,0,none⟩)∧w'.heap[g]? = some (.cells vs ty (0,0))∧an Z ψ' h' w' cs vs.toList∧∀u∈vs.toList,u.oneCell'=true)
  (n6:∀id ok x,N id→h' id=some (.own ok x)→jD Z w' ok (ψ' id) x)
  (Ap:∀id b,N id→h' id≠none→ob (ψ' id)=some b→w.heap.size≤b)
  (JC:∀id mC b,N id→N mC→h' id≠none→h' mC≠none→ob (ψ' id)=some b→ob (ψ' mC)=some b→id=mC) (hB:B0≤w.heap.size) :
  Next Z ψ h w B0 O N Z ψ' h' w':=by
 have nr:∀id,h' id≠none→(h id≠none∧ψ' id=ψ id)∨N id:=fun id bO=>by
  by_cases hn:N id
  ·exact .inr hn
  ·obtain⟨e1,e2⟩:=hold id hn
   exact .inl ⟨by rwa [e1]at bO,e2⟩
 have sm:ct Z w w':=k.same g
 have xT:∀id b,¬N id→h' id≠none→ob (ψ' id)=some b→Own ψ h b:=fun id b hn h1 h2=>by
  obtain⟨e1,e2⟩:=hold id hn
  exact⟨id,by rwa [e1]at h1,by rwa [e2]at h2⟩
 refine⟨fun _ h=>h,fun _ h=>.inl h,k,nr,⟨fun id ty cs hb=>?_,fun id ok x hb=>?_,fun id b h1 h2=>?_,fun id mC b h1 h2 h3 h4=>?_,fun b hb=>Nat.lt_of_lt_of_le (g.jM b hb) k.size⟩⟩
 ·by_cases hn:N id
  ·exact Pd id ty cs hn hb
  ·obtain⟨e1,e2⟩:=hold id hn
   rw[e1]at hb
   obtain⟨gg,vs,h1,h2,h3,h4⟩:=g.box id ty cs hb
   have ho:Own ψ h gg:=⟨id,by rw[hb];simp,by rw[h1];rfl⟩
   exact⟨gg,vs,by rw[e2,h1],(sP gg ho).trans h2,h3.move (fun _ h=>h) sm (fun i hp bO=>(nr i bO).resolve_right hp) (bu id ty cs hb),h4⟩
 ·by_cases hn:N id
  ·exact n6 id ok x hn hb
  ·obtain⟨e1,e2⟩:=hold id hn
   rw[e1]at hb
   rw[e2]
   exact(g.row id ok x hb).kept (fun _ h=>h) sm (fun gg MM=>sP gg ⟨id,by rw[hb];simp,MM⟩)
 ·by_cases hn:N id
  ·have:=Ap id b hn h1 h2
   exact⟨fun hz=>by have:=g.jM b hz;omega,.inl (by omega)⟩
  ·obtain⟨e1,e2⟩:=hold id hn
   rw[e1]at h1;rw[e2]at h2
   exact g.live id b h1 h2
 ·by_cases hn:N id<;>by_cases JD:N mC
  ·exact JC id mC b hn JD h1 h2 h3 h4
  ·have:=Ap id b hn h1 h3
   have:=g.bP (xT mC b JD h2 h4);omega
  ·have:=Ap mC b JD h2 h4
   have:=g.bP (xT id b hn h1 h3);omega
  ·obtain⟨e1,e2⟩:=hold id hn
   obtain⟨e3,e4⟩:=hold mC JD
   rw[e1]at h1;rw[e2]at h3;rw[e3]at h2;rw[e4]at h4
   exact g.apart id mC b h1 h2 h3 h4
end Go.Vs
namespace Go.Vs
variable {P:Program} {Z Z':Nat→Prop} {ψ ψ':Nat→Value} {h h':Hp} {w w':World} {B0:Nat} {O:Nat→Prop} {N:Nat→Prop}
theorem rN{α:Type}:∀(vs cs:List α) (off:Nat),off+vs.length≤cs.length→dU cs off vs=cs.take off++vs++cs.drop (off+vs.length)
 |[],cs,off,_=>by simp[dU]
 |v::r,cs,off,hl=>by
  simp only[List.length_cons]at hl
  simp only[dU]
  rw[rN r (cs.set off v) (off+1) (by rw[List.length_set];omega)]
  have h1:(cs.set off v).take (off+1)=cs.take off++[v]:=by
   rw[List.take_set,List.take_succ_eq_append_getElem (by omega),List.set_append_right _ _ (by rw[List.length_take];omega)]
   rw[List.length_take,Nat.min_eq_left (by omega)]
   simp
  have h2:(cs.set off v).drop (off+1+r.length)=cs.drop (off+(r.length+1)):=by
   rw[List.drop_set_of_lt (by omega)];congr 1;omega
  rw[h1,h2,List.append_assoc,List.append_assoc,List.append_assoc];rfl
theorem fZ{t:TypeId}{b:Bool}(hb:Dt P t=some b):(isAgg t).run P w=.ok b w:=by
 unfold Dt at hb
 obtain⟨d,hd,rfl⟩:=Option.map_eq_some_iff.1 hb
 simp only[isAgg,Sem.run_bind,run_underlying hd,Result.andThen_ok]
 cases d<;>rfl
theorem sQ{t:TypeId}{d:TypeDesc}(hd:P.underlying t=some d):∃i,P.info? t=some i:=by
 unfold Program.underlying at hd
 split at hd
 ·rename_i heq;exact⟨_,heq⟩
 ·rename_i heq;exact⟨_,heq⟩
 ·cases hd
theorem dz{t:TypeId}{i:TypeInfo}(hi:P.info? t=some i):(sizeOf t).run P w=.ok (P.cellsOf t) w:=by
 simp[sizeOf,typeInfo,hi,Program.cellsOf]
theorem xU{t:TypeId}{b:Bool}(hb:Dt P t=some b):∃i,P.info? t=some i:=by
 unfold Dt at hb
 obtain⟨d,hd,rfl⟩:=Option.map_eq_some_iff.1 hb
 exact sQ hd
theorem jN{t:TypeId}{cs:List AV}{us:List Value}{a:Addr}{x:AV}(hr:an Z ψ h w cs us)(hc:∀(j:Nat) u,us[j]? = some u→w.cell? (a.add j)=some u)(hx:dY P t cs=some x) :
  ∃V,(Instr.loadAt t (.pointer (some a))).run P w=.ok V w∧az Z ψ h w x V:=by
 unfold dY at hx
 have hlen:=hr.length
 split at hx
 ·rename_i hb
  split at hx
  ·rename_i hl
   cases hx
   obtain⟨i,hi⟩:=xU hb
   refine⟨.agg (us.take (P.cellsOf t)).toArray,?_,by simp only[az];exact⟨_,rfl,by simpa using hr.take (P.cellsOf t)⟩⟩
   have aF:(us.take (P.cellsOf t)).length=P.cellsOf t:=by rw[List.length_take];omega
   have hld:=run_loadCells_list (P:=P) w a (us.take (P.cellsOf t)) (fun j v hv=>hc j v (by
    rw[List.getElem?_take]at hv;split at hv
    ·exact hv
    ·cases hv))
   rw[aF]at hld
   simp[Instr.loadAt,Instr.sureAddr,loadVar,fZ hb,dz hi,hld]
  ·cases hx
 ·rename_i hb
  split at hx
  ·rename_i c r
   cases hx
   simp only[an]at hr
   obtain⟨v,iX,rfl,h1,h2⟩:=hr
   refine⟨v,?_,h1⟩
   have:=hc 0 v rfl
   rw[Dz]at this
   simp[Instr.loadAt,Instr.sureAddr,loadVar,fZ hb,this]
  ·cases hx
 ·cases hx
theorem kO{t:TypeId}{i:TypeInfo}(hi:P.info? t=some i)(g off:Nat)(V:Value)(cur:Array Value)(ty:TypeId)(hg:w.heap[g]? = some (.cells cur ty (0,0)))(hs:V.cells.size=P.cellsOf t)
  (hl:off+V.cells.size≤cur.size) (h1:∀v∈V.cells.toList,v.oneCell'=true) :
  (Instr.storeAt t (.pointer (some ⟨g,off,none⟩)) V).run P w=.ok () (w.setRow g (cur.toList.take off++V.cells.toList++cur.toList.drop (off+V.cells.size)).toArray):=by
 have uK:=run_storeCells_at P g off ty V.cells.toList 0 cur w hg (by simpa using hl) h1
 simp only[Nat.add_zero,Array.length_toList]at uK
 simp[Instr.storeAt,Instr.sureAddr,storeVar,dz hi,hs,uK]
end Go.Vs
namespace Go.Vs
variable {P:Program} {Z Z':Nat→Prop} {ψ ψ':Nat→Value} {h h':Hp} {w w':World} {B0:Nat} {O:Nat→Prop} {N:Nat→Prop}
def ed{α:Type}(f:Nat→α)(i:Nat)(v:α):Nat→α:=fun j=>if j=i then v else f j
theorem bw{α:Type}(f:Nat→α)(i:Nat)(v:α):ed f i v i=v:=by simp[ed]
theorem db{α:Type}(f:Nat→α){i j:Nat}(v:α)(br:j≠i):ed f i v j=f j:=by simp[ed,br]
theorem c9.alloc(ψ:Nat→Value)(h:Hp)(w:World)(o:Obj):c9 ψ h w (w.alloc o) :=
 ⟨rfl,rfl,rfl,by rw[World.size_alloc];omega,fun b hb _=>heap_alloc_old w o hb⟩
theorem Aq(g:Good Z ψ h w B0 O)(hB:B0≤w.heap.size)(id:Nat)(ty:TypeId){cs:List AV}{vs:Array Value}(hN:N id)(hr:an Z ψ h w cs vs.toList)(h1:∀u∈vs.toList,u.oneCell'=true)
  (bu:∀i ty cs,h i=some (.box ty cs)→aC (fun i=>i≠id) cs) (hm:aC (fun i=>i≠id) cs) :
  Next Z ψ h w B0 O N Z (ed ψ id (.pointer (some ⟨w.heap.size,0,none⟩))) (ed h id (some (.box ty cs))) (w.alloc (.cells vs ty)):=by
 have n:Next Z ψ h w B0 O (·=id) Z (ed ψ id (.pointer (some ⟨w.heap.size,0,none⟩))) (ed h id (some (.box ty cs))) (w.alloc (.cells vs ty)):=by
  refine g.more (c9.alloc _ _ _ _) (fun b hb=>heap_alloc_old w _ (g.bP hb)) (fun i hi=>⟨db _ _ hi,db _ _ hi⟩) (fun i yS cs' hb=>?_) (fun i yS cs' hi hb=>?_) (fun i ok x hi hb=>?_) (fun i b hi br hb=>?_) (fun i i' b hi tF _ _ _ _=>by subst hi;exact tF.symm) hB
  ·exact bu i yS cs' hb
  ·subst hi
   rw[bw]at hb;cases hb
   refine⟨w.heap.size,vs,bw _ _ _,heap_alloc_new _ _,?_,h1⟩
   refine hr.move (fun _ h=>h) ((c9.alloc ψ h w _).same g) (fun j hj br=>?_) hm
   rw[db _ _ hj]at br
   exact⟨br,db _ _ hj⟩
  ·subst hi;rw[bw]at hb;cases hb
  ·subst hi;rw[bw]at hb;simp only[ob,Option.some.injEq]at hb;omega
 exact⟨n.fQ,n.eL,n.keep,fun i hi=>(n.ids i hi).imp (fun h=>h) (fun e=>by subst e;exact hN),n.dV⟩
theorem Pe{h:Hp}{id:Nat}{o:Ob}(bO:h id≠none):∀i,ed h id (some o) i≠none→h i≠none:=fun i hi=>by
 by_cases e:i=id
 ·subst e;exact bO
 ·rwa [db _ _ e]at hi
theorem Good.write(g:Good Z ψ h w B0 O)(id:Nat)(bO:h id≠none)(k:c9 ψ h w w')(Pf:∀b,ob (ψ id)≠some b→b<w.heap.size→w'.heap[b]? = w.heap[b]?)(o':Ob)
  (Pd:∀ty cs,o'=.box ty cs→∃gg vs,ψ id=.pointer (some ⟨gg,0,none⟩)∧w'.heap[gg]? = some (.cells vs ty (0,0))∧an Z ψ h w' cs vs.toList∧∀u∈vs.toList,u.oneCell'=true)
  (n6:∀ok x,o'=.own ok x→jD Z w' ok (ψ id) x) :
  Next Z ψ h w B0 O N Z ψ (ed h id (some o')) w':=by
 have hs:=Pe (o:=o') bO
 have sm:=k.same g
 refine⟨fun _ h=>h,fun _ h=>.inl h,k,fun i hi=>.inl ⟨hs i hi,rfl⟩,⟨fun i ty cs hb=>?_,fun i ok x hb=>?_,fun i b h1 h2=>g.live i b (hs i h1) h2,fun i i' b h1 h2 h3 h4=>g.apart i i' b (hs i h1) (hs i' h2) h3 h4,fun b hb=>Nat.lt_of_lt_of_le (g.jM b hb) k.size⟩⟩
 ·by_cases e:i=id
  ·subst e
   rw[bw]at hb;cases hb
   obtain⟨gg,vs,h1,h2,h3,h4⟩:=Pd _ _ rfl
   exact⟨gg,vs,h1,h2,h3.less (fun _ h=>h) (ct.refl _ _) (fun j hj=>⟨hs j hj,rfl⟩),h4⟩
  ·rw[db _ _ e]at hb
   obtain⟨gg,vs,h1,h2,h3,h4⟩:=g.box i ty cs hb
   refine⟨gg,vs,h1,?_,h3.less (fun _ h=>h) sm (fun j hj=>⟨hs j hj,rfl⟩),h4⟩
   rw[Pf gg (fun hh=>e (g.apart i id gg (by rw[hb];simp) bO (by rw[h1];rfl) hh)) (Array.getElem?_eq_some_iff.1 h2).1]
   exact h2
 ·by_cases e:i=id
  ·subst e
   rw[bw]at hb;cases hb
   exact n6 _ _ rfl
  ·rw[db _ _ e]at hb
   exact(g.row i ok x hb).kept (fun _ h=>h) sm (fun gg MM=>Pf gg (fun hh=>e (g.apart i id gg (by rw[hb];simp) bO MM hh)) (g.bP ⟨i,by rw[hb];simp,MM⟩))
theorem c9.setRow{gg:Nat}(ho:Own ψ h gg)(arr:Array Value):c9 ψ h w (w.setRow gg arr) :=
 ⟨rfl,rfl,rfl,by simp[World.setRow],fun b _ hb=>by
  have:gg≠b:=fun e=>hb (e▸ho)
  simp[World.setRow,Array.getElem?_modify,this]⟩
theorem setRow_other{gg b:Nat}(arr:Array Value)(br:gg≠b):(w.setRow gg arr).heap[b]? = w.heap[b]? := by
 simp[World.setRow,Array.getElem?_modify,br]
theorem Ar(g:Good Z ψ h w B0 O){id:Nat}{ty:TypeId}{cs vs:List AV}(hb:h id=some (.box ty cs)){t:TypeId}{i:TypeInfo}(hi:P.info? t=some i){off:Nat}{V:Value}
  (hv:an Z ψ h w vs V.cells.toList) (h1:∀u∈V.cells.toList,u.oneCell'=true) (hs:V.cells.size=P.cellsOf t) (hl:off+vs.length≤cs.length) {a:Addr} (ha:a=⟨TV (ψ id),off,none⟩) :
  ∃w',(Instr.storeAt t (.pointer (some a)) V).run P w=.ok () w'∧Next Z ψ h w B0 O N Z ψ (ed h id (some (.box ty (dU cs off vs)))) w':=by
 obtain⟨gg,arr,e1,e2,e3,e4⟩:=g.box id ty cs hb
 have hlen:=hv.length
 have Pg:=e3.length
 simp only[Array.length_toList]at hlen Pg
 have bO:h id≠none:=by rw[hb];simp
 have ho:Own ψ h gg:=⟨id,bO,by rw[e1];rfl⟩
 rw[e1]at ha
 simp only[TV]at ha
 subst ha
 refine⟨_,kO hi gg off V arr ty e2 hs (by omega) h1,?_⟩
 have kk:=c9.setRow (w:=w) ho ((arr.toList.take off++V.cells.toList++arr.toList.drop (off+V.cells.size)).toArray)
 refine g.write id bO kk (fun b hb _=>setRow_other _ (fun e=>hb (by rw[e1];simp[ob,e]))) _ (fun yS cs' he=>?_) (fun _ _ he=>by cases he)
 cases he
 refine⟨gg,_,e1,setRow_heap w gg arr _ ty _ e2,?_,?_⟩
 ·rw[rN _ _ _ hl]
  have h5:an Z ψ h w (cs.take off++vs++cs.drop (off+vs.length)) (arr.toList.take off++V.cells.toList++arr.toList.drop (off+V.cells.size)):=by
   rw[←hlen];exact((e3.take off).append hv).append (e3.drop (off+vs.length))
  exact h5.less (fun _ h=>h) (kk.same g) (fun j hj=>⟨hj,rfl⟩)
 ·intro u hu
  rw[List.toList_toArray]at hu
  rcases List.mem_append.1 hu with hu|hu
  ·rcases List.mem_append.1 hu with hu|hu
   ·exact e4 u (List.mem_of_mem_take hu)
   ·exact h1 u hu
  ·exact e4 u (List.mem_of_mem_drop hu)
theorem W9{α:Type}(cur V:List α)(m off sz L:Nat)(h:off+V.length≤sz)(h1:m+sz≤L)(h2:L≤cur.length) :
  ((cur.take (m+off)++V++cur.drop (m+off+V.length)).take L |>.drop m |>.take sz)=((cur.drop m).take sz).take off++V++((cur.drop m).take sz).drop (off+V.length):=by
 apply List.ext_getElem?
 intro q
 simp only[List.getElem?_take,List.getElem?_drop,List.getElem?_append,List.length_append,List.length_take,List.length_drop]
 rw[Nat.min_eq_left (show m+off≤cur.length by omega),Nat.min_eq_left (show off≤min sz (cur.length-m) by omega)]
 repeat' split
 all_goals first|rfl|(exfalso;omega)|(congr 1;omega)|(rw[List.getElem?_eq_none (by omega)])
theorem TW{α:Type}(cur V:List α)(m off sz L p:Nat)(h:off+V.length≤sz)(h1:m+sz≤L)(h2:L≤cur.length)(h3:p+sz≤L)(h4:p+sz≤m∨m+sz≤p) :
  ((cur.take (m+off)++V++cur.drop (m+off+V.length)).take L |>.drop p |>.take sz)=(cur.drop p).take sz:=by
 apply List.ext_getElem?
 intro q
 simp only[List.getElem?_take,List.getElem?_drop,List.getElem?_append,List.length_append,List.length_take]
 rw[Nat.min_eq_left (show m+off≤cur.length by omega)]
 repeat' split
 all_goals first|rfl|(exfalso;omega)|(congr 1;omega)|(rw[List.getElem?_eq_none (by omega)])
theorem aI.As{k:K}{x:k.T}{vs us:List Value}(e:vs=us)(hr:aI Z w k x vs):aI Z w k x us:=e▸hr
theorem Au(g:Good Z ψ h w B0 O){id:Nat}{ty:TypeId}{kk:K}{xs:List kk.T}(hb:h id=some (.own (.row ty kk) xs)){t:TypeId}{i:TypeInfo}(hi:P.info? t=some i){n off:Nat}{x y:kk.T}{V:Value}
  (hx:xs[n]? = some x) (hs:V.cells.size=P.cellsOf t) (hl:off+V.cells.size≤kk.sz) {a:Addr} (ha:a=⟨TV (ψ id),n*kk.sz+off,none⟩)
  (hy:∀us,aI Z w kk x us→aI Z w kk y (us.take off++V.cells.toList++us.drop (off+V.cells.size))) (h1:∀u∈V.cells.toList,u.oneCell'=true) :
  ∃w',(Instr.storeAt t (.pointer (some a)) V).run P w=.ok () w'∧Next Z ψ h w B0 O N Z ψ (ed h id (some (.own (.row ty kk) (xs.set n y)))) w':=by
 obtain⟨vs,ho,hv⟩:=g.row id (.row ty kk) xs hb
 have bO:h id≠none:=by rw[hb];simp
 have hn:n<xs.length:=(List.getElem?_eq_some_iff.1 hx).1
 have JB:=kk.ir
 have hmul:n*kk.sz+kk.sz≤xs.length*kk.sz:=by rw[←Nat.succ_mul];exact Nat.mul_le_mul_right _ hn
 obtain⟨hl1,e⟩:=ho
 rcases e with⟨h0,_⟩|⟨gg,cap,cur,e1,e2,e3,e4,e5,e6,e7⟩
 ·omega
 have Xa:xs.length*kk.sz≤cap*kk.sz:=Nat.mul_le_mul_right _ e4
 have jE:ob (ψ id)=some gg:=by rw[e1];simp only[ob];rw[if_neg (by omega)]
 have ho:Own ψ h gg:=⟨id,bO,jE⟩
 have Gv:a=⟨gg,n*kk.sz+off,none⟩:=by rw[ha,e1];rfl
 subst Gv
 refine⟨_,kO hi gg (n*kk.sz+off) V cur ty e3 hs (by omega) h1,?_⟩
 have hk:=c9.setRow (w:=w) ho ((cur.toList.take (n*kk.sz+off)++V.cells.toList++cur.toList.drop (n*kk.sz+off+V.cells.size)).toArray)
 have sm:=hk.same g
 refine g.write id bO hk (fun b hb _=>setRow_other _ (fun e=>hb (by rw[jE,e]))) _ (fun _ _ he=>by cases he) (fun YT x' he=>?_)
 cases he
 have tG:cur.toList.length=cap*kk.sz:=by rw[Array.length_toList];exact e6
 have hVl:V.cells.toList.length=V.cells.size:=Array.length_toList
 let dd:=cur.toList.take (n*kk.sz+off)++V.cells.toList++cur.toList.drop (n*kk.sz+off+V.cells.size)
 have JE:dd.length=cap*kk.sz:=by
  simp only[dd,List.length_append,List.length_take,List.length_drop,tG,hVl];omega
 have TX:(xs.set n y).length=xs.length:=List.length_set
 have tH:vs=cur.toList.take (xs.length*kk.sz):=e7.symm
 refine⟨dd.take (xs.length*kk.sz),⟨by rw[List.length_take,JE,TX];omega,.inr ⟨gg,cap,dd.toArray,by rw[TX];exact e1,e2,setRow_heap w gg cur _ ty _ e3,by rw[TX];exact e4,e5,by simpa using JE,by rw[TX]⟩⟩,fun j z hz=>?_⟩
 have hj:j<xs.length:=by have:=(List.getElem?_eq_some_iff.1 hz).1;rwa [TX]at this
 have hmj:j*kk.sz+kk.sz≤xs.length*kk.sz:=by rw[←Nat.succ_mul];exact Nat.mul_le_mul_right _ hj
 have Zq:∀p,p+kk.sz≤xs.length*kk.sz→(vs.drop p).take kk.sz=(cur.toList.drop p).take kk.sz:=fun p hp=>by
  rw[tH,List.drop_take,List.take_take,Nat.min_eq_left (by omega)]
 by_cases OL:j=n
 ·subst OL
  rw[List.getElem?_set_self hn]at hz;cases hz
  have hu:=hy _ (hv j x hx)
  rw[Zq _ hmj,←hVl]at hu
  refine aI.mono (fun _ h=>h) sm (aI.As ?_ hu)
  have:=W9 cur.toList V.cells.toList (j*kk.sz) off kk.sz (xs.length*kk.sz) (by omega) hmj (by omega)
  rw[←this,hVl]
 ·rw[List.getElem?_set_ne (fun e=>OL e.symm)]at hz
  have hu:=hv j z hz
  rw[Zq _ hmj]at hu
  refine aI.mono (fun _ h=>h) sm (aI.As ?_ hu)
  have h4:j*kk.sz+kk.sz≤n*kk.sz∨n*kk.sz+kk.sz≤j*kk.sz:=by
   rcases Nat.lt_or_ge j n with h|h
   ·left;rw[←Nat.succ_mul];exact Nat.mul_le_mul_right _ h
   ·right;rw[←Nat.succ_mul];exact Nat.mul_le_mul_right _ (by omega)
  have:=TW cur.toList V.cells.toList (n*kk.sz) off kk.sz (xs.length*kk.sz) (j*kk.sz) (by omega) hmul (by omega) hmj h4
  rw[←this,hVl]
theorem tI{k:K}{ys:List k.T}{u:Value}(hr:aI Z w (.sl k) ys [u]) :
  (u=.slice none 0 0∧ys=[])∨∃a c news,u=.slice (some a) ys.length c∧ys.length≤c∧news.length=ys.length*k.sz∧(∀(j:Nat) q,news[j]? = some q→w.cell? (a.add j)=some q)∧(∀q∈news,q.oneCell'=true)∧np Z w k ys news:=by
 simp only[aI]at hr
 obtain⟨v,hv,A,c,rfl,hl,hn,he⟩:=hr
 cases hv
 cases A with
 |none =>
  left
  cases ys with
  |nil=>exact⟨by rw[hn rfl];rfl,rfl⟩
  |cons y r=>obtain⟨a,us,h1,_⟩:=he 0 y rfl;cases h1
 |some a =>
  right
  have Xb:∀i (hi:i<ys.length),∃us,aI Z w k ys[i] us∧∀(j:Nat) u,us[j]? = some u→w.cell? (a.add (i*k.sz+j))=some u:=fun i hi=>by
   obtain⟨a',us,h1,_,h3,h4⟩:=he i _ (List.getElem?_eq_getElem hi)
   cases h1
   exact⟨us,h3,h4⟩
  have JB:=k.ir
  let news:=(List.range (ys.length*k.sz)).map fun j=>(w.cell? (a.add j)).getD default
  have DB:∀j,j<ys.length*k.sz→∃q,w.cell? (a.add j)=some q∧q.oneCell'=true:=fun j hj=>by
   have hi:j / k.sz<ys.length:=Nat.div_lt_of_lt_mul (by rw[Nat.mul_comm];exact hj)
   obtain⟨us,h3,h4⟩:=Xb (j / k.sz) hi
   have hm:j%k.sz<us.length:=by rw[h3.len];exact Nat.mod_lt _ JB
   refine⟨us[j%k.sz],?_,h3.one _ (List.getElem_mem hm)⟩
   have:=h4 (j%k.sz) _ (List.getElem?_eq_getElem hm)
   rwa [Nat.mul_comm,Nat.div_add_mod]at this
  have ns:∀j,j<ys.length*k.sz→∃q,news[j]? = some q∧w.cell? (a.add j)=some q:=fun j hj=>by
   obtain⟨q,hq,_⟩:=DB j hj
   exact⟨q,by simp[news,List.getElem?_map,List.getElem?_range hj,hq],hq⟩
  have hlen:news.length=ys.length*k.sz:=by simp[news]
  refine⟨a,c,news,rfl,hl,hlen,fun j q hq=>?_,fun q hq=>?_,fun i x hx=>?_⟩
  ·have hj:j<ys.length*k.sz:=by rw[←hlen];exact(List.getElem?_eq_some_iff.1 hq).1
   obtain⟨q',h1,h2⟩:=ns j hj
   rw[h1]at hq;cases hq;exact h2
  ·obtain⟨j,hj,rfl⟩:=List.mem_iff_getElem.1 hq
   obtain⟨q',h1,h2⟩:=ns j (by omega)
   obtain⟨q2,h3,h4⟩:=DB j (by omega)
   rw[List.getElem?_eq_getElem hj]at h1;cases h1
   rw[h2]at h3;cases h3;exact h4
  ·have hi:i<ys.length:=(List.getElem?_eq_some_iff.1 hx).1
   obtain⟨us,h3,h4⟩:=Xb i hi
   rw[List.getElem?_eq_getElem hi]at hx;cases hx
   refine aI.As ?_ h3
   have hul:=h3.len
   have hmul:i*k.sz+k.sz≤ys.length*k.sz:=by rw[←Nat.succ_mul];exact Nat.mul_le_mul_right _ hi
   apply List.ext_getElem?
   intro q
   rw[List.getElem?_take,List.getElem?_drop]
   by_cases hq:q<k.sz
   ·rw[if_pos hq]
    obtain⟨q',h5,h6⟩:=ns (i*k.sz+q) (by omega)
    rw[h5]
    have h7:=h4 q _ (List.getElem?_eq_getElem (by omega))
    rw[List.getElem?_eq_getElem (by omega)]
    rw[h6]at h7;cases h7;rfl
   ·rw[if_neg hq,List.getElem?_eq_none (by omega)]
theorem MN{hh:Heap}(g:Good Z ψ hh.get w B0 O){x:AV}{u:Value}{k:K}{ys:List k.T}(hx:rowOf hh x k=some ys)(hr:az Z ψ hh.get w x u) :
  (u=.slice none 0 0∧ys=[])∨∃a c news,u=.slice (some a) ys.length c∧ys.length≤c∧news.length=ys.length*k.sz∧(∀(j:Nat) q,news[j]? = some q→w.cell? (a.add j)=some q)∧(∀q∈news,q.oneCell'=true)∧np Z w k ys news:=by
 unfold rowOf at hx
 split at hx
 ·rename_i ex k' xs heq
  split at hx
  ·rename_i e
   subst e
   cases hx
   cases x with
   |sl ex' k'' Zr =>
    simp only[cM]at heq
    cases heq
    simp only[az]at hr
    exact tI hr.1
   |bH id =>
    simp only[cM]at heq
    split at heq
    ·rename_i ty kk zs hg
     cases heq
     simp only[az]at hr
     have hv:=hr.2 (by rw[hg];simp)
     subst hv
     obtain⟨vs,ho,hv⟩:=g.row id (.row ty _) _ hg
     have h1:=tI (uJ (Z':=fun b=>Z b∨ob (ψ id)=some b) ho hv (fun b hb=>.inl hb) (fun b hb=>.inr hb))
     rcases h1 with h1|⟨a,c,news,h1,h2,h3,h4,h5,_⟩
     ·exact .inl h1
     ·right
      refine⟨a,c,news,h1,h2,h3,h4,h5,?_⟩
      have TY:news=vs:=by
       obtain⟨hl,e⟩:=ho
       rcases e with⟨e,_⟩|⟨gg,cap,cur,e,_,e3,_,_,_,e7⟩
       ·rw[e,Nat.zero_mul]at h3 hl
        rw[List.eq_nil_of_length_eq_zero h3,List.eq_nil_of_length_eq_zero hl]
       ·rw[e]at h1;cases h1
        apply List.ext_getElem?
        intro j
        by_cases hj:j<xs.length*k'.sz
        ·have hn:=h4 j _ (List.getElem?_eq_getElem (by omega))
         rw[cp,Nat.zero_add]at hn
         simp only[World.cell?,e3]at hn
         have xV:vs[j]? = cur.toList[j]? := by rw[←e7,List.getElem?_take,if_pos hj]
         rw[xV,List.getElem?_eq_getElem (by omega)]
         simpa using hn.symm
        ·rw[List.getElem?_eq_none (by omega),List.getElem?_eq_none (by omega)]
      rw[TY];exact hv
    ·cases heq
    ·cases heq
   |_=>simp only[cM]at heq<;>cases heq
  ·cases hx
 ·rename_i heq
  cases hx
  cases x with
  |fV=>simp only[az]at hr;exact .inl ⟨hr,rfl⟩
  |bH id=>simp only[cM]at heq;split at heq<;>cases heq
  |_=>simp only[cM]at heq<;>cases heq
 ·cases hx
structure o5(P:Program)(e:TypeId)(k:K)(i:TypeInfo)(z:Value):Prop where
 info:P.info? e=some i
 zero:i.zero=some z
 size:i.size=k.sz
 qP:z.cells.size=k.sz
 bytes:i.bytes≤65536
theorem cr{e:TypeId}{k:K}(he:EJ P e k=true):∃i z,o5 P e k i z:=by
 unfold EJ at he
 split at he
 ·rename_i i hi
  split at he
  ·rename_i z hz
   simp only[Bool.and_eq_true,decide_eq_true_eq]at he
   exact⟨i,z,hi,hz,he.1,he.2.1,he.2.2⟩
  ·cases he
 ·cases he
theorem np.append{k:K}{xs ys:List k.T}{vs us:List Value}(h1:np Z w k xs vs)(h2:np Z w k ys us)(hl:vs.length=xs.length*k.sz):np Z w k (xs++ys) (vs++us):=fun i x hx=>by
 by_cases hi:i<xs.length
 ·rw[List.getElem?_append_left hi]at hx
  have hm:i*k.sz+k.sz≤xs.length*k.sz:=by rw[←Nat.succ_mul];exact Nat.mul_le_mul_right _ hi
  have h3:=h1 i x hx
  rw[List.drop_append_of_le_length (by omega),List.take_append_of_le_length (by rw[List.length_drop];omega)]
  exact h3
 ·rw[List.getElem?_append_right (by omega)]at hx
  have h3:=h2 (i-xs.length) x hx
  have e:i*k.sz=vs.length+(i-xs.length)*k.sz:=by
   rw[hl,←Nat.add_mul];congr 1;omega
  rw[e,List.drop_append,List.drop_eq_nil_of_le (by omega),List.nil_append,Nat.add_sub_cancel_left]
  exact h3
theorem np.Gx{k:K}{xs:List k.T}{vs:List Value}(h:np Z w k xs vs)(sm:ct Z w w'):np Z w' k xs vs:=fun i x hx=>(h i x hx).mono (fun _ h=>h) sm
theorem Gy(g:Good Z ψ h w B0 O)(hB:B0≤w.heap.size)(id:Nat)(hN:N id){ok:OK}{x:ok.T}{v:Value}(kk:c9 ψ h w w')(sP:∀b,Own ψ h b→w'.heap[b]? = w.heap[b]?)
  (ho:jD Z w' ok v x) (hb:∀b,ob v=some b→w.heap.size≤b)
  (bu:∀i ty cs,h i=some (.box ty cs)→aC (fun i=>i≠id) cs) :
  Next Z ψ h w B0 O N Z (ed ψ id v) (ed h id (some (.own ok x))) w':=by
 have n:Next Z ψ h w B0 O (·=id) Z (ed ψ id v) (ed h id (some (.own ok x))) w':=by
  refine g.more kk sP (fun i hi=>⟨db _ _ hi,db _ _ hi⟩) (fun i yS cs' hb=>bu i yS cs' hb) (fun i yS cs' hi hb=>?_) (fun i ok x hi hb=>?_) (fun i b hi br W0=>?_) (fun i i' b hi tF _ _ _ _=>by subst hi;exact tF.symm) hB
  ·subst hi;rw[bw]at hb;cases hb
  ·subst hi
   rw[bw]at hb;cases hb
   rw[bw];exact ho
  ·subst hi;rw[bw]at W0;exact hb b W0
 exact⟨n.fQ,n.eL,n.keep,fun i hi=>(n.ids i hi).imp (fun h=>h) (fun e=>by subst e;exact hN),n.dV⟩
theorem qQ(g:Good Z ψ h w B0 O)(hB:B0≤w.heap.size)(id:Nat)(ty:TypeId)(hN:N id){k:K}{xs:List k.T}{vs:List Value}{v:Value}(kk:c9 ψ h w w')(sP:∀b,Own ψ h b→w'.heap[b]? = w.heap[b]?)
  (ho:dC w' ty k.sz v xs.length vs) (hv:np Z w' k xs vs) (hb:∀b,ob v=some b→w.heap.size≤b)
  (bu:∀i ty cs,h i=some (.box ty cs)→aC (fun i=>i≠id) cs) :
  Next Z ψ h w B0 O N Z (ed ψ id v) (ed h id (some (.own (.row ty k) xs))) w':=Gy g hB id hN (ok:=.row ty k) kk sP ⟨vs,ho,hv⟩ hb bu
theorem c9.grown{row:Option Nat}(hg:w.grownBy w' row)(hr:∀b,row=some b→Own ψ h b):c9 ψ h w w' :=
 ⟨hg.os,hg.tape,hg.output,hg.size,fun b hb hn=>hg.block b hb (fun e=>hn (hr b e.symm))⟩
theorem qR(g:Good Z ψ h w B0 O)(hB:B0≤w.heap.size)(id cT:Nat)(hN:N id){ok:OK}{x y:ok.T}(ho:h cT=some (.own ok x))(br:cT≠id)
  (hg:w.grownBy w' (ob (ψ cT))) {v:Value} (hv:jD Z w' ok v y)
  (hb:ob v=ob (ψ cT)∨∀b,ob v=some b→w.heap.size≤b)
  (bu:∀i ty cs,h i=some (.box ty cs)→aC (fun i=>i≠id) cs) :
  Next Z ψ h w B0 O N Z (ed ψ id v) (ed (ed h cT none) id (some (.own ok y))) w':=by
 have hold:h cT≠none:=by rw[ho];simp
 have jE:∀b,ob (ψ cT)=some b→ob (ψ cT)=some b:=fun _ h=>h
 have kk:c9 ψ h w w':=c9.grown hg (fun b e=>⟨cT,hold,jE b e⟩)
 have sm:=kk.same g
 have other:∀i b,h i≠none→i≠cT→ob (ψ i)=some b→w'.heap[b]? = w.heap[b]? := fun i b h1 h2 h3 =>
  hg.block b (g.bP ⟨i,h1,h3⟩) (fun e=>h2 (g.apart i cT b h1 hold h3 (jE b e.symm)))
 have at_:∀i,i≠id→ed (ed h cT none) id (some (.own ok y)) i≠none→h i≠none∧i≠cT:=fun i hi h1=>by
  rw[db _ _ hi]at h1
  by_cases e:i=cT
  ·subst e;rw[bw]at h1;exact absurd rfl h1
  ·rw[db _ _ e]at h1;exact⟨h1,e⟩
 have ids:∀i,ed (ed h cT none) id (some (.own ok y)) i≠none→(h i≠none∧ed ψ id v i=ψ i)∨i=id:=fun i h1=>by
  by_cases e:i=id
  ·exact .inr e
  ·exact .inl ⟨(at_ i e h1).1,db _ _ e⟩
 have vob:∀b,ob v=some b→ob (ψ cT)=some b∨w.heap.size≤b:=fun b W0=>by
  rcases hb with hb|hb
  ·left;rw[←hb];exact W0
  ·right;exact hb b W0
 refine⟨fun _ h=>h,fun _ h=>.inl h,kk,fun i h1=>(ids i h1).imp (fun h=>h) (fun e=>by subst e;exact hN),⟨fun i yS cs qo=>?_,fun i YT z qo=>?_,fun i b h1 h2=>?_,fun i i' b h1 h2 h3 h4=>?_,fun b hz=>Nat.lt_of_lt_of_le (g.jM b hz) kk.size⟩⟩
 ·by_cases e:i=id
  ·subst e;rw[bw]at qo;cases qo
  ·have JF:=at_ i e (by rw[qo];simp)
   rw[db _ _ e,db _ _ JF.2]at qo
   obtain⟨gg,us,h1,h2,h3,h4⟩:=g.box i yS cs qo
   refine⟨gg,us,by rw[db _ _ e];exact h1,(other i gg JF.1 JF.2 (by rw[h1];rfl)).trans h2,?_,h4⟩
   exact h3.move (fun _ h=>h) sm (fun j hj hn=>(ids j hn).resolve_right hj) (bu i yS cs qo)
 ·by_cases e:i=id
  ·subst e;rw[bw]at qo;cases qo
   rw[bw];exact hv
  ·have JF:=at_ i e (by rw[qo];simp)
   rw[db _ _ e,db _ _ JF.2]at qo
   rw[db _ _ e]
   exact(g.row i YT z qo).kept (fun _ h=>h) sm (fun gg MM=>other i gg JF.1 JF.2 MM)
 ·by_cases e:i=id
  ·subst e;rw[bw]at h2
   rcases vob b h2 with h3|h3
   ·exact g.live cT b hold h3
   ·exact⟨fun hz=>by have:=g.jM b hz;omega,.inl (by omega)⟩
  ·rw[db _ _ e]at h2
   exact g.live i b (at_ i e h1).1 h2
 ·have key:∀j,j≠id→ed (ed h cT none) id (some (.own ok y)) j≠none→ob (ψ j)=some b→ob v=some b→False:=fun j hj h5 h6 h7=>by
   obtain⟨h8,h9⟩:=at_ j hj h5
   rcases vob b h7 with nq|nq
   ·exact h9 (g.apart j cT b h8 hold h6 nq)
   ·have:=g.bP ⟨j,h8,h6⟩;omega
  by_cases e:i=id<;>by_cases e':i'=id
  ·rw[e,e']
  ·subst e;rw[bw]at h3;rw[db _ _ e']at h4
   exact(key i' e' h2 h4 h3).elim
  ·subst e';rw[bw]at h4;rw[db _ _ e]at h3
   exact(key i e h1 h3 h4).elim
  ·rw[db _ _ e]at h3;rw[db _ _ e']at h4
   exact g.apart i i' b (at_ i e h1).1 (at_ i' e' h2).1 h3 h4
def MO(w:World)(sz:Nat)(u:Value)(m:Nat)(news:List Value):Prop :=
 news.length=m*sz∧(∀q∈news,q.oneCell'=true)∧((u=.slice none 0 0∧m=0)∨∃a c,u=.slice (some a) m c∧∀(j:Nat) q,news[j]? = some q→w.cell? (a.add j)=some q)
theorem EP{hh:Heap}(g:Good Z ψ hh.get w B0 O){x:AV}{u:Value}{k:K}{ys:List k.T}(hx:rowOf hh x k=some ys)(hr:az Z ψ hh.get w x u):∃news,MO w k.sz u ys.length news∧np Z w k ys news:=by
 rcases MN g hx hr with⟨rfl,rfl⟩|⟨a,c,news,h1,_,h2,h3,h4,h5⟩
 ·exact⟨[],⟨by simp,by simp,.inl ⟨rfl,rfl⟩⟩,fun i x hx=>by simp at hx⟩
 ·exact⟨news,⟨h2,h4,.inr ⟨a,c,h1,h3⟩⟩,h5⟩
theorem fk{t ty e:TypeId}{i:TypeInfo}(ht:P.underlying t=some (.slice e))(hi:P.info? e=some i)(A:Option Addr)(n c:Nat)(hc:n≤c)(A':Option Addr)(c':Nat) :
  (Builtin.append_ #[t,t] ty #[.slice A n c,.slice A' 0 c']).run P w=.ok (.slice A n c) w:=by
 cases A<;>cases A'<;>simp[Builtin.append_,run_underlying ht,sizeOf,typeInfo,hi,Builtin.lenOf,Builtin.firstCells,hc,storeCells,loadCells,loadCellsFrom]
theorem dI{t ty e:TypeId}{k:K}{i:TypeInfo}{z:Value}(ht:P.underlying t=some (.slice e))(he:o5 P e k i z){v:Value}{n:Nat}{xs:List Value}(ho:dC w e k.sz v n xs)
  {u:Value} {m:Nat} {news:List Value} (hu:MO w k.sz u m news) (hm:n+m≤fi) :
  ∃v' w',(Builtin.append_ #[t,t] ty #[v,u]).run P w=.ok v' w'∧dC w' e k.sz v' (n+m) (xs++news)∧w.grownBy w' (ob v)∧(ob v'=ob v∨∀b,ob v'=some b→w.heap.size≤b):=by
 obtain⟨h1,h3,hu⟩:=hu
 obtain⟨A0,c0,Xc⟩:=ho.slice
 by_cases hm0:m=0
 ·subst hm0
  have Zs:news=[]:=List.eq_nil_of_length_eq_zero (by rw[h1,Nat.zero_mul])
  subst Zs
  have CY:n≤c0:=by
   rcases ho.2 with⟨h0,A,e⟩|⟨g,cap,cur,e,hc,h2,h3,_⟩
   ·omega
   ·rw[Xc]at e;cases e;exact h3
  refine⟨v,w,?_,by simpa using ho,World.grownBy.refl w _,.inl rfl⟩
  subst Xc
  rcases hu with⟨rfl,_⟩|⟨a,c,rfl,_⟩<;>exact fk ht he.info A0 n c0 CY _ _
 ·rcases hu with⟨_,h0⟩|⟨a,c,rfl,h2⟩
  ·exact absurd h0 hm0
  have hb:=he.bytes
  unfold fi at hm
  have iw:(n+m)*i.bytes≤140737488355328:=Nat.le_trans (Nat.mul_le_mul hm hb) (by decide)
  have new:∀v',w.heap.size≤w.heap.size→∀(w':World),w'.ownsRow w.heap.size e k.sz v' (n+m) (xs++news)→∀b,ob v'=some b→w.heap.size≤b:=fun v' _ w' nt b hb=>by
   rcases nt.2 with⟨rfl,_⟩|⟨g,cap,cur,rfl,h5,_⟩
   ·simp[ob]at hb
   ·simp only[ob]at hb
    split at hb
    ·cases hb
    ·cases hb;exact h5
  rcases ho.2 with⟨rfl,A,rfl⟩|⟨g,cap,cur,rfl,Xa,h4,h5,h6,h7,h8⟩
  ·have rO:xs=[]:=List.eq_nil_of_length_eq_zero (by rw[ho.1,Nat.zero_mul])
   subst rO
   have jE:ob (.slice A 0 0)=none:=by cases A<;>simp[ob]
   cases A with
   |none =>
    obtain⟨v',w',hr,h4,h5,_,h6⟩:=run_append_own_at (P:=P) w w.heap.size t ty e i z k.sz i.bytes ht he.info he.zero he.size rfl he.qP k.ir (.slice none 0 0) 0 [] ⟨by simp,.inl ⟨rfl,rfl⟩⟩ a m c news h1 h2 h3 (by simp only[maxLen];omega) iw (Nat.le_refl _)
    exact⟨v',w',hr,dC.of h4,by rw[jE];exact h5,.inr (new v' (Nat.le_refl _) w' h4)⟩
   |some b0 =>
    obtain⟨v',w',hr,h4,h5⟩:=run_append_arg_grows (P:=P) w t ty e i z k.sz i.bytes ht he.info he.zero he.size rfl he.qP k.ir b0 0 0 [] (by simp) (by simp) a m c news h1 h2 (by omega) (by simp only[maxLen];omega) iw
    exact⟨v',w',hr,dC.of h4,by rw[jE];exact h5,.inr (new v' (Nat.le_refl _) w' h4)⟩
  ·have tJ:w.ownsRow 0 e k.sz (.slice (some ⟨g,0,none⟩) n cap) n xs:=⟨ho.1,.inr ⟨g,cap,cur,rfl,Nat.zero_le _,h4,h5,h6,h7,h8⟩⟩
   have jE:ob (.slice (some ⟨g,0,none⟩) n cap)=some g:=by simp only[ob];rw[if_neg (by omega)]
   obtain⟨v',w',hr,h4,h5,_,h6⟩:=run_append_own_at (P:=P) w 0 t ty e i z k.sz i.bytes ht he.info he.zero he.size rfl he.qP k.ir _ n xs tJ a m c news h1 h2 h3 (by simp only[maxLen];omega) iw (Nat.zero_le _)
   refine⟨v',w',hr,dC.of h4,by rw[jE];exact h5,?_⟩
   rw[jE]
   rcases h4.2 with⟨rfl,h0⟩|⟨g',aew,dd,rfl,_,_,h9,_⟩
   ·omega
   ·have TZ:ob (.slice (some ⟨g',0,none⟩) (n+m) aew)=some g':=by simp only[ob];rw[if_neg (by omega)]
    rw[TZ]
    simp only[Value.ownBlock,Option.some.injEq]at h6
    rcases h6 with h6|h6
    ·left;rw[h6]
    ·right;intro b hb;cases hb;omega
theorem az.qp{h h':Hp}(hs:∀id o,h' id=some o→h id=some o){a:AV}{v:Value}(hr:az Z ψ h w a v):az Z ψ h' w a v :=
 hr.less (fun _ h=>h) (ct.refl _ _) (fun id bO=>by
  obtain⟨o,ho⟩:=Option.ne_none_iff_exists'.1 bO
  exact⟨by rw[hs id o ho];simp,rfl⟩)
theorem an.qp{h h':Hp}(hs:∀id o,h' id=some o→h id=some o){a:List AV}{v:List Value}(hr:an Z ψ h w a v):an Z ψ h' w a v :=
 hr.less (fun _ h=>h) (ct.refl _ _) (fun id bO=>by
  obtain⟨o,ho⟩:=Option.ne_none_iff_exists'.1 bO
  exact⟨by rw[hs id o ho];simp,rfl⟩)
theorem qg{hh:Heap}(g:Good Z ψ h w B0 O)(bC:∀id o,hh.get id=some o→h id=some o)(hB:B0≤w.heap.size){id:Nat}(hN:N id){t ty e:TypeId}{k:K}{i:TypeInfo}{z:Value}(ht:P.underlying t=some (.slice e))(he:o5 P e k i z)
  {x:AV} {u:Value} {ys:List k.T} (hx:rowOf hh x k=some ys) (hr:az Z ψ h w x u) (hm:ys.length≤fi)
  (bu:∀i ty cs,h i=some (.box ty cs)→aC (fun i=>i≠id) cs) :
  ∃v' w',(Builtin.append_ #[t,t] ty #[.slice none 0 0,u]).run P w=.ok v' w'∧Next Z ψ h w B0 O N Z (ed ψ id v') (ed h id (some (.own (.row e k) ys))) w'∧v'.cells=#[v']∧v'.oneCell'=true:=by
 obtain⟨news,wx,hv⟩:=EP (g.sub bC) hx (hr.qp bC)
 have Gz:dC w e k.sz (.slice none 0 0) 0 []:=⟨by simp,.inl ⟨rfl,none,rfl⟩⟩
 obtain⟨v',w',dv,h4,h5,h6⟩:=dI (ty:=ty) ht he Gz wx (by omega)
 have hg:w.grownBy w' none:=h5
 have kk:c9 ψ h w w':=c9.grown hg (fun b e=>by cases e)
 have sm:=kk.same g
 refine⟨v',w',dv,qQ g hB id e hN (vs:=news) kk (fun b hb=>hg.block b (g.bP hb) (by simp)) (by simpa using h4) (fun i x hx=>(hv i x hx).mono (fun _ h=>h) sm) (fun b hb=>?_) bu,h4.one⟩
 rcases h6 with h6|h6
 ·rw[h6]at hb;simp[ob]at hb
 ·exact h6 b hb
theorem yW{hh:Heap}(g:Good Z ψ h w B0 O)(bC:∀id o,hh.get id=some o→h id=some o)(hB:B0≤w.heap.size){id cT:Nat}(hN:N id)(br:cT≠id){t ty e:TypeId}{k:K}{i:TypeInfo}{z:Value}(ht:P.underlying t=some (.slice e))(he:o5 P e k i z)
  {xs:List k.T} (ho:h cT=some (.own (.row e k) xs)) {x:AV} {u:Value} {ys:List k.T} (hx:rowOf hh x k=some ys) (hr:az Z ψ h w x u) (hm:xs.length+ys.length≤fi)
  (bu:∀i ty cs,h i=some (.box ty cs)→aC (fun i=>i≠id) cs) :
  ∃v' w',(Builtin.append_ #[t,t] ty #[ψ cT,u]).run P w=.ok v' w'∧Next Z ψ h w B0 O N Z (ed ψ id v') (ed (ed h cT none) id (some (.own (.row e k) (xs++ys)))) w'∧v'.cells=#[v']∧v'.oneCell'=true:=by
 obtain⟨news,wx,hv⟩:=EP (g.sub bC) hx (hr.qp bC)
 obtain⟨vs,ho0,Xc⟩:=g.row cT (.row e k) xs ho
 obtain⟨v',w',dv,h4,h5,h6⟩:=dI (ty:=ty) ht he ho0 wx hm
 have hold:h cT≠none:=by rw[ho];simp
 have kk:c9 ψ h w w':=c9.grown h5 (fun b e=>⟨cT,hold,e⟩)
 have sm:=kk.same g
 refine⟨v',w',dv,qR g hB id cT hN ho br h5 (ok:=.row e k) (y:=xs++ys) ⟨_,by rw[List.length_append];exact h4,(Xc.append hv ho0.1).Gx sm⟩ h6 bu,h4.one⟩
theorem Av{hh:Heap}(g:Good Z ψ h w B0 O)(bC:∀id o,hh.get id=some o→h id=some o)(hB:B0≤w.heap.size){id:Nat}(hN:N id){t ty e:TypeId}{k:K}{i:TypeInfo}{z:Value}(ht:P.underlying t=some (.slice e))(he:o5 P e k i z)
  {xs:List k.T} {v:Value} (hd:az Z ψ h w (.sl true k xs) v) {x:AV} {u:Value} {ys:List k.T} (hx:rowOf hh x k=some ys) (hr:az Z ψ h w x u) (JB:0<ys.length∨xs=[]) (hm:xs.length+ys.length≤fi)
  (bu:∀i ty cs,h i=some (.box ty cs)→aC (fun i=>i≠id) cs) :
  ∃v' w',(Builtin.append_ #[t,t] ty #[v,u]).run P w=.ok v' w'∧Next Z ψ h w B0 O N Z (ed ψ id v') (ed h id (some (.own (.row e k) (xs++ys)))) w'∧v'.cells=#[v']∧v'.oneCell'=true:=by
 simp only[az]at hd
 obtain⟨hd,hex⟩:=hd
 obtain⟨A,c,OM⟩:=hex trivial
 rcases tI hd with⟨rfl,rfl⟩|⟨a,c',Zt,h1,_,h2,h3,h4,h5⟩
 ·have:=qg (ty:=ty) (N:=N) g bC hB hN ht he hx hr (by omega) bu
  simpa using this
 ·rw[h1]at OM;cases OM
  obtain⟨news,⟨h6,h7,hu⟩,hv⟩:=EP (g.sub bC) hx (hr.qp bC)
  by_cases hy0:ys.length=0
  ·have hy:ys=[]:=List.eq_nil_of_length_eq_zero hy0
   have rO:xs=[]:=JB.resolve_left (by omega)
   subst rO
   have Gz:dC w e k.sz (.slice (some a) 0 0) 0 []:=⟨by simp,.inl ⟨rfl,_,rfl⟩⟩
   refine⟨v,w,?_,qQ g hB id e hN (vs:=[]) (c9.refl _ _ _) (fun _ _=>rfl) (by rw[hy,h1];exact Gz) (fun i x hx=>by rw[hy]at hx;simp at hx) (fun b hb=>by rw[h1]at hb;simp[ob]at hb) bu,by rw[h1];exact Gz.one⟩
   rw[h1]
   rw[hy0]at hu
   rcases hu with⟨rfl,_⟩|⟨b,cu,rfl,_⟩<;>exact fk ht he.info _ _ _ (Nat.le_refl _) _ _
  rcases hu with⟨_,h0⟩|⟨b,cu,rfl,h8⟩
  ·omega
  ·have hb:=he.bytes
   unfold fi at hm
   have iw:(xs.length+ys.length)*i.bytes≤140737488355328:=Nat.le_trans (Nat.mul_le_mul hm hb) (by decide)
   obtain⟨v',w',dv,h9,nq⟩:=run_append_arg_grows (P:=P) w t ty e i z k.sz i.bytes ht he.info he.zero he.size rfl he.qP k.ir a xs.length xs.length Zt h2 h3 b ys.length cu news h6 h8 (by omega) (by simp only[maxLen];omega) iw
   have kk:c9 ψ h w w':=c9.grown nq (fun b e=>by cases e)
   have sm:=kk.same g
   have h9':dC w' e k.sz v' (xs++ys).length (Zt++news):=by
    rw[List.length_append]
    exact dC.of h9
   subst h1
   refine⟨v',w',dv,qQ g hB id e hN kk (fun b hb=>nq.block b (g.bP hb) (by simp)) h9' ((h5.append hv h2).Gx sm) (fun b hb=>?_) bu,h9'.one⟩
   rcases h9.2 with⟨e1,_⟩|⟨gg,cap,cur,e1,e2,_⟩
   ·rw[e1]at hb;simp[ob]at hb
   ·rw[e1]at hb
    simp only[ob]at hb
    split at hb
    ·cases hb
    ·cases hb;omega
end Go.Vs
namespace Go.Vs
variable {P:Program} {Z Z':Nat→Prop} {ψ ψ':Nat→Value} {h h':Hp} {w w':World} {B0:Nat} {O:Nat→Prop} {N:Nat→Prop}
theorem uL:∀(vs:List Value) (k off:Nat) (cells:Array Value),
  (vs.zipIdx k).foldl (fun cs (p:Value×Nat)=>cs.setIfInBounds (off+p.2) p.1) cells=(dU cells.toList (off+k) vs).toArray
 |[],k,off,cells=>by simp[dU]
 |v::r,k,off,cells=>by
  simp only[List.zipIdx_cons,List.foldl_cons,dU]
  rw[uL r (k+1) off]
  simp[Nat.add_assoc]
theorem xW(V:Array Value)(off:Nat)(cells:Array Value) :
  V.zipIdx.foldl (fun cs (p:Value×Nat)=>cs.setIfInBounds (off+p.2) p.1) cells=(dU cells.toList off V.toList).toArray:=by
 rw[←Array.foldl_toList,Array.toList_zipIdx]
 exact uL V.toList 0 off cells
theorem sR{α:Type}:∀(vs cs:List α) (off:Nat),(dU cs off vs).length=cs.length
 |[],_,_=>rfl
 |v::r,cs,off=>by simp only[dU];rw[sR r];simp
theorem an.dU:∀{vs cs:List AV} {us ds:List Value} (off:Nat),an Z ψ h w vs us→an Z ψ h w cs ds→an Z ψ h w (dU cs off vs) (dU ds off us)
 |[],cs,us,ds,off,h1,h2=>by simp only[an]at h1;subst h1;exact h2
 |v::r,cs,us,ds,off,h1,h2=>by
  simp only[an]at h1
  obtain⟨u,iX,rfl,h3,h4⟩:=h1
  simp only[Vs.dU]
  exact an.dU (off+1) h4 (h2.set off h3)
theorem az.cells{a:AV}{v:Value}(hk:a≠.no)(hr:az Z ψ h w a v):an Z ψ h w a.cells v.cells.toList:=by
 cases a with
 |no=>exact absurd rfl hk
 |agg cs=>simp only[az]at hr;obtain⟨vs,rfl,hr⟩:=hr;simpa[AV.cells,Value.cells] using hr
 |bool b=>simp only[az]at hr;subst hr;simp[AV.cells,Value.cells,an,az]
 |int k n=>simp only[az]at hr;subst hr;simp[AV.cells,Value.cells,an,az]
 |str s=>simp only[az]at hr;subst hr;simp[AV.cells,Value.cells,an,az]
 |kX=>simp only[az]at hr;subst hr;simp[AV.cells,Value.cells,an,az]
 |fV=>simp only[az]at hr;subst hr;simp[AV.cells,Value.cells,an,az]
 |ref id s i off=>obtain⟨a,rfl,h2⟩:=(by simpa only[az] using hr:∃a,v=.pointer (some a)∧_);simp only[AV.cells,Value.cells,an];exact⟨_,[],by simp,hr,rfl⟩
 |fp k x off=>obtain⟨a,us,rfl,h2⟩:=(by simpa only[az] using hr:∃a us,v=.pointer (some a)∧_);simp only[AV.cells,Value.cells,an];exact⟨_,[],by simp,hr,rfl⟩
 |sl ex k xs =>
  have rM:=hr
  simp only[az,aI]at rM
  obtain⟨⟨v',hv,A,c,rfl,_⟩,_⟩:=rM
  cases hv
  simp only[AV.cells,Value.cells,an];exact⟨_,[],by simp,hr,rfl⟩
 |bH id =>
  have rM:=hr
  simp only[az]at rM
  obtain⟨⟨hc,_⟩,_⟩:=rM
  simp only[AV.cells,an,hc];exact⟨_,[],by simp,hr,rfl⟩
 |mp kk vk es =>
  have rM:=hr
  simp only[az,aI]at rM
  obtain⟨A,hv,_⟩:=rM
  cases hv
  simp only[AV.cells,Value.cells,an];exact⟨_,[],by simp,hr,rfl⟩
 |fn f cap =>
  have rM:=hr
  simp only[az]at rM
  obtain⟨vs,rfl,_⟩:=rM
  simp only[AV.cells,Value.cells,an];exact⟨_,[],by simp,hr,rfl⟩
 |nh vs =>
  have rM:=hr
  simp only[az]at rM
  obtain⟨us,rfl,_⟩:=rM
  simp only[AV.cells,Value.cells,an];exact⟨_,[],by simp,hr,rfl⟩
def sS(Z:Nat→Prop)(ψ:Nat→Value)(h:Hp)(w:World):List (Nat×AV)→List (Nat×Value)→Prop
 |[],[]=>True
 |p::r,q::s=>p.1=q.1∧p.2≠.no∧az Z ψ h w p.2 q.2∧sS Z ψ h w r s
 |_,_=>False
theorem GA{place:Nat→Option (Nat×Nat)}:∀{ps:List (Nat×AV)} {qs:List (Nat×Value)} {cs cs':List AV} {cells:Array Value},sS Z ψ h w ps qs→an Z ψ h w cs cells.toList→Du place cs ps=some cs' →
  ∃fR,Instr.fill place cells qs=some fR∧an Z ψ h w cs' fR.toList
 |[],[],cs,cs',cells,_,hr,hf=>by simp only[Du]at hf;cases hf;exact⟨cells,rfl,hr⟩
 |[],_::_,_,_,_,hp,_,_=>hp.elim
 |_::_,[],_,_,_,hp,_,_=>hp.elim
 |(i,a)::ps,(j,v)::qs,cs,cs',cells,hp,hr,hf=>by
  obtain⟨rfl,qS,hv,hp⟩:=hp
  simp only[Du]at hf
  simp only at qS hv
  have OM:=hv.cells qS
  have hl:=OM.length
  have wy:=hr.length
  simp only[Array.length_toList]at hl wy
  simp only[Instr.fill]
  split at hf
  ·cases hf
  ·rename_i off size hpl
   simp only[hpl]
   split at hf
   ·cases hf
   ·rename_i hc
    have Xd:a.cells.length=size:=Decidable.not_not.1 (fun e=>hc (.inl e))
    have ux:¬off+a.cells.length>cs.length:=fun e=>hc (.inr e)
    rw[if_neg (by simp only[Bool.or_eq_true,decide_eq_true_eq];omega)]
    refine GA hp ?_ hf
    rw[xW,List.toList_toArray]
    exact OM.dU off hr
theorem Ph(fs:Array Field)(hi:∀f∈fs.toList,∃i,P.info? f.type=some i):(fs.mapM fun f=>do pure (f.offset,←sizeOf f.type):Sem (Array (Nat×Nat))).run P w=.ok (fs.map fun f=>(f.offset,P.cellsOf f.type)) w:=by
 rw[←Array.toArray_toList (xs:=fs)]
 generalize fs.toList=l at hi
 have key:∀(l:List Field) (acc:Array (Nat×Nat)),(∀f∈l,∃i,P.info? f.type=some i) →
   (l.foldlM (fun(bs:Array (Nat×Nat)) f=>do let y ←(do pure (f.offset,←sizeOf f.type):Sem (Nat×Nat));pure (bs.push y)) acc:Sem (Array (Nat×Nat))).run P w=.ok (acc++(l.map fun f=>(f.offset,P.cellsOf f.type)).toArray) w:=by
  intro l
  induction l with
  |nil=>intro acc _;simp
  |cons f r ih =>
   intro acc hl
   obtain⟨i,hi⟩:=hl f (by simp)
   simp only[List.foldlM_cons,Sem.run_bind,dz hi,Result.andThen_ok,Sem.run_pure]
   rw[ih _ (fun f hf=>hl f (List.mem_cons_of_mem _ hf))]
   simp
 have:=key l #[] hi
 simp only[Array.mapM_eq_foldlM,List.size_toArray,List.foldlM_toArray']
 simpa using this
theorem ER(v:Value):az Z ψ h w (we v) v:=by
 cases v with
 |bool b=>simp only[we,az]
 |int k n=>simp only[we,az]
 |string s=>simp only[we,az]
 |pointer a =>
  simp only[we];split
  ·rename_i e;subst e;simp only[az]
  ·simp only[az]
 |slice a n c =>
  simp only[we];split
  ·rename_i e;obtain⟨rfl,rfl,rfl⟩:=e;simp only[az]
  ·simp only[az]
 |func fn first cap =>
  cases fn with
  |func f =>
   simp only[we];split
   ·rename_i e
    have h1:first=#[]:=Array.eq_empty_of_size_eq_zero e.1
    have h2:cap=#[]:=Array.eq_empty_of_size_eq_zero e.2
    subst h1;subst h2
    simp only[az];exact⟨#[],rfl,by simp[an]⟩
   ·simp only[az]
  |_=>simp only[we,az]
 |_=>simp only[we,az]
theorem Aw:∀vs:List Value,an Z ψ h w (vs.map we) vs
 |[]=>by simp[an]
 |v::r=>by simp only[List.map_cons,an];exact⟨v,r,rfl,ER v,Aw r⟩
theorem GB(v:Value):az Z ψ h w (tz v) v:=by
 cases v with
 |agg cs=>simp only[tz,az];exact⟨cs,rfl,Aw _⟩
 |_=>simp only[tz];exact ER _
theorem DC(v:Value):(we v).cells=[we v]:=by
 cases v with
 |pointer a=>simp only[we];split<;>rfl
 |slice a n c=>simp only[we];split<;>rfl
 |func fn first cap =>
  cases fn with
  |func f=>simp only[we];split<;>rfl
  |_=>rfl
 |_=>rfl
theorem Ax(v:Value):an Z ψ h w (tz v).cells v.cells.toList:=by
 cases v with
 |agg cs=>simp only[tz,AV.cells,Value.cells];exact Aw _
 |_ =>
  simp only[tz]
  rw[DC]
  simp only[an]
  exact⟨_,[],rfl,ER _,rfl⟩
theorem o6{t:TypeId}{zs:List AV}(hz:Ae P t=some zs):∃i z,P.info? t=some i∧i.zero=some z∧zs=(tz z).cells∧∀u∈z.cells.toList,u.oneCell'=true:=by
 unfold Ae at hz
 obtain⟨i,hi,xX⟩:=Option.bind_eq_some_iff.1 hz
 obtain⟨z,CR,Jg⟩:=Option.bind_eq_some_iff.1 xX
 split at Jg
 ·rename_i eW
  cases Jg
  exact⟨i,z,hi,CR,rfl,fun u hu=>List.all_eq_true.1 eW u hu⟩
 ·cases Jg
theorem uM{t:TypeId}{i:TypeInfo}{z:Value}(hi:P.info? t=some i)(hz:i.zero=some z):(zeroValue t).run P w=.ok z w:=by
 simp[zeroValue,typeInfo,hi,hz]
theorem MP{t:TypeId}{fs:Array Field}{zs cs:List AV}{ps:List (Nat×AV)}{qs:Array (Nat×Value)}(hz:Ae P t=some zs)(ht:P.underlying t=some (.struct fs))(eW:fs.toList.all (fun f=>(P.info? f.type).isSome)=true)
  (hp:sS Z ψ h w ps qs.toList) (hf:Du (fun i=>(fs[i]?).map fun f=>(f.offset,P.cellsOf f.type)) zs ps=some cs) :
  ∃V,(Instr.build t qs).run P w=.ok V w∧az Z ψ h w (.agg cs) V:=by
 obtain⟨i,z,hi,Zu,rfl,_⟩:=o6 hz
 obtain⟨fR,h1,h2⟩:=GA hp (Ax z) hf
 have hpl:=Ph (P:=P) (w:=w) fs (fun f hf=>Option.isSome_iff_exists.1 (List.all_eq_true.1 eW f hf))
 refine⟨.agg fR,?_,by simp only[az];exact⟨_,rfl,h2⟩⟩
 have Tx:Instr.fill (fun x=>(fs.map fun f=>(f.offset,P.cellsOf f.type))[x]?) z.cells qs.toList=some fR:=by
  rw[←h1];congr 1;funext x;simp
 simp only[Instr.build,Sem.run_bind,uM hi Zu,run_underlying ht,Result.andThen_ok,hpl,Tx]
 rfl
theorem JG:∀(k:K) (cs:List AV) (x:k.T) (r:List AV),dec k cs=some (x,r)→cs.head?≠some .no
 |.int ik,cs,x,r,h,hc=>by
  cases cs with
  |nil=>simp at hc
  |cons a s=>simp at hc;subst hc;simp[dec,EH]at h
 |.bool,cs,x,r,h,hc=>by
  cases cs with
  |nil=>simp at hc
  |cons a s=>simp at hc;subst hc;simp[dec,zk]at h
 |.str,cs,x,r,h,hc=>by
  cases cs with
  |nil=>simp at hc
  |cons a s=>simp at hc;subst hc;simp[dec,EI]at h
 |.sl k,cs,x,r,h,hc=>by
  cases cs with
  |nil=>simp at hc
  |cons a s=>simp at hc;subst hc;simp[dec,Le]at h
 |.pair a b,cs,x,r,h,hc=>by
  simp only[dec]at h
  split at h
  ·rename_i x1 r1 h1
   exact JG a cs x1 r1 h1 hc
  ·cases h
 |.one k,cs,x,r,h,hc=>by
  simp only[dec]at h
  exact JG k cs x r h hc
 |.mp kk vk,cs,x,r,h,hc=>by
  cases cs with
  |nil=>simp at hc
  |cons a s=>simp at hc;subst hc;simp[dec,Lf]at h
theorem DD{k:K}{hh:Heap}{a:AV}{x:k.T}(h:dG k (a.cells.map (cM hh))=some x):a≠.no:=by
 rintro rfl
 unfold dG at h
 split at h
 ·rename_i x' h1
  exact JG k _ _ _ h1 (by simp[AV.cells,cM])
 ·cases h
theorem GC{k:K}{hh:Heap}(g:Good Z ψ hh.get w B0 O)(hz:∀b,Z b→Z' b):∀{ps:List (Nat×AV)} {qs:List (Nat×Value)} {xs:List k.T} {i:Nat} {cells:Array Value},
  (∀p∈ps,∀id b,AV.bH id∈p.2.cells→hh.get id≠none→ob (ψ id)=some b→Z' b)→sS Z ψ hh.get w ps qs→qH k hh i ps=some xs→(i+ps.length)*k.sz≤cells.size →
  ∃fR flat,Instr.fill (fun i=>some (i*k.sz,k.sz)) cells qs=some fR∧fR.toList=cells.toList.take (i*k.sz)++flat++cells.toList.drop ((i+ps.length)*k.sz)∧flat.length=ps.length*k.sz∧np Z' w k xs flat∧(∀q∈flat,q.oneCell'=true)∧xs.length=ps.length
 |[],[],xs,i,cells,_,_,hl,_=>by
  simp only[qH]at hl;cases hl
  exact⟨cells,[],rfl,by simp,by simp,fun i x hx=>by simp at hx,by simp,rfl⟩
 |[],_::_,_,_,_,_,hp,_,_=>hp.elim
 |_::_,[],_,_,_,_,hp,_,_=>hp.elim
 |(j,a)::ps,(j',v)::qs,xs,i,cells,hb,hp,hl,hs=>by
  obtain⟨hjj,qS,hv,hp⟩:=hp
  simp only at hjj qS hv
  subst hjj
  simp only[qH]at hl
  split at hl
  ·rename_i e
   subst e
   split at hl
   ·rename_i y ys h1 h2
    cases hl
    simp only[List.length_cons]at hs
    have OM:=hv.cells qS
    have hvw:=nY g hz (hb (j,a) (by simp)) OM
    have hk:=dH h1 hvw
    have Pj:=hk.len
    rw[Array.length_toList]at Pj
    have jm:j*k.sz+k.sz≤cells.size:=by
     have:(j+1)*k.sz≤(j+(ps.length+1))*k.sz:=Nat.mul_le_mul_right _ (by omega)
     rw[Nat.succ_mul]at this;omega
    simp only[Instr.fill]
    rw[if_neg (by simp only[Bool.or_eq_true,decide_eq_true_eq];omega),xW]
    obtain⟨fR,flat,h3,h4,h5,h6,h7,h8⟩:=GC g hz (ps:=ps) (qs:=qs) (xs:=ys) (i:=j+1) (cells:=(dU cells.toList (j*k.sz) v.cells.toList).toArray) (fun p hp=>hb p (List.mem_cons_of_mem _ hp)) hp h2 (by
     rw[List.size_toArray,sR]
     have e9:cells.toList.length=cells.size:=Array.length_toList
     rw[e9,show j+1+ps.length=j+(ps.length+1) by omega];exact hs)
    refine⟨fR,v.cells.toList++flat,h3,?_,?_,?_,?_,by simp[h8]⟩
    ·rw[h4,List.toList_toArray,rN _ _ _ (by rw[Array.length_toList,Array.length_toList];omega)]
     have e1:(j+1)*k.sz=j*k.sz+k.sz:=Nat.succ_mul _ _
     have e2:(j+1+ps.length)*k.sz=(j+(ps.length+1))*k.sz:=by congr 1;omega
     rw[List.length_cons,e1,e2]
     have l1:(cells.toList.take (j*k.sz)++v.cells.toList).length=j*k.sz+k.sz:=by
      rw[List.length_append,List.length_take,Array.length_toList,Array.length_toList];omega
     rw[←l1,List.take_left]
     have l2:(j+(ps.length+1))*k.sz=(cells.toList.take (j*k.sz)++v.cells.toList).length+(ps.length*k.sz):=by
      rw[l1,Nat.add_mul,Nat.add_mul];omega
     have hd:(cells.toList.take (j*k.sz)++v.cells.toList++cells.toList.drop (j*k.sz+v.cells.toList.length)).drop ((j+(ps.length+1))*k.sz)=cells.toList.drop ((j+(ps.length+1))*k.sz):=by
      rw[l2,List.drop_append,List.drop_eq_nil_of_le (by omega),List.nil_append,Nat.add_sub_cancel_left,List.drop_drop]
      congr 1
      rw[l1,Array.length_toList];omega
     rw[hd]
     simp[List.append_assoc]
    ·rw[List.length_append,h5,Array.length_toList,Pj,List.length_cons,Nat.succ_mul];omega
    ·intro n x hx
     cases n with
     |zero =>
      simp only[List.getElem?_cons_zero,Option.some.injEq]at hx;subst hx
      have Xe:v.cells.toList.length=k.sz:=by rw[Array.length_toList];exact Pj
      rw[Nat.zero_mul,List.drop_zero,←Xe,List.take_left]
      exact hk
     |succ n =>
      have:=h6 n x (by simpa using hx)
      have Xe:v.cells.toList.length=k.sz:=by rw[Array.length_toList];exact Pj
      have e:(n+1)*k.sz=v.cells.toList.length+n*k.sz:=by rw[Xe,Nat.succ_mul];omega
      rw[e,List.drop_append,List.drop_eq_nil_of_le (by omega),List.nil_append,Nat.add_sub_cancel_left]
      exact this
    ·intro q hq
     rcases List.mem_append.1 hq with hq|hq
     ·exact hk.one q hq
     ·exact h7 q hq
   ·cases hl
  ·cases hl
theorem Next.drop{Z1:Nat→Prop}{h1:Hp}(n:Next Z1 ψ h1 w B0 O N Z' ψ' h' w')(hz:∀b,Z b→Z1 b)(xX:∀b,Z1 b→Z b∨Own ψ h b)(bC:∀id o,h1 id=some o→h id=some o):Next Z ψ h w B0 O N Z' ψ' h' w':=by
 have hn:∀id,h1 id≠none→h id≠none:=fun id hn=>by
  obtain⟨o,ho⟩:=Option.ne_none_iff_exists'.1 hn
  rw[bC id o ho];simp
 have ho:∀b,Own ψ h1 b→Own ψ h b:=fun b ⟨id,h2,h3⟩=>⟨id,hn id h2,h3⟩
 refine⟨fun b hb=>n.fQ b (hz b hb),fun b hb=>?_,⟨n.keep.os,n.keep.tape,n.keep.output,n.keep.size,fun b hb qS=>n.keep.block b hb (fun h=>qS (ho b h))⟩,fun id bO=>(n.ids id bO).imp (fun⟨h2,h3⟩=>⟨hn id h2,h3⟩) (fun h=>h),n.dV⟩
 rcases n.eL b hb with h2|h2|h2
 ·exact(xX b h2).imp (fun h=>h) (fun h=>.inl h)
 ·exact .inr (.inl (ho b h2))
 ·exact .inr (.inr h2)
theorem sS.qp{h h':Hp}(hs:∀id o,h' id=some o→h id=some o):∀{ps:List (Nat×AV)} {qs:List (Nat×Value)},sS Z ψ h w ps qs→sS Z ψ h' w ps qs:=by
 intro ps
 induction ps with
 |nil=>intro qs hp;cases qs with
  |nil=>trivial
  |cons q r=>exact hp.elim
 |cons p r ih=>intro qs hp;cases qs with
  |nil=>exact hp.elim
  |cons q s=>exact⟨hp.1,hp.2.1,hp.2.2.1.qp hs,ih hp.2.2.2⟩
theorem GD{hh:Heap}{Z1:Nat→Prop}(g:Good Z1 ψ h w B0 O)(g0:Good Z ψ hh.get w B0 O)(hz:∀b,Z b→Z1 b)(hB:B0≤w.heap.size){id:Nat}(hN:N id){t e:TypeId}{k:K}{i:TypeInfo}{z:Value}(ht:P.underlying t=some (.slice e))(he:o5 P e k i z)
  {ps:List (Nat×AV)} {qs:Array (Nat×Value)} {xs:List k.T} (ON:∀p∈ps,∀id b,AV.bH id∈p.2.cells→hh.get id≠none→ob (ψ id)=some b→Z1 b) (hp:sS Z ψ hh.get w ps qs.toList) (hl:qH k hh 0 ps=some xs) (hn:ps.length*k.sz≤1048576)
  (bu:∀i ty cs,h i=some (.box ty cs)→aC (fun i=>i≠id) cs) :
  ∃v' w',(Instr.buildSlice t ps.length qs).run P w=.ok v' w'∧Next Z1 ψ h w B0 O N Z1 (ed ψ id v') (ed h id (some (.own (.row e k) xs))) w'∧(v'.cells=#[v']∧v'.oneCell'=true)∧(∀b,Own ψ h b→w'.heap[b]? = w.heap[b]?)∧(∀b,ob v'=some b→w.heap.size≤b)∧∃A c,v'=.slice A c c:=by
 let GF:Array Value:=(Array.range (ps.length*k.sz)).map (z.cells[· % z.cells.size]!)
 have wb:GF.size=ps.length*k.sz:=by simp[GF]
 obtain⟨fR,flat,h1,h2,h3,h4,h5,h6⟩:=GC (Z':=Z1) g0 hz (ps:=ps) (qs:=qs.toList) (xs:=xs) (i:=0) (cells:=GF) ON hp hl (by rw[Nat.zero_add,wb];exact Nat.le_refl _)
 have VJ:fR.toList=flat:=by
  rw[h2,Nat.zero_mul,List.take_zero,List.nil_append,Nat.zero_add,List.drop_eq_nil_of_le (by rw[Array.length_toList,wb];exact Nat.le_refl _),List.append_nil]
 have MQ:fR.size=ps.length*k.sz:=by rw[←Array.length_toList,VJ];exact h3
 have JB:=k.ir
 have hlen:ps.length≤1048576:=Nat.le_trans (Nat.le_mul_of_pos_right _ JB) hn
 have tJ:(w.alloc (.cells fR e)).ownsRow 0 e k.sz (.slice (some ⟨w.heap.size,0,none⟩) ps.length ps.length) xs.length flat:=by
  have:=World.ownsRow_lit (base:=0) (e:=e) (size:=k.sz) w fR ps.length (Nat.zero_le _) (by simp only[maxLen];omega) MQ
  rw[h6,←VJ];exact this
 refine⟨.slice (some ⟨w.heap.size,0,none⟩) ps.length ps.length,w.alloc (.cells fR e),?_,qQ g hB id e hN (vs:=flat) (c9.alloc _ _ _ _) (fun b hb=>heap_alloc_old w _ (g.bP hb)) (dC.of tJ) (h4.Gx ((c9.alloc ψ h w _).same g)) (fun b hb=>by simp only[ob]at hb;split at hb<;>cases hb;exact Nat.le_refl _) bu,(dC.of tJ).one,fun b hb=>heap_alloc_old w _ (g.bP hb),fun b hb=>by simp only[ob]at hb;split at hb<;>cases hb;exact Nat.le_refl _,_,_,rfl⟩
 ·show _=Result.ok (Value.slice (some ⟨w.heap.size,0,none⟩) ps.length ps.length) _
  have Ay:¬ps.length*k.sz>2 ^ 24:=by omega
  have hc:P.cellsOf e=k.sz:=by simp[Program.cellsOf,he.info,he.size]
  simp only[Instr.buildSlice,Sem.run_bind,run_underlying ht,Result.andThen_ok,dz he.info,hc]
  rw[if_neg Ay]
  have CZ:(newRow e fR).run P w=.ok ⟨w.heap.size,0,none⟩ (w.alloc (.cells fR e)):=rfl
  by_cases h0:ps.length*k.sz=0
  ·have T0:GF=#[]:=Array.eq_empty_of_size_eq_zero (by rw[wb,h0])
   have xX:(Array.range (ps.length*k.sz)).map (fun x=>(#[]:Array Value)[x%(#[]:Array Value).size]!)=#[]:=Array.eq_empty_of_size_eq_zero (by simp[h0])
   rw[if_pos h0]
   rw[T0]at h1
   simp only[Sem.run_pure,Result.andThen_ok,xX,h1,Sem.run_bind,CZ]
  ·rw[if_neg h0]
   simp only[Sem.run_bind,uM he.info he.zero,Result.andThen_ok,Sem.run_pure]
   rw[show(Array.range (ps.length*k.sz)).map (fun x=>z.cells[x%z.cells.size]!)=GF from rfl,h1]
   simp only[Sem.run_bind,CZ,Result.andThen_ok,Sem.run_pure]
theorem Pk(g:Good Z ψ h w B0 O)(hB:B0≤w.heap.size){id:Nat}{e:TypeId}{k:K}{xs:List k.T}{v':Value}(n:Next Z ψ h w B0 O N Z (ed ψ id v') (ed h id (some (.own (.row e k) xs))) w')
  (sP:∀b,Own ψ h b→w'.heap[b]? = w.heap[b]?) (CZ:∀b,ob v'=some b→w.heap.size≤b) (hex:∃A c,v'=.slice A c c) :
  Next Z ψ h w B0 O N (fun b=>Z b∨ob v'=some b) ψ h w'∧az (fun b=>Z b∨ob v'=some b) ψ h w' (.sl true k xs) v':=by
 have n6:jD Z w' (.row e k) v' xs:=by
  have:=n.dV.row id (.row e k) xs (bw _ _ _)
  rwa [bw]at this
 obtain⟨vs,ho,hv⟩:=n6
 have m:Next Z ψ h w B0 O (fun _=>False) Z ψ h w':=g.more n.keep sP (fun _ _=>⟨rfl,rfl⟩) (fun i ty cs hb=>by
  have e:(fun _:Nat=>¬False)=fun _=>True:=by funext i;simp
  rw[e];exact aC.top cs) (fun _ _ _ h=>h.elim) (fun _ _ _ h=>h.elim) (fun _ _ h=>h.elim) (fun _ _ _ h=>h.elim) hB
 have hz:∀b,Z b→Z b∨ob v'=some b:=fun b h=>.inl h
 refine⟨⟨hz,fun b hb=>hb.imp (fun h=>h) fun h=>.inr (CZ b h),m.keep,fun i hi=>.inl ((m.ids i hi).resolve_right (fun h=>h)),⟨fun i ty cs hb=>?_,fun i ok x hb=>?_,fun i b h1 h2=>?_,m.dV.apart,fun b hb=>?_⟩⟩,?_⟩
 ·obtain⟨gg,vs,f1,f2,f3,f4⟩:=m.dV.box i ty cs hb
  exact⟨gg,vs,f1,f2,an.less hz (ct.refl _ _) (fun _ h=>⟨h,rfl⟩) f3,f4⟩
 ·exact(m.dV.row i ok x hb).kept hz (ct.refl _ _) (fun _ _=>rfl)
 ·obtain⟨k1,k2⟩:=m.dV.live i b h1 h2
  refine⟨fun hb=>hb.elim k1 fun hb=>?_,k2⟩
  have:=g.bP ⟨i,h1,h2⟩
  have:=CZ b hb
  omega
 ·rcases hb with hb|hb
  ·exact m.dV.jM b hb
  ·exact jD.lt (ok:=.row e k) ⟨vs,ho,hv⟩ hb
 ·simp only[az]
  exact⟨uJ ho hv (fun b h=>.inl h) (fun b h=>.inr h),fun _=>hex⟩
end Go.Vs
