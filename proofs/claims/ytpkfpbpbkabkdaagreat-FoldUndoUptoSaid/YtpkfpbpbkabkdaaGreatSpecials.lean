/- slices.Insert -/
import Derived.Test.YtpkfpbpbkabkdaaGreatEngineD
import Derived.Lib.AppendZerosOnto
import Derived.Lib.Overlaps
import Derived.Lib.Walk
import Derived.Shelf.Spec.SlicesInsert
import Derived.Laws.NewBlocks
set_option linter.unusedVariables false
set_option linter.unusedSimpArgs false
namespace Go.Vs
variable {P:Program} {w:World}
theorem lF(w:World)(dT sT ty elem:TypeId)(sz g o ab7 alC:Nat)(a:Addr)(ab8 alD:Nat)(cur:Array Value)(t:TypeId)(cs:List Value) (hu:P.underlying dT=some (.slice elem)) (hs:(P.info? elem).map (·.size)=some sz) (hg:w.heap[g]? = some (.cells cur t (0,0))) (hn:cs.length=Nat.min ab8 ab7*sz) (zJ:∀(j:Nat) v,cs[j]? = some v→w.cell? (a.add j)=some v) (YA:o+cs.length≤cur.size) (h1:∀v∈cs,v.oneCell'=true) :
  (Builtin.copy_ #[dT,sT] ty #[.slice (some ⟨g,o,none⟩) ab7 alC,.slice (some a) ab8 alD]).run P w = .ok (goInt (Nat.min ab8 ab7)) (w.setRow g (cur.toList.take o++cs++cur.toList.drop (o+cs.length)).toArray):=by
 have hl:=run_loadCells_list (P:=P) w a cs zJ;have xH:=run_storeCells_at P g o t cs 0 cur w hg (by simpa using YA) h1
 cases hq:P.info? elem with
 |none=>simp[hq]at hs
 |some i =>
  have hi:i.size=sz:=by simpa[hq] using hs
  simp only[Nat.add_zero]at xH;simp[Builtin.copy_,run_underlying hu,Builtin.lenOf,Builtin.firstCells,sizeOf,typeInfo,hq,hi,←hn,hl,xH]
theorem qH(w:World)(t ty e:TypeId)(sz g n c:Nat)(a:Addr)(m mc:Nat)(cur:Array Value)(news:List Value)(ht:P.underlying t=some (.slice e))(hs:(P.info? e).map (·.size)=some sz) (hg:w.heap[g]? = some (.cells cur e (0,0))) (hl:news.length=m*sz) (zJ:∀(j:Nat) v,news[j]? = some v→w.cell? (a.add j)=some v) (h1:∀v∈news,v.oneCell'=true) (eW:n+m≤c) (j8:c*sz≤cur.size) :
  (Builtin.append_ #[t,t] ty #[.slice (some ⟨g,0,none⟩) n c,.slice (some a) m mc]).run P w=.ok (.slice (some ⟨g,0,none⟩) (n+m) c) (w.setRow g (cur.toList.take (n*sz)++news++cur.toList.drop (n*sz+news.length)).toArray):=by
 have hle:n*sz+m*sz≤c*sz:=by rw[←Nat.add_mul];exact acE _ eW
 have af7:=run_loadCells_list (P:=P) w a news zJ;have xH:=run_storeCells_at P g (n*sz) e news 0 cur w hg (by omega) h1;simp only[Nat.add_zero]at xH;have ha:(⟨g,0,none⟩:Addr).add (n*sz)=⟨g,n*sz,none⟩:=by rw[dp,Nat.zero_add]
 cases hq:P.info? e with
 |none=>simp[hq]at hs
 |some i =>
  have hi:i.size=sz:=by simpa[hq] using hs
  simp[Builtin.append_,run_underlying ht,Builtin.lenOf,Builtin.firstCells,sizeOf,typeInfo,hq,hi,←hl,af7,eW,ha,xH]
theorem tU(w:World)(t ty e:TypeId)(sz g o k c:Nat)(cur:Array Value)(i:TypeInfo)(z:Value)(ht:P.underlying t=some (.slice e))(hi:P.info? e=some i)(hz:i.zero=some z)(B4:z.cells.size=sz)(h1:∀v∈z.cells.toList,v.oneCell'=true) (hg:w.heap[g]? = some (.cells cur e (0,0))) (hk:0<k) (YA:o+k*sz≤cur.size) :
  (Builtin.clear_ #[t] ty #[.slice (some ⟨g,o,none⟩) k c]).run P w=.ok (.tuple #[]) (w.setRow g (cur.toList.take o++(Builtin.zeroCells z.cells k).toList++cur.toList.drop (o+(Builtin.zeroCells z.cells k).toList.length)).toArray):=by
 have hl:(Builtin.zeroCells z.cells k).toList.length=k*sz:=by simp[Builtin.zeroCells,B4]
 have tp:∀v∈(Builtin.zeroCells z.cells k).toList,v.oneCell'=true:=fun v hv=>by
  simp only[Builtin.zeroCells,Array.toList_map,List.mem_map]at hv;obtain⟨q,hq,rfl⟩:=hv;have hq':q<k*z.cells.size:=by simpa using hq
  have hp:0<z.cells.size:=by
   rcases Nat.eq_zero_or_pos z.cells.size with h|h
   ·rw[h,Nat.mul_zero]at hq';omega
   ·exact h
  have aK:q%z.cells.size<z.cells.size:=adR _ hp;rw[getElem!_pos z.cells _ aK];exact h1 _ (by simp)
 have xH:=run_storeCells_at P g o e (Builtin.zeroCells z.cells k).toList 0 cur w hg (by omega) tp;simp only[Nat.add_zero]at xH;obtain⟨m,rfl⟩:∃m,k=m+1:=⟨k-1,by omega⟩;simp[Builtin.clear_,run_underlying ht,zeroValue,typeInfo,hi,hz,xH]
end Go.Vs
namespace Go.Vs
open Go.Proofs Go.RowKit
def EV(P:Program)(f:FuncId)(e:TypeId)(size:Nat):Prop :=∀(w:World) (v u:Value) (n i:Nat) (xs ys:List Value),fK w e size v n xs→fK w e size u 1 ys→i≤n→n+1≤gF→(∀b,ob v=some b→ob u≠some b) →(∀q∈xs,q.oneCell'=true)→(∀q∈ys,q.oneCell'=true) → Calls P f #[v,.int .i64 i,u] w fun en w'=>∃v',en=.returned v'∧fK w' e size v' (n+1) (xs.take (i*size)++(ys++xs.drop (i*size)))∧w.grownBy w' (ob v)∧(ob v'=ob v∨∀b,ob v'=some b→w.heap.size≤b)
def Jh(P:Program)(f:FuncId)(e:TypeId)(sz:Nat):Prop:=∀(w:World) (v u:Value) (n:Nat) (xs ys:List Value) (hv:fK w e sz v n xs) (hu:fK w e sz u 1 ys) (hm:n+1≤gF) (h1:∀q∈ys,q.oneCell'=true),Calls P f #[v,.int .i64 n,u] w fun en w'=>∃v',en=.returned v'∧fK w' e sz v' (n+1) (xs++ys)∧w.grownBy w' (ob v)∧(ob v'=ob v∨∀b,ob v'=some b→w.heap.size≤b)
def yI(P:Program)(f:FuncId)(e:TypeId)(sz:Nat):Prop:=∀(w:World) (g c g2 c2 n i:Nat) (xs ys:List Value) (cur dO:Array Value) (hg:w.heap[g]? = some (.cells cur e (0,0))) (j8:cur.size=c*sz) (lG:cur.toList.take (n*sz)=xs) (yJ:xs.length=n*sz) (v7:w.heap[g2]? = some (.cells dO e (0,0))) (oR:dO.size=c2*sz) (q9:0<c2) (mb:dO.toList.take (1*sz)=ys) (Gd:ys.length=1*sz) (bp:g2≠g) (hi:i<n) (eW:n+1≤c) (hc:c≤maxLen) (h1:∀q∈xs,q.oneCell'=true) (h2:∀q∈ys,q.oneCell'=true),Calls P f #[.slice (some ⟨g,0,none⟩) n c,.int .i64 i,.slice (some ⟨g2,0,none⟩) 1 c2] w fun en w'=>en=.returned (.slice (some ⟨g,0,none⟩) (n+1) c) ∧ ∃kg:Array Value,w'.heap[g]? = some (.cells kg e (0,0))∧kg.size=cur.size∧kg.toList.take ((n+1)*sz)=xs.take (i*sz)++(ys++xs.drop (i*sz))∧w.grownBy w' (some g)
def CG(P:Program)(f:FuncId)(e:TypeId)(sz:Nat):Prop:=∀(w:World) (g c g2 c2 n i:Nat) (xs ys:List Value) (cur dO:Array Value) (hg:w.heap[g]? = some (.cells cur e (0,0))) (j8:cur.size=c*sz) (lG:cur.toList.take (n*sz)=xs) (yJ:xs.length=n*sz) (v7:w.heap[g2]? = some (.cells dO e (0,0))) (oR:dO.size=c2*sz) (q9:0<c2) (mb:dO.toList.take (1*sz)=ys) (Gd:ys.length=1*sz) (bp:g2≠g) (hi:i<n) (A9:n≤c) (eW:c<n+1) (hm:n+1≤gF) (h1:∀q∈xs,q.oneCell'=true) (h2:∀q∈ys,q.oneCell'=true),Calls P f #[.slice (some ⟨g,0,none⟩) n c,.int .i64 i,.slice (some ⟨g2,0,none⟩) 1 c2] w fun en w'=>∃G,en=.returned (.slice (some ⟨w.heap.size,0,none⟩) (n+1) G) ∧ ∃kg:Array Value,w'.heap[w.heap.size]? = some (.cells kg e (0,0))∧kg.size=G*sz∧n+1≤G∧G≤maxLen∧kg.toList.take ((n+1)*sz)=xs.take (i*sz)++(ys++xs.drop (i*sz))∧w.grownBy w' (some g)
theorem Ji{w:World}{e sz:Nat}{u:Value}{ys:List Value}(hu:fK w e sz u 1 ys)(h1:∀q∈ys,q.oneCell'=true):Yu w sz u 1 ys:=by
 refine⟨hu.1,h1,.inr ?_⟩;rcases hu.2 with⟨h0,_⟩|⟨g,cap,cur,rfl,_,hg,_,_,hc,lG⟩
 ·cases h0
 ·refine⟨_,_,rfl,fun j q hj=>?_⟩;rw[dp,Nat.zero_add];rw[←lG,List.getElem?_take]at hj
  split at hj
  ·simp[World.cell?,hg];simpa using hj
  ·cases hj
theorem VZ{α:Type}{cur xs ys cur1 cur3:List α}{i n sz:Nat}(lG:cur.take (n*sz)=xs)(hl:(n+1)*sz≤cur.length)(hy:ys.length=sz)(hi:i≤n) (h1:cur1=cur.take ((i+1)*sz)++xs.drop (i*sz)++cur.drop ((i+1)*sz+(xs.drop (i*sz)).length)) (h3:cur3=cur1.take (i*sz)++ys++cur1.drop (i*sz+ys.length)) :
  cur3.take ((n+1)*sz)=xs.take (i*sz)++(ys++xs.drop (i*sz)):=by
 have rT:i*sz≤n*sz:=acE _ hi;rw[Nat.add_mul,Nat.one_mul]at hl h1 ⊢;have yJ:xs.length=n*sz:=by rw[←lG,List.length_take];omega
 generalize i*sz=a at *;generalize n*sz=b at *;have e1:cur1.take a=xs.take a:=by rw[h1,List.append_assoc,List.take_append_of_le_length (by rw[List.length_take];omega),List.take_take,←lG,List.take_take];congr 1;omega
 have e2:cur1.drop (a+ys.length)=xs.drop a++cur.drop (a+1*sz+(xs.drop a).length):=by rw[h1,List.append_assoc,Nat.one_mul,hy];exact List.drop_left' (by rw[List.length_take];omega)
 rw[h3,e1,e2,←List.append_assoc,←List.append_assoc];rw[List.take_left' (by simp only[List.length_append,List.length_take,List.length_drop];omega)]
theorem wZ{w:World}{e size:Nat}{g n:Nat}{cur:Array Value}{xs:List Value}(hg:w.heap[g]? = some (.cells cur e (0,0)))(lG:cur.toList.take (n*size)=xs)(o:Nat):∀(j:Nat) q,(xs.drop o)[j]? = some q→w.cell? ((⟨g,o,none⟩:Addr).add j)=some q:=fun j q hj=>by
 rw[dp];rw[List.getElem?_drop,←lG,List.getElem?_take]at hj
 split at hj
 ·simp[World.cell?,hg];simpa using hj
 ·cases hj
theorem w4{P:Program}{t e sz:Nat}(ht:P.underlying t=some (.slice e))(hz:(P.info? e).map (·.size)=some sz)(w:World)(g c g2 c2 n i:Nat)(xs ys:List Value)(cur dO:Array Value)(hg:w.heap[g]? = some (.cells cur e (0,0)))(j8:cur.size=c*sz)(lG:cur.toList.take (n*sz)=xs)(yJ:xs.length=n*sz)(v7:w.heap[g2]? = some (.cells dO e (0,0)))(oR:dO.size=c2*sz)(q9:0<c2)(mb:dO.toList.take (1*sz)=ys)(Gd:ys.length=1*sz)(bp:g2≠g)(hi:i<n)(eW:n+1≤c)(hc:c≤maxLen)(h1:∀q∈xs,q.oneCell'=true)(h2:∀q∈ys,q.oneCell'=true) :
  ∃cur1 cur3:Array Value,(∀(W:World),W.heap=w.heap→∀ty dc sc,(Builtin.copy_ #[t,t] ty #[.slice (some ⟨g,(i+1)*sz,none⟩) (n-i) dc,.slice (some ⟨g,i*sz,none⟩) (n+1-i) sc]).run P W=.ok (goInt (n-i:Nat)) (W.setRow g cur1))∧(∀ty dc sc,(Builtin.copy_ #[t,t] ty #[.slice (some ⟨g,i*sz,none⟩) (n+1-i) dc,.slice (some ⟨g2,0,none⟩) 1 sc]).run P (w.drew.setRow g cur1)=.ok (goInt 1) ((w.drew.setRow g cur1).setRow g cur3))∧cur3.size=cur.size∧cur3.toList.take ((n+1)*sz)=xs.take (i*sz)++(ys++xs.drop (i*sz)):=by
 have Rt:=wZ (size:=sz) (n:=1) v7 mb 0;have Ba:=wZ (size:=sz) (n:=n) hg lG (i*sz);have h63:c≤9223372036854775807:=by unfold maxLen at hc;omega
 have m6:(n+1)*sz≤c*sz:=acE _ eW;have m1:(n+1)*sz=n*sz+sz:=ad8 ..;have m2:(i+1)*sz=i*sz+sz:=ad8 ..;have m3:(n-i)*sz=n*sz-i*sz:=Nat.sub_mul ..;have m4:(i+1)*sz≤n*sz:=acE _ hi;have m5:1*sz=sz:=Nat.one_mul _;have hn5:n*sz≤cur.size:=by omega
 obtain⟨cur1,ow⟩:∃cur1:Array Value,cur1=(cur.toList.take ((i+1)*sz)++xs.drop (i*sz)++cur.toList.drop ((i+1)*sz+(xs.drop (i*sz)).length)).toArray:=⟨_,rfl⟩;have TI:(xs.drop (i*sz)).length=(n-i)*sz:=by rw[List.length_drop,yJ];omega
 have N6:∀(W:World),W.heap=w.heap→∀ty dc sc,(Builtin.copy_ #[t,t] ty #[.slice (some ⟨g,(i+1)*sz,none⟩) (n-i) dc,.slice (some ⟨g,i*sz,none⟩) (n+1-i) sc]).run P W=.ok (goInt (n-i:Nat)) (W.setRow g cur1):=fun W hW ty dc sc=>by have:=lF (P:=P) W t t ty e sz g ((i+1)*sz) (n-i) dc ⟨g,i*sz,none⟩ (n+1-i) sc cur e (xs.drop (i*sz)) ht hz (by rw[hW];exact hg) (by rw[TI];simp only[Nat.min_def];split<;>omega) (fun j v hj=>by have:=Ba j v hj;simpa only[World.cell?,hW] using this) (by omega) (fun q hq=>h1 q (adM hq));rw[this,ow];congr 2;simp only[Nat.min_def];split<;>omega
 have Nd:cur1.size=cur.size:=by rw[ow];simp;omega
 obtain⟨cur3,V5⟩:∃cur3:Array Value,cur3=(cur1.toList.take (i*sz)++ys++cur1.toList.drop (i*sz+ys.length)).toArray:=⟨_,rfl⟩;have alE:∀(W:World),W.heap[g]? = some (.cells cur1 e (0,0))→W.heap[g2]? = w.heap[g2]?→∀ty dc sc,(Builtin.copy_ #[t,t] ty #[.slice (some ⟨g,i*sz,none⟩) (n+1-i) dc,.slice (some ⟨g2,0,none⟩) 1 sc]).run P W=.ok (goInt 1) (W.setRow g cur3):=fun W hW hW2 ty dc sc=>by have:=lF (P:=P) W t t ty e sz g (i*sz) (n+1-i) dc ⟨g2,0,none⟩ 1 sc cur1 e ys ht hz hW (by rw[Gd];simp only[Nat.min_def];split<;>omega) (fun j v hj=>by have:=Rt j v (by simpa using hj);simpa only[World.cell?,gH,hW2] using this) (by omega) h2;rw[this,V5];congr 2;simp only[Nat.min_def];split<;>omega
 have Sk:cur3.size=cur.size:=by rw[V5];simp;omega
 have jv:cur3.toList.take ((n+1)*sz)=xs.take (i*sz)++(ys++xs.drop (i*sz)):=VZ (sz:=sz) (cur1:=cur1.toList) (cur3:=cur3.toList) lG (by simp;omega) (by rw[Gd,m5]) (Nat.le_of_lt hi) (by rw[ow]) (by rw[V5]);exact⟨cur1,cur3,N6,alE (w.drew.setRow g cur1) (setRow_heap w.drew g cur _ e _ hg) (_root_.Go.setRow_other w.drew g g2 _ bp),Sk,jv⟩
theorem w5{n i c:Nat}(hi:i<n)(eW:n+1≤c)(hc:c≤maxLen):(IntKind.i64.wrap ((i:Int)+1)=(i:Int)+1)∧(IntKind.i64.wrap ((n:Int)+1)=(n:Int)+1)∧((0:Int)≤(i:Int)+1)∧(i≤n)∧(((i:Int)+1).toNat=i+1)∧(¬(c=i+1))∧((i:Int)≤(n:Int)+1)∧(¬(c=i))∧(¬((i:Int)=(n:Int)))∧(¬((c:Int)<(n:Int)+1)):=by unfold maxLen at hc;exact⟨by rw[IntKind.wrap_i64];omega,by rw[IntKind.wrap_i64];omega,by omega,by omega,by omega,by omega,by omega,by omega,by omega,by omega⟩
theorem Sn{α:Type}{row xs ys row2 row3:List α}{i n sz:Nat}(hA:row.take (i*sz)=xs.take (i*sz))(hl:(n+1)*sz≤row.length)(yJ:xs.length=n*sz)(hy:ys.length=sz)(hi:i≤n) (h2:row2=row.take (i*sz)++ys++row.drop (i*sz+ys.length)) (h3:row3=row2.take ((i+1)*sz)++xs.drop (i*sz)++row2.drop ((i+1)*sz+(xs.drop (i*sz)).length)) :
  row3.take ((n+1)*sz)=xs.take (i*sz)++(ys++xs.drop (i*sz)):=by
 have rT:i*sz≤n*sz:=acE _ hi;rw[Nat.add_mul,Nat.one_mul]at hl h3 ⊢;generalize i*sz=a at *;generalize n*sz=b at *;have e1:row2.take (a+1*sz)=xs.take a++ys:=by rw[h2,hA,Nat.one_mul];exact List.take_left' (by simp only[List.length_append,List.length_take];omega)
 rw[Nat.one_mul]at e1;rw[h3,e1];rw[List.take_left' (by simp only[List.length_append,List.length_take,List.length_drop];omega)];rw[List.append_assoc]
theorem Ap{P:Program}{t e sz:Nat}{k:K}{i0:TypeInfo}{z0:Value}(hk:k.sz=sz)(h0:0<sz)(ht:P.underlying t=some (.slice e))(TJ:P.underlying 3=some (.int .i64))(he:pO P e k i0 z0)(w:World)(g c g2 c2 n i:Nat)(xs ys:List Value)(cur dO:Array Value)(hg:w.heap[g]? = some (.cells cur e (0,0)))(j8:cur.size=c*sz)(lG:cur.toList.take (n*sz)=xs)(yJ:xs.length=n*sz)(v7:w.heap[g2]? = some (.cells dO e (0,0)))(oR:dO.size=c2*sz)(q9:0<c2)(mb:dO.toList.take (1*sz)=ys)(Gd:ys.length=1*sz)(bp:g2≠g)(hi:i<n)(A9:n≤c)(eW:c<n+1)(hm:n+1≤gF)(h1:∀q∈xs,q.oneCell'=true)(h2:∀q∈ys,q.oneCell'=true) :
  ∃(G:Nat) (pV row2 row3:Array Value) (W1:World),(∀ty,(Builtin.append_ #[t,3] ty #[.slice (some ⟨g,0,none⟩) i c,.int .i64 ((n:Int)+1-(i:Int))]).run P w=.ok (.slice (some ⟨w.heap.size,0,none⟩) (n+1) G) W1)∧W1.heap[w.heap.size]? = some (.cells pV e (0,0))∧(∀b,b<w.heap.size→W1.heap[b]? = w.heap[b]?)∧w.grownBy W1 none∧(∀(W:World),W.heap=W1.heap→∀ty dc sc,(Builtin.copy_ #[t,t] ty #[.slice (some ⟨w.heap.size,i*sz,none⟩) (n+1-i) dc,.slice (some ⟨g2,0,none⟩) 1 sc]).run P W=.ok (goInt 1) (W.setRow w.heap.size row2))∧(∀(W:World),W.heap=(W1.setRow w.heap.size row2).heap→∀ty dc sc,(Builtin.copy_ #[t,t] ty #[.slice (some ⟨w.heap.size,(i+1)*sz,none⟩) (n-i) dc,.slice (some ⟨g,i*sz,none⟩) (n-i) sc]).run P W=.ok (goInt (n-i:Nat)) (W.setRow w.heap.size row3))∧row3.size=G*sz∧n+1≤G∧G≤9223372036854775807∧row3.toList.take ((n+1)*sz)=xs.take (i*sz)++(ys++xs.drop (i*sz)):=by
 have HC:z0.cells.size=sz:=he.xI.trans hk;have B4:i0.size=sz:=he.size.trans hk;have hz:(P.info? e).map (·.size)=some sz:=by rw[he.info];exact congrArg some B4
 have Jj:=he.bytes;have Rt:=wZ (size:=sz) (n:=1) v7 mb 0;have Ba:=wZ (size:=sz) (n:=n) hg lG (i*sz);have alF:=wZ (size:=sz) (n:=n) hg lG 0;have hgl:g<w.heap.size:=(abv.1 hg).1;have alG:g2<w.heap.size:=(abv.1 v7).1;unfold gF at hm;have m1:(n+1)*sz=n*sz+sz:=ad8 ..;have m2:(i+1)*sz=i*sz+sz:=ad8 ..;have m3:(n-i)*sz=n*sz-i*sz:=Nat.sub_mul ..;have m4:(i+1)*sz≤n*sz:=acE _ hi;have m5:1*sz=sz:=Nat.one_mul _;have m6:(n+1-i)*sz=n*sz+sz-i*sz:=by rw[Nat.sub_mul,m1]
 have nJ:(n+1)*i0.bytes≤140737488355328:=acH (aem hm Jj) (by decide);have hold:(Builtin.firstCells i0.size i (.slice (some ⟨g,0,none⟩) i c)).run P w.drew=.ok (xs.take (i*sz)).toArray w.drew:=by
  rw[B4];exact run_firstCells_some w.drew sz i ⟨g,0,none⟩ i c (xs.take (i*sz)) (by rw[List.length_take];omega) (fun j v hj=>by
   rw[List.getElem?_take]at hj
   split at hj
   ·exact alF j v hj
   ·cases hj)
 obtain⟨G,hG⟩:∃G,G=grownCap w (n+1) c e:=⟨_,rfl⟩;obtain⟨pV,EW⟩:∃pV:Array Value,pV=(xs.take (i*sz)).toArray++Builtin.zeroCells z0.cells (n+1-i)++Builtin.zeroCells z0.cells (G-(n+1)):=⟨_,rfl⟩;have hik:i+(n+1-i)=n+1:=by omega
 have TK:∀ty,(Builtin.append_ #[t,3] ty #[.slice (some ⟨g,0,none⟩) i c,.int .i64 ((n:Int)+1-(i:Int))]).run P w=.ok (.slice (some ⟨w.heap.size,0,none⟩) (n+1) G) (w.drew.alloc (.cells pV e)):=fun ty=>by have h:=Lib.run_append_grow_zeros w t 3 ty e i0 z0 .i64 .i64 ht TJ he.info he.zero (some ⟨g,0,none⟩) i c (xs.take (i*sz)) hold (n+1-i) (by omega) (by omega) (by omega) (by omega) (acH (acE _ (show n+1-i≤n+1 by omega)) (by omega)) (by rw[hik];exact growslice_fits eW nJ);rw[hik]at h;rw[show(n:Int)+1-(i:Int)=((n+1-i:Nat):Int) by omega,EW,hG];exact h
 have Qa:n+1≤G:=by rw[hG];exact grownCap_ge w _ _ _
 have m7:(G-(n+1))*sz=G*sz-(n*sz+sz):=by rw[Nat.sub_mul,m1]
 have m8:(n+1)*sz≤G*sz:=acE _ Qa;have EX:G≤9223372036854775807:=by have:=grownCap_le_maxLen w (n+1) c e (by unfold maxLen;omega);rw[←hG]at this;unfold maxLen at this;omega
 have hRs:pV.size=G*sz:=by rw[EW];simp[Builtin.zeroCells,HC,List.length_take,yJ];rw[Nat.min_eq_left (by omega)];omega
 have hRt:pV.toList.take (i*sz)=xs.take (i*sz):=by rw[EW];simp only[Array.toList_append,List.append_assoc];exact List.take_left' (by rw[List.length_take];omega)
 obtain⟨W1,w6⟩:∃W1,W1=w.drew.alloc (.cells pV e):=⟨_,rfl⟩;have vB:W1.heap[w.heap.size]? = some (.cells pV e (0,0)):=by rw[w6];exact(MapKept.heap_alloc w.drew (.cells pV e)).1
 have yK:∀b,b<w.heap.size→W1.heap[b]? = w.heap[b]? := fun b hb=>by rw[w6];exact(Below.heap_alloc w.drew (.cells pV e) b hb).trans rfl
 have qI:w.grownBy W1 none:=⟨by rw[w6];rfl,by rw[w6];rfl,by rw[w6];rfl,by have:=(abv.1 vB).1;omega,fun k hk _=>yK k hk⟩;obtain⟨row2,V6⟩:∃row2:Array Value,row2=(pV.toList.take (i*sz)++ys++pV.toList.drop (i*sz+ys.length)).toArray:=⟨_,rfl⟩;have TF:row2.size=pV.size:=by rw[V6];simp;omega
 have N7:∀(W:World),W.heap=W1.heap→∀ty dc sc,(Builtin.copy_ #[t,t] ty #[.slice (some ⟨w.heap.size,i*sz,none⟩) (n+1-i) dc,.slice (some ⟨g2,0,none⟩) 1 sc]).run P W=.ok (goInt 1) (W.setRow w.heap.size row2):=fun W hW ty dc sc=>by have:=lF (P:=P) W t t ty e sz w.heap.size (i*sz) (n+1-i) dc ⟨g2,0,none⟩ 1 sc pV e ys ht hz (by rw[hW];exact vB) (by rw[Gd];simp only[Nat.min_def];split<;>omega) (fun j v hj=>by have:=Rt j v (by simpa using hj);simpa only[World.cell?,gH,hW,yK g2 alG] using this) (by omega) h2;rw[this,V6];congr 2;simp only[Nat.min_def];split<;>omega
 obtain⟨row3,V7⟩:∃row3:Array Value,row3=(row2.toList.take ((i+1)*sz)++xs.drop (i*sz)++row2.toList.drop ((i+1)*sz+(xs.drop (i*sz)).length)).toArray:=⟨_,rfl⟩;have TI:(xs.drop (i*sz)).length=(n-i)*sz:=by rw[List.length_drop,yJ];omega
 have Sk:row3.size=pV.size:=by rw[V7];simp;omega
 have N8:∀(W:World),W.heap=(W1.setRow w.heap.size row2).heap→∀ty dc sc,(Builtin.copy_ #[t,t] ty #[.slice (some ⟨w.heap.size,(i+1)*sz,none⟩) (n-i) dc,.slice (some ⟨g,i*sz,none⟩) (n-i) sc]).run P W=.ok (goInt (n-i:Nat)) (W.setRow w.heap.size row3):=fun W hW ty dc sc=>by have:=lF (P:=P) W t t ty e sz w.heap.size ((i+1)*sz) (n-i) dc ⟨g,i*sz,none⟩ (n-i) sc row2 e (xs.drop (i*sz)) ht hz (by rw[hW];exact setRow_heap W1 w.heap.size pV _ e _ vB) (by rw[TI];simp only[Nat.min_def];split<;>omega) (fun j v hj=>by have:=Ba j v hj;simpa only[World.cell?,gH,hW,_root_.Go.setRow_other W1 w.heap.size g _ (Nat.ne_of_lt hgl),yK g hgl] using this) (by omega) (fun q hq=>h1 q (adM hq));rw[this,V7];congr 2;simp only[Nat.min_def];split<;>omega
 have jv:row3.toList.take ((n+1)*sz)=xs.take (i*sz)++(ys++xs.drop (i*sz)):=Sn (sz:=sz) (row:=pV.toList) (row2:=row2.toList) (row3:=row3.toList) hRt (by simp;omega) yJ (by rw[Gd,m5]) (by omega) (by rw[V6]) (by rw[V7]);rw[←w6]at TK;exact⟨G,pV,row2,row3,W1,TK,vB,yK,qI,N7,N8,by omega,Qa,EX,jv⟩
theorem Aq{n i c G:Nat}(hi:i<n)(A9:n≤c)(eW:c<n+1)(hm:n+1≤gF)(Qa:n+1≤G):(IntKind.i64.wrap ((i:Int)+1)=(i:Int)+1)∧(IntKind.i64.wrap ((n:Int)+1)=(n:Int)+1)∧(IntKind.i64.wrap ((n:Int)+1-(i:Int))=(n:Int)+1-(i:Int))∧((0:Int)≤(i:Int)+1)∧(i≤n)∧(((i:Int)+1).toNat=i+1)∧(¬(G=i))∧(¬(G=i+1))∧(¬(c=i))∧((i:Int)≤(n:Int))∧(¬((i:Int)=(n:Int)))∧((c:Int)<(n:Int)+1):=by unfold gF at hm;exact⟨by rw[IntKind.wrap_i64];omega,by rw[IntKind.wrap_i64];omega,by rw[IntKind.wrap_i64];omega,by omega,by omega,by omega,by omega,by omega,by omega,by omega,by omega,by omega⟩
theorem N9{P:Program}{f:FuncId}{e:TypeId}{sz:Nat}(hE:Jh P f e sz)(hS:yI P f e sz)(hG:CG P f e sz):EV P f e sz:=fun w v u n i xs ys hv hu hi hm YY h1 h2=>by
 by_cases he:i=n
 ·subst he;refine(hE w v u i xs ys hv hu hm h2).mono fun en w' ⟨v',e1,e2,e3,e4⟩=>⟨v',e1,?_,e3,e4⟩;have hl:=hv.1;rw[List.take_of_length_le (by omega),List.drop_eq_nil_of_le (by omega),List.append_nil];exact e2
 ·have oK:i<n:=by omega
  have m1:(n+1)*sz=n*sz+sz:=ad8 ..;have m4:i*sz≤n*sz:=acE _ hi;have m5:1*sz=sz:=Nat.one_mul _;rcases hv.2 with⟨h0,_⟩|⟨g,c,cur,rfl,TL,hg,A9,So,j8,lG⟩
  ·omega
  rcases hu.2 with⟨h0,_⟩|⟨g2,c2,dO,rfl,af9,v7,_,_,oR,mb⟩
  ·omega
  have oJ:ob (.slice (some ⟨g,0,none⟩) n c)=some g:=by simp only[ob];rw[if_neg (by omega)]
  have alH:ob (.slice (some ⟨g2,0,none⟩) 1 c2)=some g2:=by simp only[ob];rw[if_neg (by omega)]
  have bp:g2≠g:=fun e=>YY g oJ (by rw[alH,e]);by_cases eW:n+1≤c
  ·refine(hS w g c g2 c2 n i xs ys cur dO hg j8 lG hv.1 v7 oR af9 mb hu.1 bp oK eW So h1 h2).mono fun en w' ⟨e1,kg,e2,e3,e4,e5⟩=>?_;refine⟨_,e1,⟨?_,.inr ⟨g,c,kg,rfl,TL,e2,eW,So,by rw[e3,j8],e4⟩⟩,by rw[oJ];exact e5,.inl ?_⟩
   ·have hl:=hv.1;have zK:=hu.1;simp only[List.length_append,List.length_take,List.length_drop];omega
   ·rw[oJ];simp only[ob];rw[if_neg (by omega)]
  ·refine(hG w g c g2 c2 n i xs ys cur dO hg j8 lG hv.1 v7 oR af9 mb hu.1 bp oK A9 (by omega) hm h1 h2).mono fun en w' ⟨G,e1,kg,e2,e3,e4,e5,e6,e7⟩=>?_;refine⟨_,e1,⟨?_,.inr ⟨w.heap.size,G,kg,rfl,by omega,e2,e4,e5,e3,e6⟩⟩,by rw[oJ];exact e7,.inr fun b hb=>?_⟩
   ·have hl:=hv.1;have zK:=hu.1;simp only[List.length_append,List.length_take,List.length_drop];omega
   ·simp only[ob]at hb;rw[if_neg (by omega)]at hb;cases hb;omega
set_option maxHeartbeats 4000000 in
set_option maxRecDepth 100000 in
theorem Oa:Jh Tryz.prog 176 52 5:=fun w v u n xs ys hv hu hm h1=>by
 have ht:Tryz.prog.underlying 38=some (.slice 52):=by kernel_rfl
 obtain⟨i0,z0,he⟩:=cV (P:=Tryz.prog) (e:=52) (k:=.pair (.pair (.int .i64) (.int .i64)) (.pair (.sl (.pair (.pair (.int .i64) (.int .i64)) (.int .i64))) (.pair .str (.int .i64)))) (by kernel_rfl);have zJ:=Ji hu h1;obtain⟨v',w',eC,h4,h5,h6⟩:=eT (P:=Tryz.prog) (ty:=38) ht he hv zJ hm;obtain⟨A,c,rfl⟩:=hv.slice;have A9:n≤c:=by
  rcases hv.2 with⟨h0,A,e⟩|⟨g,cap,cur,e,hc,h2,h3,_⟩
  ·omega
  ·cases e;exact h3
 obtain⟨B,cu,rfl⟩:=hu.slice;have aga:n≤1073741824:=by unfold gF at hm;omega
 go_enter Tryz.func176,Tryz.ntmps176
 go_wp2_with (at_builtin;refine Lib.wpList_append_run _ rfl _ _ _ _ rfl _ _ rfl rfl _ _ eC ?_)
 all_goals go_ret
 all_goals first|exact⟨_,rfl,h4,h5,h6⟩|(subst_vars;exact⟨_,rfl,h4,h5,h6⟩)
set_option maxHeartbeats 4000000 in
set_option maxRecDepth 100000 in
theorem Jk:yI Tryz.prog 176 52 5:=fun w g c g2 c2 n i xs ys cur dO hg j8 lG yJ v7 oR q9 mb Gd bp hi eW hc h1 h2=>by
 have ht:Tryz.prog.underlying 38=some (.slice 52):=by kernel_rfl
 have hz:(Tryz.prog.info? 52).map (·.size)=some 5:=by kernel_rfl
 have B4:∀w,(Go.sizeOf 52).run Tryz.prog w=.ok 5 w:=fun w=>by
  cases hq:Tryz.prog.info? 52 with
  |none=>rw[hq]at hz;cases hz
  |some i=>rw[hq]at hz;simp at hz;simp[sizeOf,typeInfo,hq,hz]
 have Yg:∀a2 lb cb,(callFunc 209 #[.slice (some ⟨g2,0,none⟩) 1 c2,.slice (some ⟨g,a2,none⟩) lb cb]).run Tryz.prog w=.ok (.value (.bool false)) w:=fun a2 lb cb=>by rw[run_callFunc_extern Tryz.func209 (by kernel_rfl) (by kernel_rfl) (by kernel_rfl) (e:=Extern.SlicesOverlaps.overlaps #[38,38] #[4]) (by kernel_rfl),Lib.run_overlaps_apart w 38 4 52 ht 5 B4 ⟨g2,0,none⟩ ⟨g,a2,none⟩ 1 c2 lb cb bp 52 52 dO.size cur.size (by simp[World.shape?,v7]) (by simp[World.shape?,hg]) (by omega) (by simp[World.frozen?,v7]) (by simp[World.frozen?,v7])];rfl
 obtain⟨cur1,cur3,N6,LM,Sk,jv⟩:=w4 ht hz w g c g2 c2 n i xs ys cur dO hg j8 lG yJ v7 oR q9 mb Gd bp hi eW hc h1 h2;have h63:c≤9223372036854775807:=by unfold maxLen at hc;omega
 obtain⟨Gv,LN,Qb,oK,TJ,Cm,hb3,hb4,Gb,M5⟩:=w5 hi eW hc;clear lG mb;have mixed:Tryz.prog.follows .mixedOrders=true:=by kernel_rfl
 go_enter Tryz.func176,Tryz.ntmps176
 go_wp2_with (simp only[Yg])
 go_region_law (go_loud (refine step_copy_runI rfl _ _ 38 38 rfl (.slice (some ⟨g,(i+1)*5,none⟩) (n-i) (c-(i+1))) (.slice (some ⟨g,i*5,none⟩) (n+1-i) (c-i)) (by simp[Act.eval,Act.put]) (by simp[Act.eval,Act.put]) (N6 w.drew rfl 3 (c-(i+1)) (c-i)) ?_))
 go_wp2_with (simp only[LM])
 go_ret
 refine⟨rfl,cur3,setRow_heap _ g cur1 _ 52 _ (setRow_heap w.drew g cur _ 52 _ hg),Sk,jv,⟨rfl,rfl,rfl,by simp[World.setRow],fun k hk Sp=>?_⟩⟩;have zr:k≠g:=fun e=>Sp (by rw[e]);rw[_root_.Go.setRow_other _ g k _ zr,_root_.Go.setRow_other _ g k _ zr];rfl
set_option maxHeartbeats 4000000 in
set_option maxRecDepth 100000 in
theorem LO:CG Tryz.prog 176 52 5:=fun w g c g2 c2 n i xs ys cur dO hg j8 lG yJ v7 oR q9 mb Gd bp hi A9 eW hm h1 h2=>by
 have ht:Tryz.prog.underlying 38=some (.slice 52):=by kernel_rfl
 obtain⟨i0,z0,he⟩:=cV (P:=Tryz.prog) (e:=52) (k:=.pair (.pair (.int .i64) (.int .i64)) (.pair (.sl (.pair (.pair (.int .i64) (.int .i64)) (.int .i64))) (.pair .str (.int .i64)))) (by kernel_rfl);obtain⟨G,pV,row2,row3,W1,TK,vB,yK,qI,N7,N8,Sk,Qa,EX,jv⟩:=Ap (sz:=5) rfl (by decide) ht (by kernel_rfl) he w g c g2 c2 n i xs ys cur dO hg j8 lG yJ v7 oR q9 mb Gd bp hi A9 eW hm h1 h2;obtain⟨Gv,LN,hw3,Qb,oK,agd,hGi,age,hci,hb3,Gb,M5⟩:=Aq hi A9 eW hm Qa;unfold gF at hm;clear lG mb;have mixed:Tryz.prog.follows .mixedOrders=true:=by kernel_rfl
 go_enter Tryz.func176,Tryz.ntmps176
 go_wp2_with (first
  |(at_builtin;refine Lib.wpList_append_run _ rfl _ _ _ _ rfl _ _ rfl rfl _ _ (TK _) ?_)
  |(at_builtin;refine wpList_copy_runI _ rfl _ _ 38 38 rfl _ _ rfl rfl (N7 _ (by rfl) _ _ _) ?_))
 go_region_law (go_loud (refine step_copy_runI rfl _ _ 38 38 rfl (.slice (some ⟨w.heap.size,(i+1)*5,none⟩) (n-i) (G-(i+1))) (.slice (some ⟨g,i*5,none⟩) (n-i) (c-i)) (by simp[Act.eval,Act.put]) (by simp[Act.eval,Act.put]) (N8 (W1.setRow w.heap.size row2).drew rfl 3 (G-(i+1)) (c-i)) ?_))
 go_wp2
 go_ret
 refine⟨G,rfl,row3,setRow_heap _ w.heap.size row2 _ 52 _ (setRow_heap W1 w.heap.size pV _ 52 _ vB),by omega,Qa,EX,jv,⟨qI.os,qI.tape,qI.output,by have:=qI.size;simpa[World.setRow] using this,fun k hk _=>?_⟩⟩;rw[_root_.Go.setRow_other _ w.heap.size k _ (Nat.ne_of_lt hk)];exact(_root_.Go.setRow_other W1 w.heap.size k _ (Nat.ne_of_lt hk)).trans (yK k hk)
theorem ab9:EV Tryz.prog 176 52 5:=N9 Oa Jk LO
def Oc(P:Program)(f:FuncId)(e:TypeId)(size:Nat):Prop :=∀(w:World) (v:Value) (n i j:Nat) (xs:List Value),fK w e size v n xs→i<j→j≤n→n≤gF→(∀q∈xs,q.oneCell'=true) → Calls P f #[v,.int .i64 i,.int .i64 j] w fun en w'=>∃v',en=.returned v'∧fK w' e size v' (i+(n-j)) (xs.take (i*size)++xs.drop (j*size))∧w.grownBy w' (ob v)∧ob v'=ob v
theorem jC{P:Program}{ops:Array Oper}{o:Oper}{a:Act}{w:World}{K:Act→World→Prop}{Q:Exit→Act→World→Prop}{E:Prop} (hg:o.guard=none) (d x:Operand) (dT sT:TypeId) (IT:o.op=Op.call { callee:=Callee.builtin Builtin.append,args:=#[d,x],argTypes:=#[dT,sT] }) (v u:Value) (hd:a.eval d=v) (hx:a.eval x=u) {v':Value} {w':World} (hr:(Builtin.append_ #[dT,sT] o.type #[v,u]).run P w=.ok v' w') (hK:K (a.put o.dst v') w') :
  if Region.wanted o (yielded ops a.tmps)=true then Oper.wp P o a w K Q else E:=by
 have hw:Region.wanted o (yielded ops a.tmps)=true:=by simp[Region.wanted,hg]
 rw[if_pos hw];unfold Oper.wp;simp[execOp,IT,resolve,invoke,builtin,hd,hx,hr,Result.andThen];exact hK
theorem LP{α:Type}{cur xs cur1 dO zs:List α}{i j n sz:Nat}(lG:cur.take (n*sz)=xs)(hl:n*sz≤cur.length)(Dy:i≤j)(Tw:j≤n) (h1:cur1=cur.take (i*sz)++xs.drop (j*sz)++cur.drop (i*sz+(xs.drop (j*sz)).length)) (h2:dO=cur1.take ((i+(n-j))*sz)++zs++cur1.drop ((i+(n-j))*sz+zs.length)) :
  dO.take ((i+(n-j))*sz)=xs.take (i*sz)++xs.drop (j*sz):=by
 have ha:i*sz≤j*sz:=acE _ Dy;have hb:j*sz≤n*sz:=acE _ Tw;rw[Nat.add_mul,Nat.sub_mul]at h2 ⊢;have yJ:xs.length=n*sz:=by rw[←lG,List.length_take];omega
 generalize i*sz=a at *;generalize j*sz=b at *;generalize n*sz=c at *;have e0:cur.take a=xs.take a:=by rw[←lG,List.take_take];congr 1;omega
 have e1:cur1.take (a+(c-b))=xs.take a++xs.drop b:=by rw[h1,e0];exact List.take_left' (by simp only[List.length_append,List.length_take,List.length_drop];omega)
 rw[h2,e1,List.append_assoc];exact List.take_left' (by simp only[List.length_append,List.length_take,List.length_drop];omega)
set_option maxHeartbeats 4000000 in
set_option maxRecDepth 100000 in
theorem LQ(w:World)(g c n i j X:Nat)(xs:List Value)(cur:Array Value)(hg:w.heap[g]? = some (.cells cur 52 (0,0)))(j8:cur.size=c*5)(lG:cur.toList.take (n*5)=xs)(yJ:xs.length=n*5) (Dy:i<j) (Tw:j≤n) (A9:n≤c) (hc:c≤maxLen) (hX:if c=j then X=0 else X=j*5)
  (h1:∀q∈xs,q.oneCell'=true) :
  Calls Tryz.prog 177 #[.slice (some ⟨g,0,none⟩) n c,.int .i64 i,.int .i64 j] w fun en w'=>en=.returned (.slice (some ⟨g,0,none⟩) (i+(n-j)) c) ∧ ∃kg:Array Value,w'.heap[g]? = some (.cells kg 52 (0,0))∧kg.size=cur.size∧kg.toList.take ((i+(n-j))*5)=xs.take (i*5)++xs.drop (j*5)∧w.grownBy w' (some g):=by
 have ht:Tryz.prog.underlying 38=some (.slice 52):=by kernel_rfl
 have hz:(Tryz.prog.info? 52).map (·.size)=some 5:=by kernel_rfl
 obtain⟨zs,B4⟩:∃zs,C2 Tryz.prog 52=some zs:=abM.1 (by kernel_rfl);obtain⟨i0,z0,YZ,Yw,rfl,Bc⟩:=rr B4;obtain⟨i1,z1,he⟩:=cV (P:=Tryz.prog) (e:=52) (k:=.pair (.pair (.int .i64) (.int .i64)) (.pair (.sl (.pair (.pair (.int .i64) (.int .i64)) (.int .i64))) (.pair .str (.int .i64)))) (by kernel_rfl);have ei:i1=i0:=by have:=he.info;rw[YZ]at this;cases this;rfl
 subst ei;have ez:z1=z0:=by have:=he.zero;rw[Yw]at this;cases this;rfl
 subst ez;have HC:z1.cells.size=5:=he.xI;clear he B4;have TI:(xs.drop (j*5)).length=(n-j)*5:=by rw[List.length_drop,yJ];omega
 obtain⟨cur1,ow⟩:∃cur1:Array Value,cur1=(cur.toList.take (i*5)++xs.drop (j*5)++cur.toList.drop (i*5+(xs.drop (j*5)).length)).toArray:=⟨_,rfl⟩;have Nd:cur1.size=cur.size:=by rw[ow];simp;omega
 have YY:∀ty sc,(Builtin.append_ #[38,38] ty #[.slice (some ⟨g,0,none⟩) i c,.slice (some ⟨g,X,none⟩) (n-j) sc]).run Tryz.prog w.drew=.ok (.slice (some ⟨g,0,none⟩) (i+(n-j)) c) (w.drew.setRow g cur1):=fun ty sc=>by
  by_cases Sq:c=j
  ·have hnj:n=j:=by omega
   have:n-j=0:=by omega
   rw[this]at TI ⊢;have Gl:xs.drop (j*5)=[]:=abU (by omega);rw[gI ht YZ _ _ _ (by omega) _ _,ow,Gl];simp only[List.append_nil,List.length_nil,Nat.add_zero,List.take_append_drop,Array.toArray_toList];rw[setRow_self w.drew g cur 52 (0,0) hg]
  ·rw[if_neg Sq]at hX;subst hX;rw[ow];exact qH (P:=Tryz.prog) w.drew 38 ty 52 5 g i c ⟨g,j*5,none⟩ (n-j) sc cur (xs.drop (j*5)) ht hz hg TI (wZ (size:=5) (n:=n) (w:=w.drew) hg lG (j*5)) (fun q hq=>h1 q (adM hq)) (by omega) (by omega)
 obtain⟨dO,yL⟩:∃dO:Array Value,dO=(cur1.toList.take ((i+(n-j))*5)++(Builtin.zeroCells z1.cells (j-i)).toList++cur1.toList.drop ((i+(n-j))*5+(Builtin.zeroCells z1.cells (j-i)).toList.length)).toArray:=⟨_,rfl⟩;have hzc:(Builtin.zeroCells z1.cells (j-i)).toList.length=(j-i)*5:=by simp[Builtin.zeroCells,HC]
 have TF:dO.size=cur.size:=by rw[yL];simp[hzc];omega
 have vv:∀ty sc,(Builtin.clear_ #[38] ty #[.slice (some ⟨g,(i+(n-j))*5,none⟩) (n-(i+(n-j))) sc]).run Tryz.prog (w.drew.setRow g cur1)=.ok (.tuple #[]) ((w.drew.setRow g cur1).setRow g dO):=fun ty sc=>by have:=tU (P:=Tryz.prog) (w.drew.setRow g cur1) 38 ty 52 5 g ((i+(n-j))*5) (j-i) sc cur1 i1 z1 ht YZ Yw HC Bc (setRow_heap w.drew g cur _ 52 _ hg) (by omega) (by omega);rw[show n-(i+(n-j))=j-i by omega,this,yL]
 have jv:dO.toList.take ((i+(n-j))*5)=xs.take (i*5)++xs.drop (j*5):=LP (cur1:=cur1.toList) lG (by simp;omega) (by omega) Tw (by rw[ow]) (by rw[yL]);clear ow yL lG TI;have h63:c≤9223372036854775807:=by unfold maxLen at hc;omega
 have oK:i≤n:=by omega
 have hic:¬(c=i):=by omega
 have hjc:j≤c:=by omega
 have bp:¬((i:Int)=(j:Int)):=by omega
 have rf:i≤j:=by omega
 have alI:i≤c:=by omega
 have alJ:i+(n-j)≤n:=by omega
 have alK:i+(n-j)≤c:=by omega
 have alL:¬(c=i+(n-j)):=by omega
 have alM:(i:Int)+((n-j:Nat):Int)≤(n:Int):=by omega
 have mixed:Tryz.prog.follows .mixedOrders=true:=by kernel_rfl
 by_cases Sq:c=j
 ·rw[if_pos Sq]at hX;subst hX;subst Sq;obtain rfl:n=c:=by omega
  simp only[Nat.sub_self,Nat.add_zero]at YY vv jv ⊢
  go_enter Tryz.func177,Tryz.ntmps177
  go_wp2_with fail
  go_region_law (go_loud (refine jC rfl _ _ 38 38 rfl (.slice (some ⟨g,0,none⟩) i n) (.slice (some ⟨g,0,none⟩) 0 0) (by simp[Act.eval,Act.put]) (by simp[Act.eval,Act.put]) (YY 38 0) ?_))
  go_wp2_with (simp only[vv])
  go_ret
  refine⟨rfl,dO,setRow_heap _ g cur1 _ 52 _ (setRow_heap w.drew g cur _ 52 _ hg),TF,jv,⟨rfl,rfl,rfl,by simp[World.setRow],fun k hk Sp=>?_⟩⟩;have zr:k≠g:=fun e=>Sp (by rw[e]);rw[_root_.Go.setRow_other _ g k _ zr,_root_.Go.setRow_other _ g k _ zr];rfl
 ·rw[if_neg Sq]at hX;subst hX
  go_enter Tryz.func177,Tryz.ntmps177
  go_wp2_with fail
  go_region_law (go_loud (refine jC rfl _ _ 38 38 rfl (.slice (some ⟨g,0,none⟩) i c) (.slice (some ⟨g,j*5,none⟩) (n-j) (c-j)) (by simp[Act.eval,Act.put]) (by simp[Act.eval,Act.put]) (YY 38 (c-j)) ?_))
  go_wp2_with (simp only[vv])
  go_ret
  refine⟨rfl,dO,setRow_heap _ g cur1 _ 52 _ (setRow_heap w.drew g cur _ 52 _ hg),TF,jv,⟨rfl,rfl,rfl,by simp[World.setRow],fun k hk Sp=>?_⟩⟩;have zr:k≠g:=fun e=>Sp (by rw[e]);rw[_root_.Go.setRow_other _ g k _ zr,_root_.Go.setRow_other _ g k _ zr];rfl
theorem aca:Oc Tryz.prog 177 52 5:=fun w v n i j xs hv Dy Tw hm h1=>by
 rcases hv.2 with⟨h0,_⟩|⟨g,c,cur,rfl,TL,hg,A9,So,j8,lG⟩
 ·omega
 have oJ:ob (.slice (some ⟨g,0,none⟩) n c)=some g:=by simp only[ob];rw[if_neg (by omega)]
 refine(LQ w g c n i j (if c=j then 0 else j*5) xs cur hg j8 lG hv.1 Dy Tw A9 So (by split<;>rfl) h1).mono fun en w' ⟨e1,kg,e2,e3,e4,e5⟩=>?_;refine⟨_,e1,⟨?_,.inr ⟨g,c,kg,rfl,TL,e2,by omega,So,by rw[e3,j8],e4⟩⟩,by rw[oJ];exact e5,?_⟩
 ·have hl:=hv.1;simp only[List.length_append,List.length_take,List.length_drop];omega
 ·rw[oJ];simp only[ob];rw[if_neg (by omega)]
end Go.Vs
namespace Go.Vs
open Go.Proofs
variable {P:Program}
theorem EY{Z:Nat→Prop}{w:World}{k:K}{xs:List k.T}{vs:List Value}(hv:pM Z w k xs vs)(hl:vs.length=xs.length*k.sz):∀q∈vs,q.oneCell'=true:=fun q hq=>by
 obtain⟨p,hp⟩:=adD hq;have aK:p<vs.length:=(abg.1 hp).1;have hs:=k.jI;have hd:p / k.sz<xs.length:=Nat.div_lt_of_lt_mul (by rw[Nat.mul_comm];omega);have hr:=hv (p / k.sz) _ (aba hd);refine hr.one q ?_;have hm:=Nat.mod_add_div p k.sz;have hml:=adR p hs;have:((vs.drop (p / k.sz*k.sz)).take k.sz)[p%k.sz]? = some q:=by rw[List.getElem?_take,if_pos hml,List.getElem?_drop,Nat.mul_comm,Nat.add_comm,hm,hp]
 exact ab1 this
theorem HD{Z:Nat→Prop}{w:World}{k:K}{xs:List k.T}{vs:List Value}(hv:pM Z w k xs vs)(n:Nat):pM Z w k (xs.take n) (vs.take (n*k.sz)):=fun i x hx=>by
 rw[List.getElem?_take]at hx
 split at hx
 ·rename_i hi;have:=hv i x hx;have e:((vs.take (n*k.sz)).drop (i*k.sz)).take k.sz=(vs.drop (i*k.sz)).take k.sz:=by rw[List.drop_take,List.take_take];congr 1;have:(i+1)*k.sz≤n*k.sz:=acE _ hi;rw[Nat.add_mul]at this;omega
  rw[e];exact this
 ·cases hx
theorem HE{Z:Nat→Prop}{w:World}{k:K}{xs:List k.T}{vs:List Value}(hv:pM Z w k xs vs)(n:Nat):pM Z w k (xs.drop n) (vs.drop (n*k.sz)):=fun i x hx=>by rw[List.getElem?_drop]at hx;have:=hv (n+i) x hx;rw[List.drop_drop,←Nat.add_mul];exact this
theorem w7{f:FuncId}{ty:TypeId}{k:K}(hr:EV P f ty k.sz):jM P f (TU ty k):=by
 intro Z ψ h w B0 O N hh id e vs us g hB bL hN bD nc wD II he;unfold TU at he
 split at he
 rotate_left
 ·cases he
 rename_i o i j
 split at he
 rotate_left
 ·cases he
 rename_i xs ys Ba Rt
 split at he
 ·cases he
 rename_i hoj;simp only[Option.some.injEq,Prod.mk.injEq]at he;obtain⟨nL,rfl⟩:=he;have hhg:hh.get=h:=nc _ _ rfl;have Qc:hh.get o=some (.own (.row ty k) xs):=kX Ba;have hgj:hh.get j=some (.own (.row ty k) ys):=kX Rt;simp only[ax,aD]at wD;obtain⟨v,_,rfl,⟨_,hv⟩,n,_,rfl,rfl,u,_,rfl,⟨_,hu⟩,rfl⟩:=wD;simp only[s6,Bool.and_eq_true,decide_eq_true_eq,aR]at nL;obtain⟨h0,h1,h2,h3⟩:=nL;obtain⟨m,rfl⟩:∃m:Nat,i=m:=⟨i.toNat,by omega⟩;subst hhg;have hvo:v=ψ o:=hv (by rw[Qc];simp);have huj:u=ψ j:=hu (by rw[hgj];simp);obtain⟨vs,UK,vL⟩:=g.row o (.row ty k) xs Qc;obtain⟨j7,Yh,A8⟩:=g.row j (.row ty k) ys hgj;simp only[aJ,aS]at II;have bV:N id:=hN 0 (by omega);have bp:o≠id:=fun e=>II.1 (e▸bV);rw[h2]at Yh;subst hvo;subst huj;refine(hr w _ _ xs.length m vs j7 UK Yh (by omega) (by omega) (fun b hb Cm=>hoj (g.apart o j b (by rw[Qc];simp) (by rw[hgj];simp) hb Cm)) (EY vL UK.1) (EY A8 (by rw[Yh.1,h2]))).mono fun en w' ⟨v',e1,e2,e3,e4⟩=>?_;have kk:dF ψ hh.get w w':=dF.grown e3 (fun b e=>⟨o,by rw[Qc];simp,e⟩);have sm:=kk.same g;have hlen:(iu xs (m:Int) ys).length=xs.length+1:=by simp only[iu,Int.toNat_natCast,List.length_append,List.length_take,List.length_drop];omega
 have htl:(vs.take (m*k.sz)).length=(xs.take m).length*k.sz:=by have:m*k.sz≤xs.length*k.sz:=acE _ (by omega);rw[List.length_take,List.length_take,UK.1,Nat.min_eq_left this,Nat.min_eq_left (by omega)]
 have qq:pM Z w k (iu xs (m:Int) ys) (vs.take (m*k.sz)++(j7++vs.drop (m*k.sz))):=(HD vL m).append (A8.append (HE vL m) (by rw[Yh.1,h2])) htl;have Hj:=tl (N:=N) g hB id o bV Qc bp e3 (v:=v') (ok:=.row ty k) (y:=iu xs m ys) ⟨_,by rw[hlen];exact e2,qq.Km sm⟩ e4 (fun i ty cs hb=>aJ.imp (p:=fun i=>¬N i) (q:=fun i=>i≠id) (fun a ha e=>ha (by rw[e];exact bV)) (bD i ty cs hb));have hhp:Heap.get ((id,Ob.own (.row ty k) (iu xs (m:Int) ys))::hh.del o)=fE (fE hh.get o none) id (some (.own (.row ty k) (iu xs m ys))):=by rw[Dq,xL]
 refine⟨v',Z,fE ψ id v',e1,?_,?_⟩
 ·show Next Z ψ hh.get w B0 O N Z (fE ψ id v') (Heap.get ((id,Ob.own (.row ty k) (iu xs (m:Int) ys))::hh.del o)) w';rw[hhp];exact Hj
 ·simp only[bZ.v,aD];exact⟨e2.one,fun _=>(bE _ _ _).symm⟩
theorem EZ{f:FuncId}{ty:TypeId}{k:K}(hr:Oc P f ty k.sz):jM P f (Yp ty k):=by
 intro Z ψ h w B0 O N hh id e vs us g hB bL hN bD nc wD II he;unfold Yp at he
 split at he
 rotate_left
 ·cases he
 rename_i o i j
 split at he
 rotate_left
 ·cases he
 rename_i xs Ba;simp only[Option.some.injEq,Prod.mk.injEq]at he;obtain⟨nL,rfl⟩:=he;have hhg:hh.get=h:=nc _ _ rfl;have Qc:hh.get o=some (.own (.row ty k) xs):=kX Ba;simp only[ax,aD]at wD;obtain⟨v,_,rfl,⟨_,hv⟩,n,_,rfl,rfl,u,_,rfl,rfl,rfl⟩:=wD;simp only[kL,Bool.and_eq_true,decide_eq_true_eq,aR]at nL;obtain⟨h0,h1,h2,h3⟩:=nL;obtain⟨m,rfl⟩:∃m:Nat,i=m:=⟨i.toNat,by omega⟩;obtain⟨q,rfl⟩:∃m:Nat,j=m:=⟨j.toNat,by omega⟩;subst hhg;have hvo:v=ψ o:=hv (by rw[Qc];simp);obtain⟨vs,UK,vL⟩:=g.row o (.row ty k) xs Qc;simp only[aJ,aS]at II;have bV:N id:=hN 0 (by omega);have bp:o≠id:=fun e=>II.1 (e▸bV);subst hvo;refine(hr w _ xs.length m q vs UK (by omega) (by omega) (by omega) (EY vL UK.1)).mono fun en w' ⟨v',e1,e2,e3,e4⟩=>?_;have kk:dF ψ hh.get w w':=dF.grown e3 (fun b e=>⟨o,by rw[Qc];simp,e⟩);have sm:=kk.same g;have hlen:(eu xs (m:Int) q).length=m+(xs.length-q):=by simp only[eu,Int.toNat_natCast,List.length_append,List.length_take,List.length_drop];omega
 have htl:(vs.take (m*k.sz)).length=(xs.take m).length*k.sz:=by have:m*k.sz≤xs.length*k.sz:=acE _ (by omega);rw[List.length_take,List.length_take,UK.1,Nat.min_eq_left this,Nat.min_eq_left (by omega)]
 have qq:pM Z w k (eu xs (m:Int) q) (vs.take (m*k.sz)++vs.drop (q*k.sz)):=(HD vL m).append (HE vL q) htl;have Hj:=tl (N:=N) g hB id o bV Qc bp e3 (v:=v') (ok:=.row ty k) (y:=eu xs m q) ⟨_,by rw[hlen];exact e2,qq.Km sm⟩ (.inl e4) (fun i ty cs hb=>aJ.imp (p:=fun i=>¬N i) (q:=fun i=>i≠id) (fun a ha e=>ha (by rw[e];exact bV)) (bD i ty cs hb));have hhp:Heap.get ((id,Ob.own (.row ty k) (eu xs (m:Int) q))::hh.del o)=fE (fE hh.get o none) id (some (.own (.row ty k) (eu xs m q))):=by rw[Dq,xL]
 refine⟨v',Z,fE ψ id v',e1,?_,?_⟩
 ·show Next Z ψ hh.get w B0 O N Z (fE ψ id v') (Heap.get ((id,Ob.own (.row ty k) (eu xs (m:Int) q))::hh.del o)) w';rw[hhp];exact Hj
 ·simp only[bZ.v,aD];exact⟨e2.one,fun _=>(bE _ _ _).symm⟩
end Go.Vs
namespace Go.Vs
open Go.Proofs Go.RowKit
set_option maxHeartbeats 4000000 in
set_option maxRecDepth 100000 in
theorem Od:Jh Tryz.prog 211 118 4:=fun w v u n xs ys hv hu hm h1=>by
 have ht:Tryz.prog.underlying 39=some (.slice 118):=by kernel_rfl
 obtain⟨i0,z0,he⟩:=cV (P:=Tryz.prog) (e:=118) (k:=.pair (.pair (.int .i64) (.int .i64)) (.pair .str (.int .i64))) (by kernel_rfl);have zJ:=Ji hu h1;obtain⟨v',w',eC,h4,h5,h6⟩:=eT (P:=Tryz.prog) (ty:=39) ht he hv zJ hm;obtain⟨A,c,rfl⟩:=hv.slice;have A9:n≤c:=by
  rcases hv.2 with⟨h0,A,e⟩|⟨g,cap,cur,e,hc,h2,h3,_⟩
  ·omega
  ·cases e;exact h3
 obtain⟨B,cu,rfl⟩:=hu.slice;have aga:n≤1073741824:=by unfold gF at hm;omega
 go_enter Tryz.func211,Tryz.ntmps211
 go_wp2_with (at_builtin;refine Lib.wpList_append_run _ rfl _ _ _ _ rfl _ _ rfl rfl _ _ eC ?_)
 all_goals go_ret
 all_goals first|exact⟨_,rfl,h4,h5,h6⟩|(subst_vars;exact⟨_,rfl,h4,h5,h6⟩)
set_option maxHeartbeats 4000000 in
set_option maxRecDepth 100000 in
theorem Jl:yI Tryz.prog 211 118 4:=fun w g c g2 c2 n i xs ys cur dO hg j8 lG yJ v7 oR q9 mb Gd bp hi eW hc h1 h2=>by
 have ht:Tryz.prog.underlying 39=some (.slice 118):=by kernel_rfl
 have hz:(Tryz.prog.info? 118).map (·.size)=some 4:=by kernel_rfl
 have B4:∀w,(Go.sizeOf 118).run Tryz.prog w=.ok 4 w:=fun w=>by
  cases hq:Tryz.prog.info? 118 with
  |none=>rw[hq]at hz;cases hz
  |some i=>rw[hq]at hz;simp at hz;simp[sizeOf,typeInfo,hq,hz]
 have Yg:∀a2 lb cb,(callFunc 228 #[.slice (some ⟨g2,0,none⟩) 1 c2,.slice (some ⟨g,a2,none⟩) lb cb]).run Tryz.prog w=.ok (.value (.bool false)) w:=fun a2 lb cb=>by rw[run_callFunc_extern Tryz.func228 (by kernel_rfl) (by kernel_rfl) (by kernel_rfl) (e:=Extern.SlicesOverlaps.overlaps #[39,39] #[4]) (by kernel_rfl),Lib.run_overlaps_apart w 39 4 118 ht 4 B4 ⟨g2,0,none⟩ ⟨g,a2,none⟩ 1 c2 lb cb bp 118 118 dO.size cur.size (by simp[World.shape?,v7]) (by simp[World.shape?,hg]) (by omega) (by simp[World.frozen?,v7]) (by simp[World.frozen?,v7])];rfl
 obtain⟨cur1,cur3,N6,LM,Sk,jv⟩:=w4 ht hz w g c g2 c2 n i xs ys cur dO hg j8 lG yJ v7 oR q9 mb Gd bp hi eW hc h1 h2;have h63:c≤9223372036854775807:=by unfold maxLen at hc;omega
 obtain⟨Gv,LN,Qb,oK,TJ,Cm,hb3,hb4,Gb,M5⟩:=w5 hi eW hc;clear lG mb;have mixed:Tryz.prog.follows .mixedOrders=true:=by kernel_rfl
 go_enter Tryz.func211,Tryz.ntmps211
 go_wp2_with (simp only[Yg])
 go_region_law (go_loud (refine step_copy_runI rfl _ _ 39 39 rfl (.slice (some ⟨g,(i+1)*4,none⟩) (n-i) (c-(i+1))) (.slice (some ⟨g,i*4,none⟩) (n+1-i) (c-i)) (by simp[Act.eval,Act.put]) (by simp[Act.eval,Act.put]) (N6 w.drew rfl 3 (c-(i+1)) (c-i)) ?_))
 go_wp2_with (simp only[LM])
 go_ret
 refine⟨rfl,cur3,setRow_heap _ g cur1 _ 118 _ (setRow_heap w.drew g cur _ 118 _ hg),Sk,jv,⟨rfl,rfl,rfl,by simp[World.setRow],fun k hk Sp=>?_⟩⟩;have zr:k≠g:=fun e=>Sp (by rw[e]);rw[_root_.Go.setRow_other _ g k _ zr,_root_.Go.setRow_other _ g k _ zr];rfl
set_option maxHeartbeats 4000000 in
set_option maxRecDepth 100000 in
theorem LR:CG Tryz.prog 211 118 4:=fun w g c g2 c2 n i xs ys cur dO hg j8 lG yJ v7 oR q9 mb Gd bp hi A9 eW hm h1 h2=>by
 have ht:Tryz.prog.underlying 39=some (.slice 118):=by kernel_rfl
 obtain⟨i0,z0,he⟩:=cV (P:=Tryz.prog) (e:=118) (k:=.pair (.pair (.int .i64) (.int .i64)) (.pair .str (.int .i64))) (by kernel_rfl);obtain⟨G,pV,row2,row3,W1,TK,vB,yK,qI,N7,N8,Sk,Qa,EX,jv⟩:=Ap (sz:=4) rfl (by decide) ht (by kernel_rfl) he w g c g2 c2 n i xs ys cur dO hg j8 lG yJ v7 oR q9 mb Gd bp hi A9 eW hm h1 h2;obtain⟨Gv,LN,hw3,Qb,oK,agd,hGi,age,hci,hb3,Gb,M5⟩:=Aq hi A9 eW hm Qa;unfold gF at hm;clear lG mb;have mixed:Tryz.prog.follows .mixedOrders=true:=by kernel_rfl
 go_enter Tryz.func211,Tryz.ntmps211
 go_wp2_with (first
  |(at_builtin;refine Lib.wpList_append_run _ rfl _ _ _ _ rfl _ _ rfl rfl _ _ (TK _) ?_)
  |(at_builtin;refine wpList_copy_runI _ rfl _ _ 39 39 rfl _ _ rfl rfl (N7 _ (by rfl) _ _ _) ?_))
 go_region_law (go_loud (refine step_copy_runI rfl _ _ 39 39 rfl (.slice (some ⟨w.heap.size,(i+1)*4,none⟩) (n-i) (G-(i+1))) (.slice (some ⟨g,i*4,none⟩) (n-i) (c-i)) (by simp[Act.eval,Act.put]) (by simp[Act.eval,Act.put]) (N8 (W1.setRow w.heap.size row2).drew rfl 3 (G-(i+1)) (c-i)) ?_))
 go_wp2
 go_ret
 refine⟨G,rfl,row3,setRow_heap _ w.heap.size row2 _ 118 _ (setRow_heap W1 w.heap.size pV _ 118 _ vB),by omega,Qa,EX,jv,⟨qI.os,qI.tape,qI.output,by have:=qI.size;simpa[World.setRow] using this,fun k hk _=>?_⟩⟩;rw[_root_.Go.setRow_other _ w.heap.size k _ (Nat.ne_of_lt hk)];exact(_root_.Go.setRow_other W1 w.heap.size k _ (Nat.ne_of_lt hk)).trans (yK k hk)
theorem acb:EV Tryz.prog 211 118 4:=N9 Od Jl LR
set_option maxHeartbeats 4000000 in
set_option maxRecDepth 100000 in
theorem LS(w:World)(g c n i j X:Nat)(xs:List Value)(cur:Array Value)(hg:w.heap[g]? = some (.cells cur 118 (0,0)))(j8:cur.size=c*4)(lG:cur.toList.take (n*4)=xs)(yJ:xs.length=n*4) (Dy:i<j) (Tw:j≤n) (A9:n≤c) (hc:c≤maxLen) (hX:if c=j then X=0 else X=j*4)
  (h1:∀q∈xs,q.oneCell'=true) :
  Calls Tryz.prog 186 #[.slice (some ⟨g,0,none⟩) n c,.int .i64 i,.int .i64 j] w fun en w'=>en=.returned (.slice (some ⟨g,0,none⟩) (i+(n-j)) c) ∧ ∃kg:Array Value,w'.heap[g]? = some (.cells kg 118 (0,0))∧kg.size=cur.size∧kg.toList.take ((i+(n-j))*4)=xs.take (i*4)++xs.drop (j*4)∧w.grownBy w' (some g):=by
 have ht:Tryz.prog.underlying 39=some (.slice 118):=by kernel_rfl
 have hz:(Tryz.prog.info? 118).map (·.size)=some 4:=by kernel_rfl
 obtain⟨zs,B4⟩:∃zs,C2 Tryz.prog 118=some zs:=abM.1 (by kernel_rfl);obtain⟨i0,z0,YZ,Yw,rfl,Bc⟩:=rr B4;obtain⟨i1,z1,he⟩:=cV (P:=Tryz.prog) (e:=118) (k:=.pair (.pair (.int .i64) (.int .i64)) (.pair .str (.int .i64))) (by kernel_rfl);have ei:i1=i0:=by have:=he.info;rw[YZ]at this;cases this;rfl
 subst ei;have ez:z1=z0:=by have:=he.zero;rw[Yw]at this;cases this;rfl
 subst ez;have HC:z1.cells.size=4:=he.xI;clear he B4;have TI:(xs.drop (j*4)).length=(n-j)*4:=by rw[List.length_drop,yJ];omega
 obtain⟨cur1,ow⟩:∃cur1:Array Value,cur1=(cur.toList.take (i*4)++xs.drop (j*4)++cur.toList.drop (i*4+(xs.drop (j*4)).length)).toArray:=⟨_,rfl⟩;have Nd:cur1.size=cur.size:=by rw[ow];simp;omega
 have YY:∀ty sc,(Builtin.append_ #[39,39] ty #[.slice (some ⟨g,0,none⟩) i c,.slice (some ⟨g,X,none⟩) (n-j) sc]).run Tryz.prog w.drew=.ok (.slice (some ⟨g,0,none⟩) (i+(n-j)) c) (w.drew.setRow g cur1):=fun ty sc=>by
  by_cases Sq:c=j
  ·have hnj:n=j:=by omega
   have:n-j=0:=by omega
   rw[this]at TI ⊢;have Gl:xs.drop (j*4)=[]:=abU (by omega);rw[gI ht YZ _ _ _ (by omega) _ _,ow,Gl];simp only[List.append_nil,List.length_nil,Nat.add_zero,List.take_append_drop,Array.toArray_toList];rw[setRow_self w.drew g cur 118 (0,0) hg]
  ·rw[if_neg Sq]at hX;subst hX;rw[ow];exact qH (P:=Tryz.prog) w.drew 39 ty 118 4 g i c ⟨g,j*4,none⟩ (n-j) sc cur (xs.drop (j*4)) ht hz hg TI (wZ (size:=4) (n:=n) (w:=w.drew) hg lG (j*4)) (fun q hq=>h1 q (adM hq)) (by omega) (by omega)
 obtain⟨dO,yL⟩:∃dO:Array Value,dO=(cur1.toList.take ((i+(n-j))*4)++(Builtin.zeroCells z1.cells (j-i)).toList++cur1.toList.drop ((i+(n-j))*4+(Builtin.zeroCells z1.cells (j-i)).toList.length)).toArray:=⟨_,rfl⟩;have hzc:(Builtin.zeroCells z1.cells (j-i)).toList.length=(j-i)*4:=by simp[Builtin.zeroCells,HC]
 have TF:dO.size=cur.size:=by rw[yL];simp[hzc];omega
 have vv:∀ty sc,(Builtin.clear_ #[39] ty #[.slice (some ⟨g,(i+(n-j))*4,none⟩) (n-(i+(n-j))) sc]).run Tryz.prog (w.drew.setRow g cur1)=.ok (.tuple #[]) ((w.drew.setRow g cur1).setRow g dO):=fun ty sc=>by have:=tU (P:=Tryz.prog) (w.drew.setRow g cur1) 39 ty 118 4 g ((i+(n-j))*4) (j-i) sc cur1 i1 z1 ht YZ Yw HC Bc (setRow_heap w.drew g cur _ 118 _ hg) (by omega) (by omega);rw[show n-(i+(n-j))=j-i by omega,this,yL]
 have jv:dO.toList.take ((i+(n-j))*4)=xs.take (i*4)++xs.drop (j*4):=LP (cur1:=cur1.toList) lG (by simp;omega) (by omega) Tw (by rw[ow]) (by rw[yL]);clear ow yL lG TI;have h63:c≤9223372036854775807:=by unfold maxLen at hc;omega
 have oK:i≤n:=by omega
 have hic:¬(c=i):=by omega
 have hjc:j≤c:=by omega
 have bp:¬((i:Int)=(j:Int)):=by omega
 have rf:i≤j:=by omega
 have alI:i≤c:=by omega
 have alJ:i+(n-j)≤n:=by omega
 have alK:i+(n-j)≤c:=by omega
 have alL:¬(c=i+(n-j)):=by omega
 have alM:(i:Int)+((n-j:Nat):Int)≤(n:Int):=by omega
 have mixed:Tryz.prog.follows .mixedOrders=true:=by kernel_rfl
 by_cases Sq:c=j
 ·rw[if_pos Sq]at hX;subst hX;subst Sq;obtain rfl:n=c:=by omega
  simp only[Nat.sub_self,Nat.add_zero]at YY vv jv ⊢
  go_enter Tryz.func186,Tryz.ntmps186
  go_wp2_with fail
  go_region_law (go_loud (refine jC rfl _ _ 39 39 rfl (.slice (some ⟨g,0,none⟩) i n) (.slice (some ⟨g,0,none⟩) 0 0) (by simp[Act.eval,Act.put]) (by simp[Act.eval,Act.put]) (YY 39 0) ?_))
  go_wp2_with (simp only[vv])
  go_ret
  refine⟨rfl,dO,setRow_heap _ g cur1 _ 118 _ (setRow_heap w.drew g cur _ 118 _ hg),TF,jv,⟨rfl,rfl,rfl,by simp[World.setRow],fun k hk Sp=>?_⟩⟩;have zr:k≠g:=fun e=>Sp (by rw[e]);rw[_root_.Go.setRow_other _ g k _ zr,_root_.Go.setRow_other _ g k _ zr];rfl
 ·rw[if_neg Sq]at hX;subst hX
  go_enter Tryz.func186,Tryz.ntmps186
  go_wp2_with fail
  go_region_law (go_loud (refine jC rfl _ _ 39 39 rfl (.slice (some ⟨g,0,none⟩) i c) (.slice (some ⟨g,j*4,none⟩) (n-j) (c-j)) (by simp[Act.eval,Act.put]) (by simp[Act.eval,Act.put]) (YY 39 (c-j)) ?_))
  go_wp2_with (simp only[vv])
  go_ret
  refine⟨rfl,dO,setRow_heap _ g cur1 _ 118 _ (setRow_heap w.drew g cur _ 118 _ hg),TF,jv,⟨rfl,rfl,rfl,by simp[World.setRow],fun k hk Sp=>?_⟩⟩;have zr:k≠g:=fun e=>Sp (by rw[e]);rw[_root_.Go.setRow_other _ g k _ zr,_root_.Go.setRow_other _ g k _ zr];rfl
theorem acd:Oc Tryz.prog 186 118 4:=fun w v n i j xs hv Dy Tw hm h1=>by
 rcases hv.2 with⟨h0,_⟩|⟨g,c,cur,rfl,TL,hg,A9,So,j8,lG⟩
 ·omega
 have oJ:ob (.slice (some ⟨g,0,none⟩) n c)=some g:=by simp only[ob];rw[if_neg (by omega)]
 refine(LS w g c n i j (if c=j then 0 else j*4) xs cur hg j8 lG hv.1 Dy Tw A9 So (by split<;>rfl) h1).mono fun en w' ⟨e1,kg,e2,e3,e4,e5⟩=>?_;refine⟨_,e1,⟨?_,.inr ⟨g,c,kg,rfl,TL,e2,by omega,So,by rw[e3,j8],e4⟩⟩,by rw[oJ];exact e5,?_⟩
 ·have hl:=hv.1;simp only[List.length_append,List.length_take,List.length_drop];omega
 ·rw[oJ];simp only[ob];rw[if_neg (by omega)]
set_option maxHeartbeats 4000000 in
set_option maxRecDepth 100000 in
theorem Oe:Jh Tryz.prog 233 54 6:=fun w v u n xs ys hv hu hm h1=>by
 have ht:Tryz.prog.underlying 42=some (.slice 54):=by kernel_rfl
 obtain⟨i0,z0,he⟩:=cV (P:=Tryz.prog) (e:=54) (k:=.pair (.pair (.pair (.int .i64) (.int .i64)) (.int .i64)) (.pair (.pair (.int .i64) (.int .i64)) (.int .i64))) (by kernel_rfl);have zJ:=Ji hu h1;obtain⟨v',w',eC,h4,h5,h6⟩:=eT (P:=Tryz.prog) (ty:=42) ht he hv zJ hm;obtain⟨A,c,rfl⟩:=hv.slice;have A9:n≤c:=by
  rcases hv.2 with⟨h0,A,e⟩|⟨g,cap,cur,e,hc,h2,h3,_⟩
  ·omega
  ·cases e;exact h3
 obtain⟨B,cu,rfl⟩:=hu.slice;have aga:n≤1073741824:=by unfold gF at hm;omega
 go_enter Tryz.func233,Tryz.ntmps233
 go_wp2_with (at_builtin;refine Lib.wpList_append_run _ rfl _ _ _ _ rfl _ _ rfl rfl _ _ eC ?_)
 all_goals go_ret
 all_goals first|exact⟨_,rfl,h4,h5,h6⟩|(subst_vars;exact⟨_,rfl,h4,h5,h6⟩)
set_option maxHeartbeats 4000000 in
set_option maxRecDepth 100000 in
theorem Jm:yI Tryz.prog 233 54 6:=fun w g c g2 c2 n i xs ys cur dO hg j8 lG yJ v7 oR q9 mb Gd bp hi eW hc h1 h2=>by
 have ht:Tryz.prog.underlying 42=some (.slice 54):=by kernel_rfl
 have hz:(Tryz.prog.info? 54).map (·.size)=some 6:=by kernel_rfl
 have B4:∀w,(Go.sizeOf 54).run Tryz.prog w=.ok 6 w:=fun w=>by
  cases hq:Tryz.prog.info? 54 with
  |none=>rw[hq]at hz;cases hz
  |some i=>rw[hq]at hz;simp at hz;simp[sizeOf,typeInfo,hq,hz]
 have Yg:∀a2 lb cb,(callFunc 246 #[.slice (some ⟨g2,0,none⟩) 1 c2,.slice (some ⟨g,a2,none⟩) lb cb]).run Tryz.prog w=.ok (.value (.bool false)) w:=fun a2 lb cb=>by rw[run_callFunc_extern Tryz.func246 (by kernel_rfl) (by kernel_rfl) (by kernel_rfl) (e:=Extern.SlicesOverlaps.overlaps #[42,42] #[4]) (by kernel_rfl),Lib.run_overlaps_apart w 42 4 54 ht 6 B4 ⟨g2,0,none⟩ ⟨g,a2,none⟩ 1 c2 lb cb bp 54 54 dO.size cur.size (by simp[World.shape?,v7]) (by simp[World.shape?,hg]) (by omega) (by simp[World.frozen?,v7]) (by simp[World.frozen?,v7])];rfl
 obtain⟨cur1,cur3,N6,LM,Sk,jv⟩:=w4 ht hz w g c g2 c2 n i xs ys cur dO hg j8 lG yJ v7 oR q9 mb Gd bp hi eW hc h1 h2;have h63:c≤9223372036854775807:=by unfold maxLen at hc;omega
 obtain⟨Gv,LN,Qb,oK,TJ,Cm,hb3,hb4,Gb,M5⟩:=w5 hi eW hc;clear lG mb;have mixed:Tryz.prog.follows .mixedOrders=true:=by kernel_rfl
 go_enter Tryz.func233,Tryz.ntmps233
 go_wp2_with (simp only[Yg])
 go_region_law (go_loud (refine step_copy_runI rfl _ _ 42 42 rfl (.slice (some ⟨g,(i+1)*6,none⟩) (n-i) (c-(i+1))) (.slice (some ⟨g,i*6,none⟩) (n+1-i) (c-i)) (by simp[Act.eval,Act.put]) (by simp[Act.eval,Act.put]) (N6 w.drew rfl 3 (c-(i+1)) (c-i)) ?_))
 go_wp2_with (simp only[LM])
 go_ret
 refine⟨rfl,cur3,setRow_heap _ g cur1 _ 54 _ (setRow_heap w.drew g cur _ 54 _ hg),Sk,jv,⟨rfl,rfl,rfl,by simp[World.setRow],fun k hk Sp=>?_⟩⟩;have zr:k≠g:=fun e=>Sp (by rw[e]);rw[_root_.Go.setRow_other _ g k _ zr,_root_.Go.setRow_other _ g k _ zr];rfl
set_option maxHeartbeats 4000000 in
set_option maxRecDepth 100000 in
theorem LU:CG Tryz.prog 233 54 6:=fun w g c g2 c2 n i xs ys cur dO hg j8 lG yJ v7 oR q9 mb Gd bp hi A9 eW hm h1 h2=>by
 have ht:Tryz.prog.underlying 42=some (.slice 54):=by kernel_rfl
 obtain⟨i0,z0,he⟩:=cV (P:=Tryz.prog) (e:=54) (k:=.pair (.pair (.pair (.int .i64) (.int .i64)) (.int .i64)) (.pair (.pair (.int .i64) (.int .i64)) (.int .i64))) (by kernel_rfl);obtain⟨G,pV,row2,row3,W1,TK,vB,yK,qI,N7,N8,Sk,Qa,EX,jv⟩:=Ap (sz:=6) rfl (by decide) ht (by kernel_rfl) he w g c g2 c2 n i xs ys cur dO hg j8 lG yJ v7 oR q9 mb Gd bp hi A9 eW hm h1 h2;obtain⟨Gv,LN,hw3,Qb,oK,agd,hGi,age,hci,hb3,Gb,M5⟩:=Aq hi A9 eW hm Qa;unfold gF at hm;clear lG mb;have mixed:Tryz.prog.follows .mixedOrders=true:=by kernel_rfl
 go_enter Tryz.func233,Tryz.ntmps233
 go_wp2_with (first
  |(at_builtin;refine Lib.wpList_append_run _ rfl _ _ _ _ rfl _ _ rfl rfl _ _ (TK _) ?_)
  |(at_builtin;refine wpList_copy_runI _ rfl _ _ 42 42 rfl _ _ rfl rfl (N7 _ (by rfl) _ _ _) ?_))
 go_region_law (go_loud (refine step_copy_runI rfl _ _ 42 42 rfl (.slice (some ⟨w.heap.size,(i+1)*6,none⟩) (n-i) (G-(i+1))) (.slice (some ⟨g,i*6,none⟩) (n-i) (c-i)) (by simp[Act.eval,Act.put]) (by simp[Act.eval,Act.put]) (N8 (W1.setRow w.heap.size row2).drew rfl 3 (G-(i+1)) (c-i)) ?_))
 go_wp2
 go_ret
 refine⟨G,rfl,row3,setRow_heap _ w.heap.size row2 _ 54 _ (setRow_heap W1 w.heap.size pV _ 54 _ vB),by omega,Qa,EX,jv,⟨qI.os,qI.tape,qI.output,by have:=qI.size;simpa[World.setRow] using this,fun k hk _=>?_⟩⟩;rw[_root_.Go.setRow_other _ w.heap.size k _ (Nat.ne_of_lt hk)];exact(_root_.Go.setRow_other W1 w.heap.size k _ (Nat.ne_of_lt hk)).trans (yK k hk)
theorem ace:EV Tryz.prog 233 54 6:=N9 Oe Jm LU
def Jn(P:Program)(f:FuncId)(e:TypeId)(size:Nat):Prop :=∀(w:World) (n:Nat),n≤gF→Calls P f #[.slice none 0 0,.int .i64 n] w fun en w'=>∃v',en=.returned v'∧fK w' e size v' 0 []∧w.grownBy w' none∧∀b,ob v'=some b→w.heap.size≤b
set_option maxHeartbeats 4000000 in
set_option maxRecDepth 100000 in
theorem Y0:Jn Tryz.prog 220 33 3:=fun w n hm=>by
 have ht:Tryz.prog.underlying 50=some (.slice 33):=by kernel_rfl
 have TJ:Tryz.prog.underlying 3=some (.int .i64):=by kernel_rfl
 obtain⟨i0,z0,he⟩:=cV (P:=Tryz.prog) (e:=33) (k:=.pair (.pair (.int .i64) (.int .i64)) (.int .i64)) (by kernel_rfl);have HC:z0.cells.size=3:=he.xI;have B4:i0.size=3:=he.size;have Jj:=he.bytes;unfold gF at hm;by_cases hn:n=0
 ·subst hn;have oJ:ob (.slice none 0 0)=none:=rfl
  go_enter Tryz.func220,Tryz.ntmps220
  go_wp2
  go_ret
  exact⟨_,rfl,⟨by simp,.inl ⟨rfl,none,rfl⟩⟩,World.grownBy.refl w _,fun b hb=>by simp[ob]at hb⟩
 ·have nJ:n*i0.bytes≤281474976710656:=acH (aem hm Jj) (by decide);obtain⟨G,hG⟩:∃G,G=grownCap w n 0 33:=⟨_,rfl⟩;obtain⟨pV,EW⟩:∃pV,pV=Builtin.zeroCells z0.cells n++Builtin.zeroCells z0.cells (G-n):=⟨_,rfl⟩;obtain⟨W1,w6⟩:∃W1,W1=w.drew.alloc (.cells pV 33):=⟨_,rfl⟩;have TK:∀ty,(Builtin.append_ #[50,3] ty #[.slice none 0 0,.int .i64 n]).run Tryz.prog w=.ok (.slice (some ⟨w.heap.size,0,none⟩) n G) W1:=fun ty=>by rw[w6,EW,hG];exact Lib.run_append_nil_zeros w 50 3 ty 33 i0 z0 .i64 .i64 ht TJ he.info he.zero n (by omega) (by omega) (by omega) nJ
  have Qa:n≤G:=by rw[hG];exact grownCap_ge w _ _ _
  have EX:G≤9223372036854775807:=by have:=grownCap_le_maxLen w n 0 33 (by unfold maxLen;omega);rw[←hG]at this;unfold maxLen at this;omega
  have hRs:pV.size=G*3:=by rw[EW];simp[Builtin.zeroCells,HC];omega
  have vB:W1.heap[w.heap.size]? = some (.cells pV 33 (0,0)):=by rw[w6];exact(MapKept.heap_alloc w.drew (.cells pV 33)).1
  have yK:∀b,b<w.heap.size→W1.heap[b]? = w.heap[b]? := fun b hb=>by rw[w6];exact(Below.heap_alloc w.drew (.cells pV 33) b hb).trans rfl
  have qI:w.grownBy W1 none:=⟨by rw[w6];rfl,by rw[w6];rfl,by rw[w6];rfl,by have:=(abv.1 vB).1;omega,fun k hk _=>yK k hk⟩;clear EW w6 hG;have hn0:¬((n:Int)<0):=by omega
  have hn1:0<(n:Int):=by omega
  have hn2:IntKind.i64.wrap (n:Int)=n:=by rw[IntKind.wrap_i64];omega
  have hG0:¬(G=0):=by omega
  go_enter Tryz.func220,Tryz.ntmps220
  go_wp2_with (at_builtin;refine Lib.wpList_append_run _ rfl _ _ _ _ rfl _ _ rfl rfl _ _ (TK _) ?_)
  go_ret
  refine⟨.slice (some ⟨w.heap.size,0,none⟩) 0 G,rfl,⟨by simp,.inr ⟨w.heap.size,G,pV,rfl,by omega,vB,by omega,EX,hRs,by simp⟩⟩,qI,fun b hb=>?_⟩;simp only[ob]at hb;rw[if_neg (by omega)]at hb;cases hb;omega
theorem BL{P:Program}{f:FuncId}{ty:TypeId}{k:K}(hr:Jn P f ty k.sz):jM P f (Pw ty k):=by
 intro Z ψ h w B0 O N hh id e vs us g hB bL hN bD nc wD II he;unfold Pw at he
 split at he
 rotate_left
 ·cases he
 rename_i n;simp only[Option.some.injEq,Prod.mk.injEq]at he;obtain⟨nL,rfl⟩:=he;simp only[s8,Bool.and_eq_true,decide_eq_true_eq]at nL;obtain⟨h0,h1⟩:=nL;obtain⟨m,rfl⟩:∃m:Nat,n=m:=⟨n.toNat,by omega⟩;simp only[ax,aD]at wD;obtain⟨v,_,rfl,rfl,u,_,rfl,rfl,rfl⟩:=wD;have bV:N id:=hN 0 (by omega);refine(hr w m (by omega)).mono fun en w' ⟨v',e1,e2,e3,e4⟩=>?_;have kk:dF ψ h w w':=dF.grown e3 (fun b e=>by cases e);have Hj:=tj (N:=N) g hB id ty bV (k:=k) (xs:=[]) (vs:=[]) kk (fun b hb=>e3.block b (g.ck hb) (by simp)) e2 (fun i x hx=>by simp at hx) e4 (fun i ty cs hb=>aJ.imp (p:=fun i=>¬N i) (q:=fun i=>i≠id) (fun a ha e=>ha (by rw[e];exact bV)) (bD i ty cs hb));refine⟨v',Z,fE ψ id v',e1,?_,?_⟩
 ·have hhp:(bZ.new (.bY id) [(id,Ob.own (.row ty k) [])]).hp h=fE h id (some (.own (.row ty k) [])):=jL id _ h;rw[hhp];exact Hj
 ·simp only[bZ.v,aD];exact⟨e2.one,fun _=>(bE _ _ _).symm⟩
set_option maxHeartbeats 4000000 in
set_option maxRecDepth 100000 in
theorem Y1:Jn Tryz.prog 142 37 20:=fun w n hm=>by
 have ht:Tryz.prog.underlying 25=some (.slice 37):=by kernel_rfl
 have TJ:Tryz.prog.underlying 3=some (.int .i64):=by kernel_rfl
 obtain⟨i0,z0,he⟩:=cV (P:=Tryz.prog) (e:=37) (k:=ij) (by kernel_rfl);have HC:z0.cells.size=20:=he.xI;have B4:i0.size=20:=he.size;have Jj:=he.bytes;unfold gF at hm;by_cases hn:n=0
 ·subst hn;have oJ:ob (.slice none 0 0)=none:=rfl
  go_enter Tryz.func142,Tryz.ntmps142
  go_wp2
  go_ret
  exact⟨_,rfl,⟨by simp,.inl ⟨rfl,none,rfl⟩⟩,World.grownBy.refl w _,fun b hb=>by simp[ob]at hb⟩
 ·have nJ:n*i0.bytes≤281474976710656:=acH (aem hm Jj) (by decide);obtain⟨G,hG⟩:∃G,G=grownCap w n 0 37:=⟨_,rfl⟩;obtain⟨pV,EW⟩:∃pV,pV=Builtin.zeroCells z0.cells n++Builtin.zeroCells z0.cells (G-n):=⟨_,rfl⟩;obtain⟨W1,w6⟩:∃W1,W1=w.drew.alloc (.cells pV 37):=⟨_,rfl⟩;have TK:∀ty,(Builtin.append_ #[25,3] ty #[.slice none 0 0,.int .i64 n]).run Tryz.prog w=.ok (.slice (some ⟨w.heap.size,0,none⟩) n G) W1:=fun ty=>by rw[w6,EW,hG];exact Lib.run_append_nil_zeros w 25 3 ty 37 i0 z0 .i64 .i64 ht TJ he.info he.zero n (by omega) (by omega) (by omega) nJ
  have Qa:n≤G:=by rw[hG];exact grownCap_ge w _ _ _
  have EX:G≤9223372036854775807:=by have:=grownCap_le_maxLen w n 0 37 (by unfold maxLen;omega);rw[←hG]at this;unfold maxLen at this;omega
  have hRs:pV.size=G*20:=by rw[EW];simp[Builtin.zeroCells,HC];omega
  have vB:W1.heap[w.heap.size]? = some (.cells pV 37 (0,0)):=by rw[w6];exact(MapKept.heap_alloc w.drew (.cells pV 37)).1
  have yK:∀b,b<w.heap.size→W1.heap[b]? = w.heap[b]? := fun b hb=>by rw[w6];exact(Below.heap_alloc w.drew (.cells pV 37) b hb).trans rfl
  have qI:w.grownBy W1 none:=⟨by rw[w6];rfl,by rw[w6];rfl,by rw[w6];rfl,by have:=(abv.1 vB).1;omega,fun k hk _=>yK k hk⟩;clear EW w6 hG;have hn0:¬((n:Int)<0):=by omega
  have hn1:0<(n:Int):=by omega
  have hn2:IntKind.i64.wrap (n:Int)=n:=by rw[IntKind.wrap_i64];omega
  have hG0:¬(G=0):=by omega
  go_enter Tryz.func142,Tryz.ntmps142
  go_wp2_with (at_builtin;refine Lib.wpList_append_run _ rfl _ _ _ _ rfl _ _ rfl rfl _ _ (TK _) ?_)
  go_ret
  refine⟨.slice (some ⟨w.heap.size,0,none⟩) 0 G,rfl,⟨by simp,.inr ⟨w.heap.size,G,pV,rfl,by omega,vB,by omega,EX,hRs,by simp⟩⟩,qI,fun b hb=>?_⟩;simp only[ob]at hb;rw[if_neg (by omega)]at hb;cases hb;omega
end Go.Vs
namespace Go.Vs
variable {P:Program}
def Cd(P:Program)(g:TypeId→K→Bool):List Field→Nat→K→Bool
 |[],_,_=>false
 |[f],off,k=>(f.name != "_")&&(decide (f.offset=off)&&(decide (P.cellsOf f.type=k.sz)&&g f.type k))
 |f::f'::r,off,.pair a b=>(f.name != "_")&&(decide (f.offset=off)&&(decide (P.cellsOf f.type=a.sz)&&(g f.type a&&Cd P g (f'::r) (off+a.sz) b)))
 |_,_,_=>false
def V8(P:Program):Nat→TypeId→K→Bool
 |0,_,_=>false
 |d+1,t,k =>
  match P.underlying t,k with
  |some (.int a),.int b=>decide (a=b)
  |some .bool,.bool=>true
  |some .string,.str=>true
  |some (.struct fs),.pair a b => !P.stoodInHeld t&&Cd P (V8 P d) fs.toList 0 (.pair a b)
  |_,_=>false
def VK(w:World)(Z:Nat→Prop):(k:K)→k.T→Value→Prop
 |.pair a b,x,v=>∃cs:Array Value,v=.agg cs∧aQ Z w (.pair a b) x cs.toList
 |.one k,x,v=>False
 |k,x,v=>aQ Z w k x [v]
theorem CH{Z:Nat→Prop}{w:World}{d:Nat}{t:TypeId}{k:K}(hk:V8 P d t k=true)(hc:P.cellsOf t=k.sz){cs:Array Value}{off:Nat}{x:k.T}(hr:aQ Z w k x ((cs.toList.drop off).take k.sz)) :
  ∃v,(part t cs off).run P w=.ok v w∧VK w Z k x v:=by
 cases d with
 |zero=>simp[V8]at hk
 |succ d =>
  have plain:k.sz=1→(P.underlying t).map Ni=some false→∃v,(part t cs off).run P w=.ok v w∧aQ Z w k x [v]:=fun h1 h2=>by
   rw[h1]at hr;have hl:=hr.len;rw[h1,List.length_take,List.length_drop,Array.length_toList]at hl;have aK:off<cs.size:=by omega
   refine⟨cs[off],?_,?_⟩
   ·simp[part,iv h2,aK]
   ·have:(cs.toList.drop off).take 1=[cs[off]]:=by rw[List.drop_eq_getElem_cons (by simpa using aK)];simp
    rwa [this]at hr
  unfold V8 at hk
  split at hk
  ·rename_i a b hu;exact plain rfl (by rw[hu];rfl)
  ·rename_i hu;exact plain rfl (by rw[hu];rfl)
  ·rename_i hu;exact plain rfl (by rw[hu];rfl)
  ·rename_i fs a b hu;obtain⟨i,hi⟩:=vF hu;refine⟨.agg (cs.extract off (off+P.cellsOf t)),?_,_,rfl,?_⟩
   ·have h2:(P.underlying t).map Ni=some true:=by rw[hu];rfl
    simp[part,iv h2,eJ hi]
   ·rw[Array.toList_extract,hc];simpa[List.extract] using hr
  ·cases hk
def jZ(em:Bool)(d:Nat)(cs:Array Value):List Field→Sem Unit
 |[]=>pure ()
 |f::fs =>
  if f.name≠ "_" then do
   let a ←part f.type cs f.offset
   Instr.checkKey em d f.type a
   jZ em d cs fs
  else jZ em d cs fs
theorem vC(em:Bool)(w:World)(d:Nat)(t:TypeId)(cs:Array Value)(fs:Array Field)(ht:P.underlying t=some (.struct fs)) :
  (Instr.checkKey em (d+1) t (.agg cs)).run P w=(jZ em d cs fs.toList).run P w:=by
 simp only[Instr.checkKey,Sem.run_bind,run_underlying ht,Result.andThen_ok];rw[←Array.forIn_toList];generalize fs.toList=l;clear ht
 induction l generalizing w with
 |nil=>simp[jZ]
 |cons f fs ih =>
  simp only[List.forIn_cons,jZ,Sem.run_bind,Sem.run_ite]
  split
  ·generalize (part f.type cs f.offset).run P w=r1
   cases r1 with
   |ok a w1 =>
    simp only[Result.andThen_ok];generalize (Instr.checkKey em d f.type a).run P w1=r2
    cases r2 with
    |ok b w2 =>simp only[Result.andThen_ok,Sem.run_pure];exact ih w2
    |halt x w2=>simp[Result.andThen]
   |halt x w1=>simp[Result.andThen]
  ·simp only[Sem.run_pure,Result.andThen_ok];exact ih w
theorem LV{Z:Nat→Prop}{D d:Nat}(em:Bool)(hg:∀t k,V8 P d t k=true→∀(w:World) (x y:k.T) (u v:Value),VK w Z k x u→VK w Z k y v→(Op.equalIn (D+d) t u v).run P w=.ok (uu k x y) w∧(Instr.checkKey em (D+d) t u).run P w=.ok () w)(w:World)(xs ys:Array Value) :
  ∀(fs:List Field) (off:Nat) (k:K),Cd P (V8 P d) fs off k=true→∀(x y:k.T),aQ Z w k x ((xs.toList.drop off).take k.sz)→aQ Z w k y ((ys.toList.drop off).take k.sz) →(Op.eqFields (D+d) xs ys fs).run P w=.ok (uu k x y) w∧(jZ em (D+d) xs fs).run P w=.ok () w
 |[],_,_,h,_,_,_,_=>by simp[Cd]at h
 |[f],off,k,h,x,y,hx,hy=>by
  have h':f.name≠ "_"∧f.offset=off∧P.cellsOf f.type=k.sz∧V8 P d f.type k=true:=by cases k<;>simpa[Cd] using h
  obtain⟨h0,h1,h2,h3⟩:=h';subst h1;obtain⟨u,hu,V9⟩:=CH h3 h2 hx;obtain⟨v,hv,Du⟩:=CH h3 h2 hy;obtain⟨e1,e2⟩:=hg _ _ h3 w x y u v V9 Du;constructor
  ·simp only[Op.eqFields,if_pos h0,Sem.run_bind,hu,hv,e1,Result.andThen_ok]
   cases uu k x y<;>simp
  ·simp[jZ,h0,hu,e2]
 |f::f'::r,off,.pair a b,h,x,y,hx,hy=>by
  simp only[Cd,Bool.and_eq_true,decide_eq_true_eq,bne_iff_ne,ne_eq]at h;obtain⟨h0,h1,h2,h3,h4⟩:=h;subst h1;simp only[aQ,K.sz]at hx hy;obtain⟨us,ws,ex,Ka,Yi⟩:=hx;obtain⟨j7,ws',ey,hy1,hy2⟩:=hy;have sp:∀(zs:Array Value) (us ws:List Value),us.length=a.sz→ws.length=b.sz→(zs.toList.drop f.offset).take (a.sz+b.sz)=us++ws→us=(zs.toList.drop f.offset).take a.sz∧ws=(zs.toList.drop (f.offset+a.sz)).take b.sz:=fun zs us ws l1 l2 e=>by
   rw[List.take_add,]at e;have hl:((zs.toList.drop f.offset).take a.sz).length=us.length:=by have:=congrArg List.length e;simp only[List.length_append,List.length_take,List.length_drop]at this ⊢;omega
   obtain⟨e1,e2⟩:=List.append_inj e hl;exact⟨e1.symm,by rw[←e2,List.drop_drop]⟩
  obtain⟨rfl,rfl⟩:=sp xs us ws Ka.len Yi.len ex;obtain⟨rfl,rfl⟩:=sp ys j7 ws' hy1.len hy2.len ey;obtain⟨u,hu,V9⟩:=CH h3 h2 Ka;obtain⟨v,hv,Du⟩:=CH h3 h2 hy1;obtain⟨e1,e2⟩:=hg _ _ h3 w x.1 y.1 u v V9 Du;obtain⟨e3,e4⟩:=LV em hg w xs ys (f'::r) (f.offset+a.sz) b h4 x.2 y.2 Yi hy2;constructor
  ·rw[Op.eqFields,if_pos h0];simp only[Sem.run_bind,hu,hv,e1,Result.andThen_ok,Sem.run_ite,e3,uu]
   cases uu a x.1 y.1<;>simp
  ·rw[jZ,if_pos h0];simp only[Sem.run_bind,hu,e2,Result.andThen_ok];exact e4
 |f::f'::r,off,.int _,h,_,_,_,_=>by simp[Cd]at h
 |f::f'::r,off,.bool,h,_,_,_,_=>by simp[Cd]at h
 |f::f'::r,off,.str,h,_,_,_,_=>by simp[Cd]at h
 |f::f'::r,off,.sl _,h,_,_,_,_=>by simp[Cd]at h
 |f::f'::r,off,.one _,h,_,_,_,_=>by simp[Cd]at h
 |f::f'::r,off,.mp _ _,h,_,_,_,_=>by simp[Cd]at h
theorem Qd{Z:Nat→Prop}(D:Nat)(em:Bool):∀(d:Nat) (t:TypeId) (k:K),V8 P d t k=true→∀(w:World) (x y:k.T) (u v:Value),VK w Z k x u→VK w Z k y v →(Op.equalIn (D+d) t u v).run P w=.ok (uu k x y) w∧(Instr.checkKey em (D+d) t u).run P w=.ok () w
 |0,_,_,h,_,_,_,_,_,_,_=>by simp[V8]at h
 |d+1,t,k,h,w,x,y,u,v,hu,hv=>by
  rw[←Nat.add_assoc];unfold V8 at h
  split at h
  ·rename_i a b ht;simp only[decide_eq_true_eq]at h;subst h;simp only[VK,aQ,List.cons.injEq,and_true]at hu hv;subst hu;subst hv;exact⟨run_equalIn_int w _ _ _ _ _ _ ht,by simp[Instr.checkKey,run_underlying ht]⟩
  ·rename_i ht;simp only[VK,aQ,List.cons.injEq,and_true]at hu hv;subst hu;subst hv;exact⟨run_equalIn_bool' w _ _ _ _ ht,by simp[Instr.checkKey,run_underlying ht]⟩
  ·rename_i ht;simp only[VK,aQ,List.cons.injEq,and_true]at hu hv;subst hu;subst hv;exact⟨(run_equalIn_string w _ _ _ _ ht).trans (congrArg (fun b=>Result.ok b w) (beq_toListBytes (show ByteArray from x) (show ByteArray from y)).symm),by simp[Instr.checkKey,run_underlying ht]⟩
  ·rename_i fs a b ht;simp only[Bool.and_eq_true,Bool.not_eq_true']at h;obtain⟨hs,hf⟩:=h;obtain⟨xs,rfl,hx⟩:=hu;obtain⟨ys,rfl,hy⟩:=hv;have Y2:P.fieldsOf t=fs:=by simp[Program.fieldsOf,ht]
   have yJ:=hx.len;have Gd:=hy.len;obtain⟨e1,e2⟩:=LV (D:=D) (Z:=Z) em (fun t k hk w x y u v hu hv=>Qd D em d t k hk w x y u v hu hv) w xs ys fs.toList 0 (.pair a b) hf x y (by rw[List.drop_zero,List.take_of_length_le (by omega)];exact hx) (by rw[List.drop_zero,List.take_of_length_le (by omega)];exact hy);constructor
   ·rw[run_equalIn_struct w (D+d) t xs ys (by rw[Y2];exact ht) hs,Y2];exact e1
   ·rw[vC em w (D+d) t xs fs ht];exact e2
  ·cases h
theorem Sr{d:Nat}{t:TypeId}{a b:K}(hd:d≤10000)(hk:V8 P d t (.pair a b)=true)(hg:P.eqGuardType P.depth t=false):nK P t (.pair a b):=fun Z w x y xs ys hx hy=>by
 have e:10000-d+d=10000:=by omega
 have key:=fun em=>Qd (Z:=Z) (10000-d) em d t (.pair a b) hk w x y (.agg xs) (.agg ys) ⟨xs,rfl,hx⟩ ⟨ys,rfl,hy⟩;rw[e]at key;exact⟨(key true).1,fun op p q=>run_eqGuard_agg w op t p q xs ys hg,fun em=>(key em).2⟩
end Go.Vs
namespace Go.Vs
open Go.Proofs
theorem Wa{f:FuncId}{g:aX}(h:Sg f=some g):(f,g)∈sgs:=by
 unfold Sg at h;obtain⟨p,hp,rfl⟩:=acS.1 h;have h1:=ab5 hp;have h2:=adH hp;have:p.1=f:=by simpa using h2
 subst this;exact h1
theorem mP:∀f g,Sg f=some g→kj Tryz.prog (f%1000):=fun f g h=>by
 have hm:=Wa h;have key:(sgs.all fun p=>match Tryz.prog.funcs[p.1%1000]? with|some fn => !(fn.name== "runtime.NumGoroutine")&&fn.body.isSome|none=>false)=true:=by kernel_rfl
 have:=acQ.1 key _ hm;simp only at this
 split at this
 ·rename_i fn hf;simp only[Bool.and_eq_true,Bool.not_eq_true']at this;exact⟨fn,hf,this.1,this.2⟩
 ·cases this
theorem u4:Tryz.prog.follows .mixedOrders=true:=by kernel_rfl
theorem E0:∀t k,Eqs t=some k→nK Tryz.prog t k:=fun t k h=>by
 unfold Eqs at h;obtain⟨p,hp,rfl⟩:=acS.1 h;have h1:=ab5 hp;have h2:=adH hp;have e:p.1=t:=by simpa using h2
 subst e;simp only[eqs,List.mem_cons,List.not_mem_nil,or_false]at h1;rcases h1 with rfl|rfl|rfl|rfl|rfl|rfl
 all_goals exact Sr (d:=5) (by omega) (by kernel_rfl) (by kernel_rfl)
end Go.Vs
set_option maxRecDepth 1000000
set_option maxHeartbeats 0
namespace Go.Vs
open Go.Proofs
def Y3:aX:={ ps:=[.own],bs:=[.own (.row 52 dR)],rs:=[.own (.row 52 dR)] }
def Y4:aX:={ ps:=[.own],bs:=[.own (.row 118 fg)],rs:=[.own (.row 118 fg)] }
def mQ:aX:={ ps:=[.agg 2],bs:=[.own (.row 52 dR),.own (.row 118 fg)],rs:=[.agg [.own (.row 52 dR),.own (.row 118 fg)]] }
def u5(ty:TypeId)(k:K)(h:Heap)(id:Nat):List AV→Option (Bool×bZ)
 |[.bY a]=>match fk h (.row ty k) (.bY a) with
  |some xs=>some (aR 0 xs.length,.new (.bY (id+128)) [(id+128,.own (.row ty k) xs)])
  |_=>none
 |_=>none
def alS:aX:={ ps:=[],bs:=[],rs:=[],x:=some (u5 52 dR) }
def alT:aX:={ ps:=[],bs:=[],rs:=[],x:=some (u5 118 fg) }
def acf:List (Nat×aX):=[(500127,Y3),(500128,Y4)]
def Sg0(f:FuncId):Option aX:=(acf.find? (fun p=>p.1==f)).map (fun p=>p.2)
def acg:List (Nat×aX):=[(110,Cb),(500096,mQ),(500127,alS),(500128,alT)]
def Yj(f:FuncId):Option aX:=(acg.find? (fun p=>p.1==f)).map (fun p=>p.2)
def LW:Shape:=⟨[(14,.int .i64),(15,.int .i64)],[(.slot 2,20000,.box 41 [.own (.row 52 dR),.own (.row 118 fg)]),(.slot 3,20001,.box 41 [.own (.row 52 dR),.own (.row 118 fg)])],[(6,1000,(.row 52 (.pair (.pair (.int .i64) (.int .i64)) (.pair (.sl (.pair (.pair (.int .i64) (.int .i64)) (.int .i64))) (.pair .str (.int .i64)))))),(9,1020,(.row 118 (.pair (.pair (.int .i64) (.int .i64)) (.pair .str (.int .i64)))))],[]⟩
def An0(f:FuncId)(key:Nat):Option Shape:=none
def An1(f:FuncId)(key:Nat):Option Shape:=if f=500096 then(if key=3 then some LW else none) else none
noncomputable def Wb(SG:FuncId→Option aX)(AN:FuncId→Nat→Option Shape)(f:FuncId)(g:aX)(fn:Func)(F:FT)(J:JT g)(x:g.A):Option g.B:=aI Tryz.prog Eqs SG F fn.ntmps (AN f) J (th Tryz.prog g fn) fuel [.code (fn.body.getD .skip)] (entry g x)
noncomputable def aci(SG:FuncId→Option aX)(AN:FuncId→Nat→Option Shape)(f j:Nat)(g:aX)(fn:Func)(sh:Shape)(F:FT)(J:JT g)(x:sh.T):Option g.B:=aI Tryz.prog Eqs SG F fn.ntmps (AN f) J (th Tryz.prog g fn) fuel (round (aY Tryz.prog (f%1000) j)) (aA sh x)
theorem agi(F:FT)(J:JT Y3)(x:(Unit×((List ai)×Unit))):Wb Sg0 An0 500127 Y3 Tryz.f127 F J x = cond (List.isEmpty x.2.1) (vt 2 fun(j1:Nat) =>cond ((j1==0)==true) (some ((([]:List ai),()),x.2)) (cond (aR (List.length ([]:List ai)) (List.length x.2.1)) (some (((([]:List ai)++x.2.1),()),x.2)) (none))) (cond (aR (List.length ([]:List ai)) (List.length x.2.1)) (some (((([]:List ai)++x.2.1),()),x.2)) (none)):=by kernel_rfl
theorem agj(F:FT)(J:JT Y4)(x:(Unit×((List aj)×Unit))):Wb Sg0 An0 500128 Y4 Tryz.f128 F J x = cond (List.isEmpty x.2.1) (vt 2 fun(j1:Nat) =>cond ((j1==0)==true) (some ((([]:List aj),()),x.2)) (cond (aR (List.length ([]:List aj)) (List.length x.2.1)) (some (((([]:List aj)++x.2.1),()),x.2)) (none))) (cond (aR (List.length ([]:List aj)) (List.length x.2.1)) (some (((([]:List aj)++x.2.1),()),x.2)) (none)):=by kernel_rfl
theorem agk(F:FT)(J:JT Cb)(x:(((List ab)×Unit)×Unit)):Wb Yj An1 110 Cb Tryz.f110 F J x = cond (List.isEmpty x.1.1) (vt 2 fun(j1:Nat) =>cond ((j1==0)==true) (some ((([]:List ab),()),())) (cond (aR (List.length ([]:List ab)) (List.length x.1.1)) (some (((([]:List ab)++x.1.1),()),())) (none))) (cond (aR (List.length ([]:List ab)) (List.length x.1.1)) (some (((([]:List ab)++x.1.1),()),())) (none)):=by kernel_rfl
theorem agl(F:FT)(J:JT mQ)(x:(Unit×((List ai)×((List aj)×Unit)))):Wb Yj An1 500096 mQ Tryz.f96 F J x = cond (aR 0 (List.length x.2.1)) (cond (aR 0 (List.length x.2.2.1)) (J LW (aY Tryz.prog 96 0) (((((List.length x.2.1):Nat):Int),((0:Int),())),(((([]:List ai),(([]:List aj),())),((x.2.1,x.2.2),())),(x.2.1,x.2.2)))) (none)) (none):=by kernel_rfl
theorem Qe(F:FT)(J:JT mQ)(x:((Int×(Int×Unit))×((((List ai)×((List aj)×Unit))×(((List ai)×((List aj)×Unit))×Unit))×((List ai)×((List aj)×Unit))))):aci Yj An1 500096 0 mQ Tryz.f96 LW F J x = cond (decide (x.1.2.1<x.1.1)) (cond ((decide ((0:Int)≤x.1.2.1))&&(decide (x.1.2.1<(((List.length x.2.1.2.1.1):Nat):Int)))) (((x.2.1.2.1.1)[(Int.toNat x.1.2.1)]?).bind fun(y1:ai) =>(F 110 Cb ((y1.2.1,()),())).bind fun(y2:(((List ab)×Unit)×Unit)) =>cond ((decide ((0:Int)≤x.1.2.1))&&(decide (x.1.2.1<(((List.length x.2.1.2.1.1):Nat):Int)))) (((x.2.1.2.1.1)[(Int.toNat x.1.2.1)]?).bind fun(y3:ai) =>J LW (aY Tryz.prog 96 0) ((x.1.1,((IntKind.wrap .i64 (x.1.2.1+(1:Int))),())),(((x.2.1.1.1,x.2.1.1.2),(((List.set x.2.1.2.1.1 (Int.toNat x.1.2.1) (y3.1,(y2.1.1,y3.2.2))),x.2.1.2.1.2),())),(x.2.2.1,x.2.2.2)))) (none)) (none)) (some (((x.2.1.2.1.1,x.2.1.2.1.2),()),(x.2.2.1,x.2.2.2))):=by kernel_rfl
end Go.Vs
namespace Go.Vs
open Go.Proofs
variable {P:Program}
theorem wb{f:FuncId}{ty:TypeId}{k:K}(hf:f%1000=f)(hc:∀(xs:List k.T),aR 0 xs.length=true→Hd P f ⟨[.own],[.own (.row ty k)],[.own (.row ty k)],none⟩ ((),(xs,())) ((xs,()),(xs,()))):jM P f (u5 ty k):=by
 intro Z ψ h w B0 O N hh id e vs us g hB bL hN bD nc wD II he;unfold u5 at he
 split at he
 rotate_left
 ·cases he
 rename_i a
 split at he
 rotate_left
 ·cases he
 rename_i xs Ba;simp only[Option.some.injEq,Prod.mk.injEq]at he;obtain⟨nL,rfl⟩:=he;have ha:h a=some (.own (.row ty k) xs):=bL _ _ (kX Ba);have Og:h a≠none:=by rw[ha];simp
 simp only[ax,aD]at wD;obtain⟨v1,_,rfl,⟨_,vL⟩,rfl⟩:=wD;have vL:=vL Og;subst vL;simp only[aJ,aS]at II;have nR0:N (id+128):=hN 128 (by omega);have na:¬N a:=II.1;have a0:a≠id+128:=fun e=>na (e▸nR0)
 let ψ0:Nat→Value:=fun i=>if i=1000 then ψ a else ψ i
 have p0:ψ0 1000=ψ a:=if_pos rfl
 let g0:aX:=⟨[.own],[.own (.row ty k)],[.own (.row ty k)],none⟩
 have oK:rI g0 ((),(xs,()))=Heap.get [(1000,.own (.row ty k) xs)]:=rfl;have i0:rI g0 ((),(xs,())) 1000=some (.own (.row ty k) xs):=rfl;have iN:∀i,rI g0 ((),(xs,())) i≠none→i=1000:=fun i hi=>by
  by_cases e0:i=1000
  ·exact e0
  rw[oK]at hi;simp[Heap.get,Ne.symm e0]at hi
 have Y5:∀q,Own ψ0 (rI g0 ((),(xs,()))) q→ob (ψ a)=some q:=fun q ⟨i,h1,h2⟩=>by have:=iN i h1;subst this;rw[←p0];exact h2
 have oh:∀q,Own ψ0 (rI g0 ((),(xs,()))) q→Own ψ h q:=fun q hq=>⟨a,Og,Y5 q hq⟩;have G0:Good Z ψ0 (rI g0 ((),(xs,()))) w w.heap.size (Own ψ0 (rI g0 ((),(xs,())))):=by
  refine⟨fun i ty cs k=>?_,fun i ok x k=>?_,fun i q h1 h2=>⟨fun hz=>?_,.inr ⟨i,h1,h2⟩⟩,fun i j q h1 h2 h3 h4=>?_,g.kT⟩
  ·have:=iN i (by rw[k];simp);subst this;rw[i0]at k;cases k
  ·have:=iN i (by rw[k];simp);subst this;rw[i0]at k;cases k;rw[p0];exact g.row a _ _ ha
  ·have:=iN i h1;subst this;rw[p0]at h2;exact(g.live a q Og h2).1 hz
  ·rw[iN i h1,iN j h2]
 have c0:(ψ a).cells=#[ψ a]∧(ψ a).oneCell'=true:=(g.row a _ _ ha).one;have R0:ax Z ψ0 (rI g0 ((),(xs,()))) w (IL g0 ((),(xs,()))) [ψ a]:=by show ax Z ψ0 (rI g0 ((),(xs,()))) w [.bY 1000] [ψ a];simp only[ax,aD];exact⟨ψ a,[],rfl,⟨c0,fun _=>p0.symm⟩,rfl⟩
 have hcc:=hc xs nL Z ψ0 w [ψ a] G0 R0;rw[hf]at hcc;refine hcc.mono fun en w' ⟨V,Z',ψ',e1,zs,zf,kp,gd,bV,hr⟩=>?_;have q0:ψ' 1000=ψ a:=(bV 1000 (by show 1000∈[1000];simp)).trans p0;have o0:(kZ g0 ((xs,()),(xs,()))).get 1000=some (.own (.row ty k) xs):=rfl;have o2:(kZ g0 ((xs,()),(xs,()))).get 3000=some (.own (.row ty k) xs):=rfl;have gd:Good Z' ψ' (kZ g0 ((xs,()),(xs,()))).get w' w.heap.size (Own ψ0 (rI g0 ((),(xs,())))):=gd;have hr:aD Z' ψ' (kZ g0 ((xs,()),(xs,()))).get w' (.bY 3000) V:=hr;generalize (kZ g0 ((xs,()),(xs,()))).get=out at *;have keep:dF ψ h w w':=⟨kp.os,kp.tape,kp.output,kp.size,fun q hq hn=>kp.block q hq fun ho=>hn (oh q ho)⟩;have sm:cW Z w w':=keep.same g;have dv:∀i q,i≠a→h i≠none→ob (ψ i)=some q→w'.heap[q]? = w.heap[q]? := fun i q k1 h1 h2 =>kp.block q (g.ck ⟨i,h1,h2⟩) fun ho=>k1 (g.apart i a q h1 Og h2 (Y5 q ho))
 let fz:Nat→Value:=fun i=>if i=id+128 then ψ' 3000 else ψ i
 let H:Hp:=(bZ.new (.bY (id+128)) [(id+128,.own (.row ty k) xs)]).hp h
 have s0:fz (id+128)=ψ' 3000:=if_pos rfl;have sn:∀i,i≠id+128→fz i=ψ i:=fun i k1=>if_neg k1;have H0:H (id+128)=some (.own (.row ty k) xs):=by show(bZ.hp h _) _=_;simp[bZ.hp,Heap.get]
 have Hn:∀i,i≠id+128→H i=h i:=fun i k1=>by show(bZ.hp h _) _=_;simp[bZ.hp,Heap.get,Ne.symm k1]
 have two:∀q,ob (ψ' 3000)=some q→¬Z' q∧(w.heap.size≤q∨ob (ψ a)=some q):=fun q h2=>by obtain⟨h3,h4⟩:=gd.live 3000 q (by rw[o2];simp) h2;exact⟨h3,h4.imp (fun h=>h) (Y5 q)⟩
 have one:∀q,ob (ψ a)=some q→¬Z' q:=fun q h2=>(gd.live 1000 q (by rw[o0];simp) (by rw[q0];exact h2)).1;have Y6:∀q,ob (ψ' 3000)=some q→ob (ψ a)=some q→False:=fun q h2 h3=>by have:=gd.apart 3000 1000 q (by rw[o2];simp) (by rw[o0];simp) h2 (by rw[q0];exact h3);omega
 have fresh:∀q,ob (ψ' 3000)=some q→w.heap.size≤q:=fun q h2=>(two q h2).2.resolve_right (Y6 q h2);have ids:∀i,H i≠none→(h i≠none∧fz i=ψ i)∨N i:=fun i hi=>by
  by_cases k1:i=id+128
  ·exact .inr (k1▸nR0)
  ·rw[Hn i k1]at hi;exact .inl ⟨hi,sn i k1⟩
 have live:∀i q,i≠id+128→h i≠none→ob (ψ i)=some q→¬Z' q:=fun i q k1 h1 h2 hz=>by
  by_cases k3:i=a
  ·subst k3;exact one q h2 hz
  rcases zf q hz with k|k|k
  ·exact(g.live i q h1 h2).1 k
  ·exact k3 (g.apart i a q h1 Og h2 (Y5 q k))
  ·have:=g.ck ⟨i,h1,h2⟩;omega
 refine⟨V,Z',fz,e1,⟨zs,fun q hq=>(zf q hq).imp (fun h=>h) fun k=>k.imp (oh q) fun h=>h,keep,ids,⟨fun i BX cs k=>?_,fun i ok x k=>?_,fun i q h1 h2=>?_,fun i j q h1 h2 h3 h4=>?_,gd.kT⟩⟩,?_⟩
 ·have k1:i≠id+128:=fun e=>by rw[e]at k;have k:H (id+128)=some (.box BX cs):=k;rw[H0]at k;cases k
  have k3:i≠a:=fun e=>by rw[e]at k;have k:H a=some (.box BX cs):=k;rw[(Hn a a0).trans ha]at k;cases k
  have sK:h i=some (.box BX cs):=(Hn i k1).symm.trans k;obtain⟨gg,vs,f1,f2,f3,f4⟩:=g.box i BX cs sK;exact⟨gg,vs,(sn i k1).trans f1,(dv i gg k3 (by rw[sK];simp) (by rw[f1];rfl)).trans f2,f3.move zs sm (fun j hj bp=>(ids j bp).resolve_right hj) (bD i BX cs sK),f4⟩
 ·by_cases k1:i=id+128
  ·subst k1;have k:H (id+128)=some (.own ok x):=k;rw[H0]at k;cases k;rw[s0];exact gd.row 3000 _ _ o2
  have sK:h i=some (.own ok x):=(Hn i k1).symm.trans k;rw[sn i k1];by_cases k3:i=a
  ·subst k3;rw[ha]at sK;cases sK;rw[←q0];exact gd.row 1000 _ _ o0
  exact(g.row i ok x sK).kept zs sm fun q hq=>dv i q k3 (by rw[sK];simp) hq
 ·by_cases k1:i=id+128
  ·subst k1;have h2:ob (fz (id+128))=some q:=h2;rw[s0]at h2;exact⟨(two q h2).1,.inl (acH hB (fresh q h2))⟩
  ·have h1:h i≠none:=by rw[←Hn i k1];exact h1
   rw[sn i k1]at h2;exact⟨live i q k1 h1 h2,(g.live i q h1 h2).2⟩
 ·have lt:∀j,j≠id+128→H j≠none→ob (fz j)=some q→q<w.heap.size:=fun j k1 k2 k3=>by rw[Hn j k1]at k2;rw[sn j k1]at k3;exact g.ck ⟨j,k2,k3⟩
  by_cases k1:i=id+128<;>by_cases k2:j=id+128
  ·exact k1.trans k2.symm
  ·subst k1;have h3:ob (fz (id+128))=some q:=h3;rw[s0]at h3;have:=fresh q h3;have:=lt j k2 h2 h4;omega
  ·subst k2;have h4:ob (fz (id+128))=some q:=h4;rw[s0]at h4;have:=fresh q h4;have:=lt i k1 h1 h3;omega
  ·rw[sn i k1]at h3;rw[sn j k2]at h4;exact g.apart i j q (by rw[←Hn i k1];exact h1) (by rw[←Hn j k2];exact h2) h3 h4
 ·simp only[aD]at hr;show aD Z' fz H w' (.bY (id+128)) V;simp only[aD];exact⟨hr.1,fun _=>(hr.2 (by rw[o2];simp)).trans s0.symm⟩
theorem Jo(hc:∀(xs:List dR.T) (ys:List fg.T),rN xs ys=true→Hd P 96 mQ ((),(xs,(ys,()))) (((xs,(ys,())),()),(xs,(ys,())))):jM P 96 I3:=by
 intro Z ψ h w B0 O N hh id e vs us g hB bL hN bD nc wD II he;unfold I3 at he
 split at he
 rotate_left
 ·cases he
 rename_i a b
 split at he
 rotate_left
 ·cases he
 rename_i xs ys Ba Rt
 split at he
 ·cases he
 rename_i rT;simp only[Option.some.injEq,Prod.mk.injEq]at he;obtain⟨nL,rfl⟩:=he;have ha:h a=some (.own (.row 52 dR) xs):=bL _ _ (kX Ba);have hb:h b=some (.own (.row 118 fg) ys):=bL _ _ (kX Rt);have Og:h a≠none:=by rw[ha];simp
 have Jj:h b≠none:=by rw[hb];simp
 simp only[ax,aD]at wD;obtain⟨v,_,rfl,⟨cs,rfl,v1,_,Rm,⟨_,vL⟩,v2,_,rfl,⟨_,A8⟩,rfl⟩,rfl⟩:=wD;have vL:=vL Og;have A8:=A8 Jj;subst vL A8;simp only[aJ,aS]at II;have nR0:N (id+128):=hN 128 (by omega);have nR1:N (id+129):=hN 129 (by omega);have na:¬N a:=II.1.1;have nb:¬N b:=II.1.2.1;have a0:a≠id+128:=fun e=>na (e▸nR0);have a1:a≠id+129:=fun e=>na (e▸nR1);have b0:b≠id+128:=fun e=>nb (e▸nR0);have b1:b≠id+129:=fun e=>nb (e▸nR1)
 let ψ0:Nat→Value:=fun i=>if i=1000 then ψ a else if i=1020 then ψ b else ψ i
 have p0:ψ0 1000=ψ a:=if_pos rfl;have p1:ψ0 1020=ψ b:=(if_neg (by decide)).trans (if_pos rfl);have oK:rI mQ ((),(xs,(ys,())))=Heap.get [(1000,.own (.row 52 dR) xs),(1020,.own (.row 118 fg) ys)]:=rfl;have i0:rI mQ ((),(xs,(ys,()))) 1000=some (.own (.row 52 dR) xs):=rfl;have i1:rI mQ ((),(xs,(ys,()))) 1020=some (.own (.row 118 fg) ys):=rfl;have iN:∀i,rI mQ ((),(xs,(ys,()))) i≠none→i=1000∨i=1020:=fun i hi=>by
  by_cases e0:i=1000
  ·exact .inl e0
  by_cases e1:i=1020
  ·exact .inr e1
  rw[oK]at hi;simp[Heap.get,Ne.symm e0,Ne.symm e1]at hi
 have Y5:∀q,Own ψ0 (rI mQ ((),(xs,(ys,())))) q→ob (ψ a)=some q∨ob (ψ b)=some q:=fun q ⟨i,h1,h2⟩=>by
  rcases iN i h1 with rfl|rfl
  ·exact .inl (by rw[←p0];exact h2)
  ·exact .inr (by rw[←p1];exact h2)
 have oh:∀q,Own ψ0 (rI mQ ((),(xs,(ys,())))) q→Own ψ h q:=fun q hq=>(Y5 q hq).elim (fun k=>⟨a,Og,k⟩) fun k=>⟨b,Jj,k⟩;have G0:Good Z ψ0 (rI mQ ((),(xs,(ys,())))) w w.heap.size (Own ψ0 (rI mQ ((),(xs,(ys,()))))):=by
  refine⟨fun i ty cs k=>?_,fun i ok x k=>?_,fun i q h1 h2=>⟨fun hz=>?_,.inr ⟨i,h1,h2⟩⟩,fun i j q h1 h2 h3 h4=>?_,g.kT⟩
  ·rcases iN i (by rw[k];simp) with rfl|rfl
   ·rw[i0]at k;cases k
   ·rw[i1]at k;cases k
  ·rcases iN i (by rw[k];simp) with rfl|rfl
   ·rw[i0]at k;cases k;rw[p0];exact g.row a _ _ ha
   ·rw[i1]at k;cases k;rw[p1];exact g.row b _ _ hb
  ·rcases iN i h1 with rfl|rfl
   ·rw[p0]at h2;exact(g.live a q Og h2).1 hz
   ·rw[p1]at h2;exact(g.live b q Jj h2).1 hz
  ·rcases iN i h1 with rfl|rfl<;>rcases iN j h2 with rfl|rfl
   ·rfl
   ·rw[p0]at h3;rw[p1]at h4;exact absurd (g.apart a b q Og Jj h3 h4) rT
   ·rw[p1]at h3;rw[p0]at h4;exact absurd (g.apart a b q Og Jj h4 h3) rT
   ·rfl
 have c0:(ψ a).cells=#[ψ a]∧(ψ a).oneCell'=true:=(g.row a _ _ ha).one;have c1:(ψ b).cells=#[ψ b]∧(ψ b).oneCell'=true:=(g.row b _ _ hb).one;have R0:ax Z ψ0 (rI mQ ((),(xs,(ys,())))) w (IL mQ ((),(xs,(ys,())))) [.agg cs]:=by show ax Z ψ0 (rI mQ ((),(xs,(ys,())))) w [.agg [.bY 1000,.bY 1020]] [.agg cs];simp only[ax,aD];exact⟨.agg cs,[],rfl,⟨cs,rfl,ψ a,[ψ b],Rm,⟨c0,fun _=>p0.symm⟩,ψ b,[],rfl,⟨c1,fun _=>p1.symm⟩,rfl⟩,rfl⟩
 refine(hc xs ys nL Z ψ0 w [.agg cs] G0 R0).mono fun en w' ⟨V,Z',ψ',e1,zs,zf,kp,gd,bV,hr⟩=>?_;have q0:ψ' 1000=ψ a:=(bV 1000 (by show 1000∈[1000,1020];simp)).trans p0;have q1:ψ' 1020=ψ b:=(bV 1020 (by show 1020∈[1000,1020];simp)).trans p1;have o0:(kZ mQ (((xs,(ys,())),()),(xs,(ys,())))).get 1000=some (.own (.row 52 dR) xs):=rfl;have o1:(kZ mQ (((xs,(ys,())),()),(xs,(ys,())))).get 1020=some (.own (.row 118 fg) ys):=rfl;have o2:(kZ mQ (((xs,(ys,())),()),(xs,(ys,())))).get 3000=some (.own (.row 52 dR) xs):=rfl;have o3:(kZ mQ (((xs,(ys,())),()),(xs,(ys,())))).get 3001=some (.own (.row 118 fg) ys):=rfl;generalize (kZ mQ (((xs,(ys,())),()),(xs,(ys,())))).get=out at *;have keep:dF ψ h w w':=⟨kp.os,kp.tape,kp.output,kp.size,fun q hq hn=>kp.block q hq fun ho=>hn (oh q ho)⟩;have sm:cW Z w w':=keep.same g;have dv:∀i q,i≠a→i≠b→h i≠none→ob (ψ i)=some q→w'.heap[q]? = w.heap[q]? := fun i q k1 k2 h1 h2 =>kp.block q (g.ck ⟨i,h1,h2⟩) fun ho=>(Y5 q ho).elim (fun k=>k1 (g.apart i a q h1 Og h2 k)) fun k=>k2 (g.apart i b q h1 Jj h2 k)
 let κ:Nat→Nat:=fun i=>if i=id+128 then 3000 else if i=id+129 then 3001 else if i=a then 1000 else 1020
 let Yk:Nat→Prop:=fun i=>i=id+128∨i=id+129∨i=a∨i=b
 let fz:Nat→Value:=fun i=>if i=id+128 then ψ' 3000 else if i=id+129 then ψ' 3001 else ψ i
 let H:Hp:=(bZ.new (.agg [.bY (id+128),.bY (id+129)]) [(id+128,.own (.row 52 dR) xs),(id+129,.own (.row 118 fg) ys)]).hp h
 have s0:fz (id+128)=ψ' 3000:=if_pos rfl;have s1:fz (id+129)=ψ' 3001:=(if_neg (by omega)).trans (if_pos rfl);have sn:∀i,i≠id+128→i≠id+129→fz i=ψ i:=fun i k1 k2=>(if_neg k1).trans (if_neg k2);have H0:H (id+128)=some (.own (.row 52 dR) xs):=by show(bZ.hp h _) _=_;simp[bZ.hp,Heap.get]
 have H1:H (id+129)=some (.own (.row 118 fg) ys):=by show(bZ.hp h _) _=_;simp[bZ.hp,Heap.get]
 have Hn:∀i,i≠id+128→i≠id+129→H i=h i:=fun i k1 k2=>by show(bZ.hp h _) _=_;simp[bZ.hp,Heap.get,Ne.symm k1,Ne.symm k2]
 have Ha:H a=some (.own (.row 52 dR) xs):=(Hn a a0 a1).trans ha;have Hb:H b=some (.own (.row 118 fg) ys):=(Hn b b0 b1).trans hb;have kap:∀i,Yk i→out (κ i)≠none∧ψ' (κ i)=fz i:=fun i hi=>by
  rcases hi with rfl|rfl|rfl|rfl
  ·have:κ (id+128)=3000:=if_pos rfl;rw[this,o2,s0];exact⟨by simp,rfl⟩
  ·have:κ (id+129)=3001:=(if_neg (by omega)).trans (if_pos rfl);rw[this,o3,s1];exact⟨by simp,rfl⟩
  ·have:κ i=1000:=(if_neg a0).trans ((if_neg a1).trans (if_pos rfl));rw[this,o0,q0,sn i a0 a1];exact⟨by simp,rfl⟩
  ·have:κ i=1020:=(if_neg b0).trans ((if_neg b1).trans (if_neg (fun k=>rT k.symm)));rw[this,o1,q1,sn i b0 b1];exact⟨by simp,rfl⟩
 have alW:∀i j,Yk i→Yk j→κ i=κ j→i=j:=fun i j hi hj hk=>by have v1:κ (id+128)=3000:=if_pos rfl;have v2:κ (id+129)=3001:=(if_neg (by omega)).trans (if_pos rfl);have v3:κ a=1000:=(if_neg a0).trans ((if_neg a1).trans (if_pos rfl));have v4:κ b=1020:=(if_neg b0).trans ((if_neg b1).trans (if_neg (fun k=>rT k.symm)));rcases hi with rfl|rfl|rfl|rfl<;>rcases hj with rfl|rfl|rfl|rfl<;>first|rfl|(rw[v1]at hk;first|(rw[v2]at hk;cases hk)|(rw[v3]at hk;cases hk)|(rw[v4]at hk;cases hk))|(rw[v2]at hk;first|(rw[v1]at hk;cases hk)|(rw[v3]at hk;cases hk)|(rw[v4]at hk;cases hk))|(rw[v3,v4]at hk;cases hk)|(rw[v4,v3]at hk;cases hk)
 have back:∀i q,Yk i→ob (fz i)=some q→¬Z' q∧(w.heap.size≤q∨ob (ψ a)=some q∨ob (ψ b)=some q):=fun i q hi h2=>by obtain⟨k1,k2⟩:=kap i hi;rw[←k2]at h2;obtain⟨h3,h4⟩:=gd.live (κ i) q k1 h2;exact⟨h3,h4.imp (fun h=>h) (Y5 q)⟩
 have rest:∀i,¬Yk i→i≠id+128∧i≠id+129∧i≠a∧i≠b:=fun i hi=>⟨fun k=>hi (.inl k),fun k=>hi (.inr (.inl k)),fun k=>hi (.inr (.inr (.inl k))),fun k=>hi (.inr (.inr (.inr k)))⟩;have mixed:∀i j q,Yk i→¬Yk j→h j≠none→ob (fz i)=some q→ob (ψ j)=some q→False:=fun i j q hi hj h2 h3 h4=>by
  obtain⟨_,_,k3,k4⟩:=rest j hj;rcases (back i q hi h3).2 with k|k|k
  ·have:=g.ck ⟨j,h2,h4⟩;omega
  ·exact k3 (g.apart j a q h2 Og h4 k)
  ·exact k4 (g.apart j b q h2 Jj h4 k)
 have ids:∀i,H i≠none→(h i≠none∧fz i=ψ i)∨N i:=fun i hi=>by
  by_cases k1:i=id+128
  ·exact .inr (k1▸nR0)
  by_cases k2:i=id+129
  ·exact .inr (k2▸nR1)
  ·rw[Hn i k1 k2]at hi;exact .inl ⟨hi,sn i k1 k2⟩
 refine⟨V,Z',fz,e1,⟨zs,fun q hq=>(zf q hq).imp (fun h=>h) fun k=>k.imp (oh q) fun h=>h,keep,ids,⟨fun i ty cs k=>?_,fun i ok x k=>?_,fun i q h1 h2=>?_,fun i j q h1 h2 h3 h4=>?_,gd.kT⟩⟩,?_⟩
 ·have k1:i≠id+128:=fun e=>by rw[e]at k;have k:H (id+128)=some (.box ty cs):=k;rw[H0]at k;cases k
  have k2:i≠id+129:=fun e=>by rw[e]at k;have k:H (id+129)=some (.box ty cs):=k;rw[H1]at k;cases k
  have k3:i≠a:=fun e=>by rw[e]at k;have k:H a=some (.box ty cs):=k;rw[Ha]at k;cases k
  have k4:i≠b:=fun e=>by rw[e]at k;have k:H b=some (.box ty cs):=k;rw[Hb]at k;cases k
  have sK:h i=some (.box ty cs):=(Hn i k1 k2).symm.trans k;obtain⟨gg,vs,f1,f2,f3,f4⟩:=g.box i ty cs sK;exact⟨gg,vs,(sn i k1 k2).trans f1,(dv i gg k3 k4 (by rw[sK];simp) (by rw[f1];rfl)).trans f2,f3.move zs sm (fun j hj bp=>(ids j bp).resolve_right hj) (bD i ty cs sK),f4⟩
 ·by_cases k1:i=id+128
  ·subst k1;have k:H (id+128)=some (.own ok x):=k;rw[H0]at k;cases k;rw[s0];exact gd.row 3000 _ _ o2
  by_cases k2:i=id+129
  ·subst k2;have k:H (id+129)=some (.own ok x):=k;rw[H1]at k;cases k;rw[s1];exact gd.row 3001 _ _ o3
  have sK:h i=some (.own ok x):=(Hn i k1 k2).symm.trans k;rw[sn i k1 k2];by_cases k3:i=a
  ·subst k3;rw[ha]at sK;cases sK;rw[←q0];exact gd.row 1000 _ _ o0
  by_cases k4:i=b
  ·subst k4;rw[hb]at sK;cases sK;rw[←q1];exact gd.row 1020 _ _ o1
  exact(g.row i ok x sK).kept zs sm fun q hq=>dv i q k3 k4 (by rw[sK];simp) hq
 ·by_cases h4:Yk i
  ·obtain⟨k1,k2⟩:=back i q h4 h2;refine⟨k1,?_⟩;rcases k2 with k|k|k
   ·exact .inl (acH hB k)
   ·exact(g.live a q Og k).2
   ·exact(g.live b q Jj k).2
  ·obtain⟨r1,r2,r3,r4⟩:=rest i h4;have h1:h i≠none:=by rw[←Hn i r1 r2];exact h1
   rw[sn i r1 r2]at h2;refine⟨fun hz=>?_,(g.live i q h1 h2).2⟩;rcases zf q hz with k|k|k
   ·exact(g.live i q h1 h2).1 k
   ·rcases Y5 q k with k|k
    ·exact r3 (g.apart i a q h1 Og h2 k)
    ·exact r4 (g.apart i b q h1 Jj h2 k)
   ·have:=g.ck ⟨i,h1,h2⟩;omega
 ·by_cases hi:Yk i<;>by_cases hj:Yk j
  ·obtain⟨k1,k2⟩:=kap i hi;obtain⟨k3,k4⟩:=kap j hj;rw[←k2]at h3;rw[←k4]at h4;exact alW i j hi hj (gd.apart _ _ q k1 k3 h3 h4)
  ·obtain⟨r1,r2,r3,r4⟩:=rest j hj;rw[sn j r1 r2]at h4;exact(mixed i j q hi hj (by rw[←Hn j r1 r2];exact h2) h3 h4).elim
  ·obtain⟨r1,r2,r3,r4⟩:=rest i hi;rw[sn i r1 r2]at h3;exact(mixed j i q hj hi (by rw[←Hn i r1 r2];exact h1) h4 h3).elim
  ·obtain⟨r1,r2,_,_⟩:=rest i hi;obtain⟨t1,t2,_,_⟩:=rest j hj;rw[sn i r1 r2]at h3;rw[sn j t1 t2]at h4;exact g.apart i j q (by rw[←Hn i r1 r2];exact h1) (by rw[←Hn j t1 t2];exact h2) h3 h4
 ·have hr:aD Z' ψ' out w' (.agg [.bY 3000,.bY 3001]) V:=hr;simp only[aD,ax]at hr;obtain⟨vs,rfl,u1,_,wD,⟨d1,d2⟩,u2,_,rfl,⟨d3,d4⟩,rfl⟩:=hr;show aD Z' fz H w' (.agg [.bY (id+128),.bY (id+129)]) (.agg vs);simp only[aD,ax];exact⟨vs,rfl,u1,[u2],wD,⟨d1,fun _=>(d2 (by rw[o2];simp)).trans s0.symm⟩,u2,[],rfl,⟨d3,fun _=>(d4 (by rw[o3];simp)).trans s1.symm⟩,rfl⟩
end Go.Vs
namespace Go.Vs
open Go.Proofs
abbrev Y7:(f:FuncId)→(g:aX)→Option (g.A→Option g.B):=fun _ _=>none
section
variable (SG:FuncId→Option aX) (AN:FuncId→Nat→Option Shape)
noncomputable abbrev Y8:FT:=Fix Tryz.prog Eqs SG AN Y7
noncomputable abbrev LXG(f:FuncId)(g:aX)(fn:Func):JT g:=Lp Tryz.prog Eqs SG AN Y7 f g fn
end
theorem Jp{SG:FuncId→Option aX}{AN:FuncId→Nat→Option Shape}{f:FuncId}{g:aX}{fn:Func}{x:g.A}{y:g.B}(hb:body Tryz.prog (f%1000)=some (fn,fn.body.getD .skip))(hc:(decide (g.ps.length≤fn.ntmps)&&decide (g.bs.length≤8))=true) (h:Wb SG AN f g fn (Y8 SG AN) (LXG SG AN f g fn) x=some y):Y8 SG AN f g x=some y:=PI rfl hb hc h
theorem Wc{SG:FuncId→Option aX}{AN:FuncId→Nat→Option Shape}{f j:Nat}{g:aX}{fn:Func}{sh:Shape}{x:sh.T}{y:g.B}(hs:(match aY Tryz.prog (f%1000) j with | .inLoop _::_=>true|_=>false)=true)
  (h:aci SG AN f j g fn sh (Y8 SG AN) (LXG SG AN f g fn) x=some y):LXG SG AN f g fn sh (aY Tryz.prog (f%1000) j) x=some y:=by
 unfold aci at h;generalize aY Tryz.prog (f%1000) j=s at hs h ⊢
 split at hs
 ·exact UR h
 ·cases hs
theorem We{α β:Type}{o:Option α}{f:α→Option β}{a:α}{r:Option β}(h:o=some a)(k:f a=r):o.bind f=r:=by rw[h];exact k
theorem E1{α:Type}{c:Bool}{x y r:α}(h:c=true)(k:x=r):cond c x y=r:=by subst h;exact k
theorem Y9{α:Type}{c:Bool}{x y r:α}(h:c=false)(k:y=r):cond c x y=r:=by subst h;exact k
theorem Wg{R:Type}{f:Nat→Option R}{r:R}(h0:f 0=some r)(h1:f 1=some r):vt 2 f=some r :=o8 (by omega) fun j hj=>by
  rcases j with _|_|j
  ·exact h0
  ·exact h1
  ·omega
theorem agm(xs:List ai)(h:aR 0 xs.length=true):Y8 Sg0 An0 500127 Y3 ((),(xs,()))=some ((xs,()),(xs,())):=by
 refine Jp (fn:=Tryz.f127) (by kernel_rfl) (by kernel_rfl) ((agi _ _ _).trans ?_)
 cases xs with
 |nil=>exact E1 rfl (Wg rfl rfl)
 |cons x r=>exact Y9 rfl (E1 h rfl)
theorem agn(xs:List aj)(h:aR 0 xs.length=true):Y8 Sg0 An0 500128 Y4 ((),(xs,()))=some ((xs,()),(xs,())):=by
 refine Jp (fn:=Tryz.f128) (by kernel_rfl) (by kernel_rfl) ((agj _ _ _).trans ?_)
 cases xs with
 |nil=>exact E1 rfl (Wg rfl rfl)
 |cons x r=>exact Y9 rfl (E1 h rfl)
theorem Qf{f:FuncId}{g:aX}(h:Sg0 f=some g):(f,g)∈acf:=by
 unfold Sg0 at h;obtain⟨p,hp,rfl⟩:=acS.1 h;have h1:=ab5 hp;have h2:=adH hp;have:p.1=f:=by simpa using h2
 subst this;exact h1
theorem Qg{f:FuncId}{g:aX}(h:Yj f=some g):(f,g)∈acg:=by
 unfold Yj at h;obtain⟨p,hp,rfl⟩:=acS.1 h;have h1:=ab5 hp;have h2:=adH hp;have:p.1=f:=by simpa using h2
 subst this;exact h1
noncomputable def Oh(l:List (Nat×aX)):Bool:=l.all fun p=>match Tryz.prog.funcs[p.1%1000]? with|some fn => !(fn.name== "runtime.NumGoroutine")&&fn.body.isSome|none=>false
theorem CI{l:List (Nat×aX)}(key:Oh l=true){f:FuncId}{g:aX}(hm:(f,g)∈l):kj Tryz.prog (f%1000):=by
 have:=acQ.1 key _ hm;simp only at this
 split at this
 ·rename_i fn hf;simp only[Bool.and_eq_true,Bool.not_eq_true']at this;exact⟨fn,hf,this.1,this.2⟩
 ·cases this
theorem ago{f:FuncId}{g:aX}{x:g.A}{y:g.B}(hs:Sg0 f=some g)(h:Y8 Sg0 An0 f g x=some y):Hd Tryz.prog f g x y :=CC (fun f g u hf hu=>by have hm:=Qf hf;simp only[acf,List.mem_cons,List.not_mem_nil,or_false,Prod.mk.injEq]at hm;rcases hm with⟨_,rfl⟩|⟨_,rfl⟩<;>cases hu) E0 (fun f g hf=>CI (by kernel_rfl) (Qf hf)) u4 (fun f g u x y _ hu _=>by cases hu) hs h
theorem Za:jM Tryz.prog 127 (u5 52 dR):=wb rfl fun xs h=>by have:=ago (by kernel_rfl) (agm xs h);exact this
theorem Zb:jM Tryz.prog 128 (u5 118 fg):=wb rfl fun xs h=>by have:=ago (by kernel_rfl) (agn xs h);exact this
theorem agp(l:List ab)(hl:l.length≤50000000):Y8 Yj An1 110 Cb ((l,()),())=some ((l,()),()):=by
 refine Jp (fn:=Tryz.f110) (by kernel_rfl) (by kernel_rfl) ((agk _ _ _).trans ?_)
 cases l with
 |nil=>exact E1 rfl (Wg rfl rfl)
 |cons x r=>exact Y9 rfl (E1 (decide_eq_true (show 0+(x::r).length≤1073741824 by omega)) rfl)
theorem Wh{i n:Nat}(h:i<n)(hn:n≤50000000):IntKind.wrap .i64 ((i:Int)+1)=((i+1:Nat):Int):=by
 unfold IntKind.wrap;simp only[IntKind.bits,IntKind.signed];simp
 split<;>omega
theorem agq(xs:List ai)(ys:List aj)(h:rN xs ys=true):Y8 Yj An1 500096 mQ ((),(xs,(ys,())))=some (((xs,(ys,())),()),(xs,(ys,()))):=by
 unfold rN at h;simp only[Bool.and_eq_true,decide_eq_true_eq,List.all_eq_true]at h;obtain⟨hx,hy,hr⟩:=h;refine Jp (fn:=Tryz.f96) (by kernel_rfl) (by kernel_rfl) ((agl _ _ _).trans ?_);refine E1 (decide_eq_true (show 0+xs.length≤1073741824 by omega)) (E1 (decide_eq_true (show 0+ys.length≤1073741824 by omega)) ?_);have loop:∀(n i:Nat) (out:List ai),i+n=xs.length→out=xs→LXG Yj An1 500096 mQ Tryz.f96 LW (aY Tryz.prog 96 0) ((((xs.length:Nat):Int),((i:Int),())),(((([]:List ai),(([]:List aj),())),((out,(ys,())),())),(xs,(ys,()))))=some (((xs,(ys,())),()),(xs,(ys,()))):=by
  intro n
  induction n with
  |zero =>intro i out hi ho;subst ho;refine Wc (j:=0) (by kernel_rfl) ((Qe _ _ _).trans ?_);exact Y9 (decide_eq_false (show ¬((i:Int)<((out.length:Nat):Int)) by omega)) rfl
  |succ n ih =>
   intro i out hi ho;have aK:i<xs.length:=by omega
   have Ka:out[i]? = some xs[i]:=by rw[ho];exact aba aK
   have hol:out.length=xs.length:=by rw[ho]
   have c1:(decide ((0:Int)≤(i:Int))&&decide ((i:Int)<((out.length:Nat):Int)))=true:=by rw[decide_eq_true (show(0:Int)≤(i:Int) by omega),decide_eq_true (show(i:Int)<((out.length:Nat):Int) by omega)];rfl
   refine Wc (j:=0) (by kernel_rfl) ((Qe _ _ _).trans ?_);refine E1 (decide_eq_true (show((i:Int)<((xs.length:Nat):Int)) by omega)) (E1 c1 (We Ka ?_));refine We (agp xs[i].2.1 (hr _ (acB aK))) ?_;refine E1 c1 (We Ka ?_);have hs:out.set i (xs[i].1,(xs[i].2.1,xs[i].2.2))=xs:=by subst ho;exact List.set_getElem_self aK
   have:=ih (i+1) (out.set i (xs[i].1,(xs[i].2.1,xs[i].2.2))) (by omega) hs;rw[←Wh aK hx]at this;exact this
 exact loop xs.length 0 xs (by omega) rfl
theorem alX{f:FuncId}{g:aX}{x:g.A}{y:g.B}(hs:Yj f=some g)(h:Y8 Yj An1 f g x=some y):Hd Tryz.prog f g x y :=CC (fun f g u hf hu=>by
  have hm:=Qg hf;simp only[acg,List.mem_cons,List.not_mem_nil,or_false,Prod.mk.injEq]at hm;rcases hm with⟨_,rfl⟩|⟨_,rfl⟩|⟨rfl,rfl⟩|⟨rfl,rfl⟩
  ·cases hu
  ·cases hu
  ·cases hu;intro Z ψ h w B0 O N hh id e vs us;exact Za
  ·cases hu;intro Z ψ h w B0 O N hh id e vs us;exact Zb) E0 (fun f g hf=>CI (by kernel_rfl) (Qg hf)) u4 (fun f g u x y _ hu _=>by cases hu) hs h
theorem Ss:jM Tryz.prog 96 I3:=Jo fun xs ys h=>by have:=alX (by kernel_rfl) (agq xs ys h);exact this
end Go.Vs
namespace Go.Vs
open Go.Proofs Go.RowKit
abbrev aoT:Array Value:=#[.slice none 0 0,.slice none 0 0,.slice none 0 0,.int .i64 0,.slice none 0 0]
end Go.Vs
namespace Go.Vs
open Go.Proofs
theorem Wi:∀f g u,Sg f=some g→g.x=some u→jM Tryz.prog (f%1000) u:=fun f g u h hu=>by
 have hm:=Wa h;have key:(sgs.all fun p=>(p.2.x.isNone || (p.1==176 || (p.1==211 || (p.1==233 || (p.1==177 || (p.1==186 || (p.1==220 || (p.1==500096 || (p.1==142))))))))))=true:=by kernel_rfl
 have:=acQ.1 key _ hm;simp only[hu,Option.isNone_some,Bool.false_or,Bool.or_eq_true,beq_iff_eq]at this;rcases this with rfl|rfl|rfl|rfl|rfl|rfl|rfl|rfl
 ·have e:Sg 176=some aaL:=by kernel_rfl
  rw[e]at h;cases h;cases hu;intro Z ψ h w B0 O N hh id e vs us;exact w7 (k:=dR) ab9
 ·have e:Sg 211=some aaO:=by kernel_rfl
  rw[e]at h;cases h;cases hu;intro Z ψ h w B0 O N hh id e vs us;exact w7 (k:=fg) acb
 ·have e:Sg 233=some aaP:=by kernel_rfl
  rw[e]at h;cases h;cases hu;intro Z ψ h w B0 O N hh id e vs us;exact w7 (k:=dd) ace
 ·have e:Sg 177=some aaM:=by kernel_rfl
  rw[e]at h;cases h;cases hu;intro Z ψ h w B0 O N hh id e vs us;exact EZ (k:=dR) aca
 ·have e:Sg 186=some aaN:=by kernel_rfl
  rw[e]at h;cases h;cases hu;intro Z ψ h w B0 O N hh id e vs us;exact EZ (k:=fg) acd
 ·have e:Sg 220=some aaQ:=by kernel_rfl
  rw[e]at h;cases h;cases hu;intro Z ψ h w B0 O N hh id e vs us;exact BL (k:=bA) Y0
 ·have e:Sg 500096=some Lx:=by kernel_rfl
  rw[e]at h;cases h;cases hu;intro Z ψ h w B0 O N hh id e vs us;exact Ss
 ·have e:Sg 142=some aaT:=by kernel_rfl
  rw[e]at h;cases h;cases hu;intro Z ψ h w B0 O N hh id e vs us;exact BL (k:=ij) Y1
end Go.Vs
