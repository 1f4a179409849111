/- slices.Insert -/
import Derived.Test.YtoleelddkocpkaaGreatEngineD
import Derived.Lib.AppendZerosOnto
import Derived.Lib.Overlaps
import Derived.Lib.Walk
import Derived.Shelf.Spec.SlicesInsert
import Derived.Laws.NewBlocks
set_option linter.unusedVariables false
set_option linter.unusedSimpArgs false
namespace Go.Vs
variable {P:Program} {w:World}
theorem py(w:World)(t ty e:TypeId)(sz g n c:Nat)(a:Addr)(m mc:Nat)(cur:Array Value)(news:List Value)(ht:P.underlying t=some (.slice e))(hs:(P.info? e).map (·.size)=some sz) (hg:w.heap[g]? = some (.cells cur e (0,0))) (hl:news.length=m*sz) (yD:∀(j:Nat) v,news[j]? = some v→w.cell? (a.add j)=some v) (h1:∀v∈news,v.oneCell'=true) (dE:n+m≤c) (ij:c*sz≤cur.size) :
  (Builtin.append_ #[t,t] ty #[.slice (some ⟨g,0,none⟩) n c,.slice (some a) m mc]).run P w=.ok (.slice (some ⟨g,0,none⟩) (n+m) c) (w.setRow g (cur.toList.take (n*sz)++news++cur.toList.drop (n*sz+news.length)).toArray):=by
 have hle:n*sz+m*sz≤c*sz:=by rw[←Nat.add_mul];exact acT _ dE
 have afd:=run_loadCells_list (P:=P) w a news yD;have Ae:=run_storeCells_at P g (n*sz) e news 0 cur w hg (by omega) h1;simp only[Nat.add_zero]at Ae;have ha:(⟨g,0,none⟩:Addr).add (n*sz)=⟨g,n*sz,none⟩:=by rw[cF,Nat.zero_add]
 cases hq:P.info? e with
 |none=>simp_all
 |some i =>
  have hi:i.size=sz:=by simp_all
  simp[Builtin.append_,run_underlying ht,Builtin.lenOf,Builtin.firstCells,sizeOf,typeInfo,hq,hi,←hl,afd,dE,ha,Ae]
theorem sJ(w:World)(t ty e:TypeId)(sz g o k c:Nat)(cur:Array Value)(i:TypeInfo)(z:Value)(ht:P.underlying t=some (.slice e))(hi:P.info? e=some i)(hz:i.zero=some z)(Jt:z.cells.size=sz)(h1:∀v∈z.cells.toList,v.oneCell'=true) (hg:w.heap[g]? = some (.cells cur e (0,0))) (hk:0<k) (Qr:o+k*sz≤cur.size) :
  (Builtin.clear_ #[t] ty #[.slice (some ⟨g,o,none⟩) k c]).run P w=.ok (.tuple #[]) (w.setRow g (cur.toList.take o++(Builtin.zeroCells z.cells k).toList++cur.toList.drop (o+(Builtin.zeroCells z.cells k).toList.length)).toArray):=by
 have hl:(Builtin.zeroCells z.cells k).toList.length=k*sz:=by simp[Builtin.zeroCells,Jt]
 have HR:∀v∈(Builtin.zeroCells z.cells k).toList,v.oneCell'=true:=fun v hv=>by
  simp only[Builtin.zeroCells,Array.toList_map,List.mem_map]at hv;obtain⟨q,hq,rfl⟩:=hv;have hq':q<k*z.cells.size:=by simpa using hq
  have hp:0<z.cells.size:=by
   rcases Nat.eq_zero_or_pos z.cells.size with h|h
   ·rw[h,Nat.mul_zero]at hq';omega
   ·exact h
  have aH:q%z.cells.size<z.cells.size:=adp _ hp;rw[getElem!_pos z.cells _ aH];exact h1 _ (by simp)
 have Ae:=run_storeCells_at P g o e (Builtin.zeroCells z.cells k).toList 0 cur w hg (by omega) HR;simp only[Nat.add_zero]at Ae;obtain⟨m,rfl⟩:∃m,k=m+1:=⟨k-1,by omega⟩;simp[Builtin.clear_,run_underlying ht,zeroValue,typeInfo,hi,hz,Ae]
end Go.Vs
namespace Go.Vs
open Go.Proofs Go.RowKit
def DW(P:Program)(f:FuncId)(e:TypeId)(size:Nat):Prop :=∀(w:World) (v u:Value) (n i:Nat) (xs ys:List Value),dL w e size v n xs→dL w e size u 1 ys→i≤n→n+1≤eY→(∀b,ob v=some b→ob u≠some b) →(∀q∈xs,q.oneCell'=true)→(∀q∈ys,q.oneCell'=true) → Calls P f #[v,.int .i64 i,u] w fun en w'=>∃v',en=.returned v'∧dL w' e size v' (n+1) (xs.take (i*size)++(ys++xs.drop (i*size)))∧w.grownBy w' (ob v)∧(ob v'=ob v∨∀b,ob v'=some b→w.heap.size≤b)
def IE(P:Program)(f:FuncId)(e:TypeId)(sz:Nat):Prop:=∀(w:World) (v u:Value) (n:Nat) (xs ys:List Value) (hv:dL w e sz v n xs) (hu:dL w e sz u 1 ys) (hm:n+1≤eY) (h1:∀q∈ys,q.oneCell'=true),Calls P f #[v,.int .i64 n,u] w fun en w'=>∃v',en=.returned v'∧dL w' e sz v' (n+1) (xs++ys)∧w.grownBy w' (ob v)∧(ob v'=ob v∨∀b,ob v'=some b→w.heap.size≤b)
def xN(P:Program)(f:FuncId)(e:TypeId)(sz:Nat):Prop:=∀(w:World) (g c g2 c2 n i:Nat) (xs ys:List Value) (cur dm:Array Value) (hg:w.heap[g]? = some (.cells cur e (0,0))) (ij:cur.size=c*sz) (lE:cur.toList.take (n*sz)=xs) (Am:xs.length=n*sz) (wu:w.heap[g2]? = some (.cells dm e (0,0))) (pz:dm.size=c2*sz) (oV:0<c2) (lr:dm.toList.take (1*sz)=ys) (Fu:ys.length=1*sz) (bw:g2≠g) (hi:i<n) (dE:n+1≤c) (hc:c≤maxLen) (h1:∀q∈xs,q.oneCell'=true) (h2:∀q∈ys,q.oneCell'=true),Calls P f #[.slice (some ⟨g,0,none⟩) n c,.int .i64 i,.slice (some ⟨g2,0,none⟩) 1 c2] w fun en w'=>en=.returned (.slice (some ⟨g,0,none⟩) (n+1) c) ∧ ∃gx:Array Value,w'.heap[g]? = some (.cells gx e (0,0))∧gx.size=cur.size∧gx.toList.take ((n+1)*sz)=xs.take (i*sz)++(ys++xs.drop (i*sz))∧w.grownBy w' (some g)
def BN(P:Program)(f:FuncId)(e:TypeId)(sz:Nat):Prop:=∀(w:World) (g c g2 c2 n i:Nat) (xs ys:List Value) (cur dm:Array Value) (hg:w.heap[g]? = some (.cells cur e (0,0))) (ij:cur.size=c*sz) (lE:cur.toList.take (n*sz)=xs) (Am:xs.length=n*sz) (wu:w.heap[g2]? = some (.cells dm e (0,0))) (pz:dm.size=c2*sz) (oV:0<c2) (lr:dm.toList.take (1*sz)=ys) (Fu:ys.length=1*sz) (bw:g2≠g) (hi:i<n) (Af:n≤c) (dE:c<n+1) (hm:n+1≤eY) (h1:∀q∈xs,q.oneCell'=true) (h2:∀q∈ys,q.oneCell'=true),Calls P f #[.slice (some ⟨g,0,none⟩) n c,.int .i64 i,.slice (some ⟨g2,0,none⟩) 1 c2] w fun en w'=>∃G,en=.returned (.slice (some ⟨w.heap.size,0,none⟩) (n+1) G) ∧ ∃gx:Array Value,w'.heap[w.heap.size]? = some (.cells gx e (0,0))∧gx.size=G*sz∧n+1≤G∧G≤maxLen∧gx.toList.take ((n+1)*sz)=xs.take (i*sz)++(ys++xs.drop (i*sz))∧w.grownBy w' (some g)
theorem IF{w:World}{e sz:Nat}{u:Value}{ys:List Value}(hu:dL w e sz u 1 ys)(h1:∀q∈ys,q.oneCell'=true):XX w sz u 1 ys:=by
 refine⟨hu.1,h1,.inr ?_⟩;rcases hu.2 with⟨h0,_⟩|⟨g,cap,cur,rfl,_,hg,_,_,hc,lE⟩
 ·cases h0
 ·refine⟨_,_,rfl,fun j q hj=>?_⟩;rw[cF,Nat.zero_add];rw[←lE,List.getElem?_take]at hj
  split at hj
  ·simp[World.cell?,hg];simpa using hj
  ·cases hj
theorem U8{α:Type}{cur xs ys cur1 cur3:List α}{i n sz:Nat}(lE:cur.take (n*sz)=xs)(hl:(n+1)*sz≤cur.length)(hy:ys.length=sz)(hi:i≤n) (h1:cur1=cur.take ((i+1)*sz)++xs.drop (i*sz)++cur.drop ((i+1)*sz+(xs.drop (i*sz)).length)) (h3:cur3=cur1.take (i*sz)++ys++cur1.drop (i*sz+ys.length)) :
  cur3.take ((n+1)*sz)=xs.take (i*sz)++(ys++xs.drop (i*sz)):=by
 have rm:i*sz≤n*sz:=acT _ hi;rw[Nat.add_mul,Nat.one_mul]at hl h1 ⊢;have Am:xs.length=n*sz:=by rw[←lE,List.length_take];omega
 generalize i*sz=a at *;generalize n*sz=b at *;have e1:cur1.take a=xs.take a:=by
  grind
 have e2:cur1.drop (a+ys.length)=xs.drop a++cur.drop (a+1*sz+(xs.drop a).length):=by
  rw[h1,List.append_assoc,Nat.one_mul,hy]
  grind
 grind [List.append_assoc,List.take_left',List.length_append,List.length_take,List.length_drop]
theorem vU{w:World}{e size:Nat}{g n:Nat}{cur:Array Value}{xs:List Value}(hg:w.heap[g]? = some (.cells cur e (0,0)))(lE:cur.toList.take (n*size)=xs)(o:Nat):∀(j:Nat) q,(xs.drop o)[j]? = some q→w.cell? ((⟨g,o,none⟩:Addr).add j)=some q:=fun j q hj=>by
 rw[cF];rw[List.getElem?_drop,←lE,List.getElem?_take]at hj
 split at hj
 ·simp[World.cell?,hg];simpa using hj
 ·cases hj
theorem vW{P:Program}{t e sz:Nat}(ht:P.underlying t=some (.slice e))(hz:(P.info? e).map (·.size)=some sz)(w:World)(g c g2 c2 n i:Nat)(xs ys:List Value)(cur dm:Array Value)(hg:w.heap[g]? = some (.cells cur e (0,0)))(ij:cur.size=c*sz)(lE:cur.toList.take (n*sz)=xs)(Am:xs.length=n*sz)(wu:w.heap[g2]? = some (.cells dm e (0,0)))(pz:dm.size=c2*sz)(oV:0<c2)(lr:dm.toList.take (1*sz)=ys)(Fu:ys.length=1*sz)(bw:g2≠g)(hi:i<n)(dE:n+1≤c)(hc:c≤maxLen)(h1:∀q∈xs,q.oneCell'=true)(h2:∀q∈ys,q.oneCell'=true) :
  ∃cur1 cur3:Array Value,(∀(W:World),W.heap=w.heap→∀ty dc sc,(Builtin.copy_ #[t,t] ty #[.slice (some ⟨g,(i+1)*sz,none⟩) (n-i) dc,.slice (some ⟨g,i*sz,none⟩) (n+1-i) sc]).run P W=.ok (goInt (n-i:Nat)) (W.setRow g cur1))∧(∀ty dc sc,(Builtin.copy_ #[t,t] ty #[.slice (some ⟨g,i*sz,none⟩) (n+1-i) dc,.slice (some ⟨g2,0,none⟩) 1 sc]).run P (w.drew.setRow g cur1)=.ok (goInt 1) ((w.drew.setRow g cur1).setRow g cur3))∧cur3.size=cur.size∧cur3.toList.take ((n+1)*sz)=xs.take (i*sz)++(ys++xs.drop (i*sz)):=by
 have Qw:=vU (size:=sz) (n:=1) wu lr 0;have Cl:=vU (size:=sz) (n:=n) hg lE (i*sz);have h63:c≤9223372036854775807:=by grind [maxLen]
 have m6:(n+1)*sz≤c*sz:=acT _ dE;have m1:(n+1)*sz=n*sz+sz:=ad2 ..;have m2:(i+1)*sz=i*sz+sz:=ad2 ..;have m3:(n-i)*sz=n*sz-i*sz:=Nat.sub_mul ..;have m4:(i+1)*sz≤n*sz:=acT _ hi;have m5:1*sz=sz:=Nat.one_mul _;have hn5:n*sz≤cur.size:=by omega
 obtain⟨cur1,sK⟩:∃cur1:Array Value,cur1=(cur.toList.take ((i+1)*sz)++xs.drop (i*sz)++cur.toList.drop ((i+1)*sz+(xs.drop (i*sz)).length)).toArray:=⟨_,rfl⟩;have K1:(xs.drop (i*sz)).length=(n-i)*sz:=by simp_all
 have M4:∀(W:World),W.heap=w.heap→∀ty dc sc,(Builtin.copy_ #[t,t] ty #[.slice (some ⟨g,(i+1)*sz,none⟩) (n-i) dc,.slice (some ⟨g,i*sz,none⟩) (n+1-i) sc]).run P W=.ok (goInt (n-i:Nat)) (W.setRow g cur1):=fun W hW ty dc sc=>by
  have:=ir (P:=P) W t t ty e sz g ((i+1)*sz) (n-i) dc ⟨g,i*sz,none⟩ (n+1-i) sc cur e (xs.drop (i*sz)) ht hz (by simp_all) (by grind) (fun j v hj=>by grind [World.cell?]) (by omega) (fun q hq=>h1 q (adq hq))
  grind
 have Mg:cur1.size=cur.size:=by grind
 obtain⟨cur3,U9⟩:∃cur3:Array Value,cur3=(cur1.toList.take (i*sz)++ys++cur1.toList.drop (i*sz+ys.length)).toArray:=⟨_,rfl⟩;have ak5:∀(W:World),W.heap[g]? = some (.cells cur1 e (0,0))→W.heap[g2]? = w.heap[g2]?→∀ty dc sc,(Builtin.copy_ #[t,t] ty #[.slice (some ⟨g,i*sz,none⟩) (n+1-i) dc,.slice (some ⟨g2,0,none⟩) 1 sc]).run P W=.ok (goInt 1) (W.setRow g cur3):=fun W hW hW2 ty dc sc=>by have:=ir (P:=P) W t t ty e sz g (i*sz) (n+1-i) dc ⟨g2,0,none⟩ 1 sc cur1 e ys ht hz hW (by rw[Fu];simp only[Nat.min_def];split<;>omega) (fun j v hj=>by grind [World.cell?,fD]) (by omega) h2;rw[this,U9];congr 2;simp only[Nat.min_def];split<;>omega
 have Su:cur3.size=cur.size:=by rw[U9];simp;omega
 have jk:cur3.toList.take ((n+1)*sz)=xs.take (i*sz)++(ys++xs.drop (i*sz)):=U8 (sz:=sz) (cur1:=cur1.toList) (cur3:=cur3.toList) lE (by simp;omega) (by rw[Fu,m5]) (Nat.le_of_lt hi) (by rw[sK]) (by rw[U9]);exact⟨cur1,cur3,M4,ak5 (w.drew.setRow g cur1) (setRow_heap w.drew g cur _ e _ hg) (_root_.Go.setRow_other w.drew g g2 _ bw),Su,jk⟩
theorem vX{n i c:Nat}(hi:i<n)(dE:n+1≤c)(hc:c≤maxLen):(IntKind.i64.wrap ((i:Int)+1)=(i:Int)+1)∧(IntKind.i64.wrap ((n:Int)+1)=(n:Int)+1)∧((0:Int)≤(i:Int)+1)∧(i≤n)∧(((i:Int)+1).toNat=i+1)∧(¬(c=i+1))∧((i:Int)≤(n:Int)+1)∧(¬(c=i))∧(¬((i:Int)=(n:Int)))∧(¬((c:Int)<(n:Int)+1)):=by
 grind [maxLen,IntKind.wrap_i64]
theorem Rn{α:Type}{row xs ys row2 row3:List α}{i n sz:Nat}(hA:row.take (i*sz)=xs.take (i*sz))(hl:(n+1)*sz≤row.length)(Am:xs.length=n*sz)(hy:ys.length=sz)(hi:i≤n) (h2:row2=row.take (i*sz)++ys++row.drop (i*sz+ys.length)) (h3:row3=row2.take ((i+1)*sz)++xs.drop (i*sz)++row2.drop ((i+1)*sz+(xs.drop (i*sz)).length)) :
  row3.take ((n+1)*sz)=xs.take (i*sz)++(ys++xs.drop (i*sz)):=by
 have rm:i*sz≤n*sz:=acT _ hi;rw[Nat.add_mul,Nat.one_mul]at hl h3 ⊢;generalize i*sz=a at *;generalize n*sz=b at *;have e1:row2.take (a+1*sz)=xs.take a++ys:=by
  grind
 rw[Nat.one_mul]at e1
 grind [List.take_left',List.length_append,List.length_take,List.length_drop,List.append_assoc]
theorem zr{P:Program}{t e sz:Nat}{k:K}{i0:TypeInfo}{z0:Value}(hk:k.sz=sz)(h0:0<sz)(ht:P.underlying t=some (.slice e))(htn:P.underlying 3=some (.int .i64))(he:od P e k i0 z0)(w:World)(g c g2 c2 n i:Nat)(xs ys:List Value)(cur dm:Array Value)(hg:w.heap[g]? = some (.cells cur e (0,0)))(ij:cur.size=c*sz)(lE:cur.toList.take (n*sz)=xs)(Am:xs.length=n*sz)(wu:w.heap[g2]? = some (.cells dm e (0,0)))(pz:dm.size=c2*sz)(oV:0<c2)(lr:dm.toList.take (1*sz)=ys)(Fu:ys.length=1*sz)(bw:g2≠g)(hi:i<n)(Af:n≤c)(dE:c<n+1)(hm:n+1≤eY)(h1:∀q∈xs,q.oneCell'=true)(h2:∀q∈ys,q.oneCell'=true) :
  ∃(G:Nat) (uL row2 row3:Array Value) (W1:World),(∀ty,(Builtin.append_ #[t,3] ty #[.slice (some ⟨g,0,none⟩) i c,.int .i64 ((n:Int)+1-(i:Int))]).run P w=.ok (.slice (some ⟨w.heap.size,0,none⟩) (n+1) G) W1)∧W1.heap[w.heap.size]? = some (.cells uL e (0,0))∧(∀b,b<w.heap.size→W1.heap[b]? = w.heap[b]?)∧w.grownBy W1 none∧(∀(W:World),W.heap=W1.heap→∀ty dc sc,(Builtin.copy_ #[t,t] ty #[.slice (some ⟨w.heap.size,i*sz,none⟩) (n+1-i) dc,.slice (some ⟨g2,0,none⟩) 1 sc]).run P W=.ok (goInt 1) (W.setRow w.heap.size row2))∧(∀(W:World),W.heap=(W1.setRow w.heap.size row2).heap→∀ty dc sc,(Builtin.copy_ #[t,t] ty #[.slice (some ⟨w.heap.size,(i+1)*sz,none⟩) (n-i) dc,.slice (some ⟨g,i*sz,none⟩) (n-i) sc]).run P W=.ok (goInt (n-i:Nat)) (W.setRow w.heap.size row3))∧row3.size=G*sz∧n+1≤G∧G≤9223372036854775807∧row3.toList.take ((n+1)*sz)=xs.take (i*sz)++(ys++xs.drop (i*sz)):=by
 have Mh:z0.cells.size=sz:=he.wH.trans hk;have Jt:i0.size=sz:=he.size.trans hk;have hz:(P.info? e).map (·.size)=some sz:=by rw[he.info];simp_all
 have Mi:=he.bytes;have Qw:=vU (size:=sz) (n:=1) wu lr 0;have Cl:=vU (size:=sz) (n:=n) hg lE (i*sz);have apW:=vU (size:=sz) (n:=n) hg lE 0;have hgl:g<w.heap.size:=(ab3.1 hg).1;have apX:g2<w.heap.size:=(ab3.1 wu).1;unfold eY at hm;have m1:(n+1)*sz=n*sz+sz:=ad2 ..;have m2:(i+1)*sz=i*sz+sz:=ad2 ..;have m3:(n-i)*sz=n*sz-i*sz:=Nat.sub_mul ..;have m4:(i+1)*sz≤n*sz:=acT _ hi;have m5:1*sz=sz:=Nat.one_mul _;have m6:(n+1-i)*sz=n*sz+sz-i*sz:=by grind
 have r9:(n+1)*i0.bytes≤140737488355328:=acY (ad4 hm Mi) (by decide);have hold:(Builtin.firstCells i0.size i (.slice (some ⟨g,0,none⟩) i c)).run P w.drew=.ok (xs.take (i*sz)).toArray w.drew:=by rw[Jt];exact run_firstCells_some w.drew sz i ⟨g,0,none⟩ i c (xs.take (i*sz)) (by grind) (fun j v hj=>by simp_all [List.getElem?_take])
 obtain⟨G,hG⟩:∃G,G=grownCap w (n+1) c e:=⟨_,rfl⟩;obtain⟨uL,abA⟩:∃uL:Array Value,uL=(xs.take (i*sz)).toArray++Builtin.zeroCells z0.cells (n+1-i)++Builtin.zeroCells z0.cells (G-(n+1)):=⟨_,rfl⟩;have hik:i+(n+1-i)=n+1:=by omega
 have XE:∀ty,(Builtin.append_ #[t,3] ty #[.slice (some ⟨g,0,none⟩) i c,.int .i64 ((n:Int)+1-(i:Int))]).run P w=.ok (.slice (some ⟨w.heap.size,0,none⟩) (n+1) G) (w.drew.alloc (.cells uL e)):=fun ty=>by
  have h:=Lib.run_append_grow_zeros w t 3 ty e i0 z0 .i64 .i64 ht htn he.info he.zero (some ⟨g,0,none⟩) i c (xs.take (i*sz)) hold (n+1-i) (by omega) (by omega) (by omega) (by omega) (acY (acT _ (show n+1-i≤n+1 by omega)) (by omega)) (by simp_all [growslice_fits])
  grind
 have Ro:n+1≤G:=by grind [grownCap_ge]
 have m7:(G-(n+1))*sz=G*sz-(n*sz+sz):=by rw[Nat.sub_mul,m1]
 have m8:(n+1)*sz≤G*sz:=acT _ Ro;have IG:G≤9223372036854775807:=by
  grind [grownCap_le_maxLen,maxLen]
 have hRs:uL.size=G*sz:=by
  grind [Builtin.zeroCells,List.length_take,Nat.min_eq_left]
 have hRt:uL.toList.take (i*sz)=xs.take (i*sz):=by
  grind
 obtain⟨W1,GY⟩:∃W1,W1=w.drew.alloc (.cells uL e):=⟨_,rfl⟩;have IH:W1.heap[w.heap.size]? = some (.cells uL e (0,0)):=by rw[GY];exact(MapKept.heap_alloc w.drew (.cells uL e)).1
 have Fv:∀b,b<w.heap.size→W1.heap[b]? = w.heap[b]? := fun b hb=>by rw[GY];exact(Below.heap_alloc w.drew (.cells uL e) b hb).trans rfl
 have rH:w.grownBy W1 none:=⟨by rw[GY];rfl,by rw[GY];rfl,by rw[GY];rfl,by simp_all,fun k hk _=>Fv k hk⟩;obtain⟨row2,aff⟩:∃row2:Array Value,row2=(uL.toList.take (i*sz)++ys++uL.toList.drop (i*sz+ys.length)).toArray:=⟨_,rfl⟩;have Qv:row2.size=uL.size:=by grind
 have M5:∀(W:World),W.heap=W1.heap→∀ty dc sc,(Builtin.copy_ #[t,t] ty #[.slice (some ⟨w.heap.size,i*sz,none⟩) (n+1-i) dc,.slice (some ⟨g2,0,none⟩) 1 sc]).run P W=.ok (goInt 1) (W.setRow w.heap.size row2):=fun W hW ty dc sc=>by
  have:=ir (P:=P) W t t ty e sz w.heap.size (i*sz) (n+1-i) dc ⟨g2,0,none⟩ 1 sc uL e ys ht hz (by simp_all) (by grind) (fun j v hj=>by grind [World.cell?,fD]) (by omega) h2
  grind
 obtain⟨row3,aak⟩:∃row3:Array Value,row3=(row2.toList.take ((i+1)*sz)++xs.drop (i*sz)++row2.toList.drop ((i+1)*sz+(xs.drop (i*sz)).length)).toArray:=⟨_,rfl⟩;have K1:(xs.drop (i*sz)).length=(n-i)*sz:=by grind
 have Su:row3.size=uL.size:=by rw[aak];simp;omega
 have M6:∀(W:World),W.heap=(W1.setRow w.heap.size row2).heap→∀ty dc sc,(Builtin.copy_ #[t,t] ty #[.slice (some ⟨w.heap.size,(i+1)*sz,none⟩) (n-i) dc,.slice (some ⟨g,i*sz,none⟩) (n-i) sc]).run P W=.ok (goInt (n-i:Nat)) (W.setRow w.heap.size row3):=fun W hW ty dc sc=>by
  have:=ir (P:=P) W t t ty e sz w.heap.size ((i+1)*sz) (n-i) dc ⟨g,i*sz,none⟩ (n-i) sc row2 e (xs.drop (i*sz)) ht hz (by grind [setRow_heap]) (by grind) (fun j v hj=>by grind [World.cell?,fD,_root_.Go.setRow_other,Nat.ne_of_lt]) (by omega) (fun q hq=>h1 q (adq hq))
  grind
 have jk:row3.toList.take ((n+1)*sz)=xs.take (i*sz)++(ys++xs.drop (i*sz)):=Rn (sz:=sz) (row:=uL.toList) (row2:=row2.toList) (row3:=row3.toList) hRt (by simp;omega) Am (by rw[Fu,m5]) (by omega) (by rw[aff]) (by rw[aak]);rw[←GY]at XE;exact⟨G,uL,row2,row3,W1,XE,IH,Fv,rH,M5,M6,by omega,Ro,IG,jk⟩
theorem zt{n i c G:Nat}(hi:i<n)(Af:n≤c)(dE:c<n+1)(hm:n+1≤eY)(Ro:n+1≤G):(IntKind.i64.wrap ((i:Int)+1)=(i:Int)+1)∧(IntKind.i64.wrap ((n:Int)+1)=(n:Int)+1)∧(IntKind.i64.wrap ((n:Int)+1-(i:Int))=(n:Int)+1-(i:Int))∧((0:Int)≤(i:Int)+1)∧(i≤n)∧(((i:Int)+1).toNat=i+1)∧(¬(G=i))∧(¬(G=i+1))∧(¬(c=i))∧((i:Int)≤(n:Int))∧(¬((i:Int)=(n:Int)))∧((c:Int)<(n:Int)+1):=by
 grind [eY,IntKind.wrap_i64]
theorem M7{P:Program}{f:FuncId}{e:TypeId}{sz:Nat}(hE:IE P f e sz)(hS:xN P f e sz)(hG:BN P f e sz):DW P f e sz:=fun w v u n i xs ys hv hu hi hm Yp h1 h2=>by
 by_cases he:i=n
 ·subst he;refine(hE w v u i xs ys hv hu hm h2).mono fun en w' ⟨v',e1,e2,e3,e4⟩=>⟨v',e1,?_,e3,e4⟩;have hl:=hv.1
  grind
 ·have tM:i<n:=by omega
  have m1:(n+1)*sz=n*sz+sz:=ad2 ..;have m4:i*sz≤n*sz:=acT _ hi;have m5:1*sz=sz:=Nat.one_mul _;rcases hv.2 with⟨h0,_⟩|⟨g,c,cur,rfl,hc0,hg,Af,XF,ij,lE⟩
  ·omega
  rcases hu.2 with⟨h0,_⟩|⟨g2,c2,dm,rfl,afg,wu,_,_,pz,lr⟩
  ·omega
  have oz:ob (.slice (some ⟨g,0,none⟩) n c)=some g:=by simp only[ob];grind
  have ak6:ob (.slice (some ⟨g2,0,none⟩) 1 c2)=some g2:=by simp only[ob];grind
  have bw:g2≠g:=fun e=>Yp g oz (by rw[ak6,e]);by_cases dE:n+1≤c
  ·refine(hS w g c g2 c2 n i xs ys cur dm hg ij lE hv.1 wu pz afg lr hu.1 bw tM dE XF h1 h2).mono fun en w' ⟨e1,gx,e2,e3,e4,e5⟩=>?_;refine⟨_,e1,⟨?_,.inr ⟨g,c,gx,rfl,hc0,e2,dE,XF,by rw[e3,ij],e4⟩⟩,by simp_all,.inl ?_⟩
   ·have hl:=hv.1;have Ah:=hu.1
    grind
   rfl
  ·refine(hG w g c g2 c2 n i xs ys cur dm hg ij lE hv.1 wu pz afg lr hu.1 bw tM Af (by omega) hm h1 h2).mono fun en w' ⟨G,e1,gx,e2,e3,e4,e5,e6,e7⟩=>?_;refine⟨_,e1,⟨?_,.inr ⟨w.heap.size,G,gx,rfl,by omega,e2,e4,e5,e3,e6⟩⟩,by simp_all,.inr fun b hb=>?_⟩
   ·have hl:=hv.1;have Ah:=hu.1
    grind
   simp_all [ob,if_neg]
set_option maxHeartbeats 4000000 in
set_option maxRecDepth 100000 in
theorem M8:IE Tryz.prog 153 38 5:=fun w v u n xs ys hv hu hm h1=>by
 have ht:Tryz.prog.underlying 24=some (.slice 38):=by kernel_rfl
 obtain⟨i0,z0,he⟩:=cm (P:=Tryz.prog) (e:=38) (k:=.pair (.pair (.int .i64) (.int .i64)) (.pair (.sl (.pair (.pair (.int .i64) (.int .i64)) (.int .i64))) (.pair .str (.int .i64)))) (by kernel_rfl);have yD:=IF hu h1;obtain⟨v',w',de,h4,h5,h6⟩:=dO (P:=Tryz.prog) (ty:=24) ht he hv yD hm;obtain⟨A,c,rfl⟩:=hv.slice;have Af:n≤c:=by
  rcases hv.2 with⟨h0,A,e⟩|⟨g,cap,cur,e,hc,h2,h3,_⟩
  ·omega
  simp_all
 obtain⟨B,cu,rfl⟩:=hu.slice;have afh:n≤1073741824:=by grind [eY]
 go_enter Tryz.func153,Tryz.ntmps153
 go_wp2_with (at_builtin;refine Lib.wpList_append_run _ rfl _ _ _ _ rfl _ _ rfl rfl _ _ de ?_)
 all_goals go_ret
 all_goals first|exact⟨_,rfl,h4,h5,h6⟩|(subst_vars;exact⟨_,rfl,h4,h5,h6⟩)
set_option maxHeartbeats 4000000 in
set_option maxRecDepth 100000 in
theorem II:xN Tryz.prog 153 38 5:=fun w g c g2 c2 n i xs ys cur dm hg ij lE Am wu pz oV lr Fu bw hi dE hc h1 h2=>by
 have ht:Tryz.prog.underlying 24=some (.slice 38):=by kernel_rfl
 have hz:(Tryz.prog.info? 38).map (·.size)=some 5:=by kernel_rfl
 have Jt:∀w,(Go.sizeOf 38).run Tryz.prog w=.ok 5 w:=fun w=>by rfl
 have XG:∀a2 lb cb,(callFunc 189 #[.slice (some ⟨g2,0,none⟩) 1 c2,.slice (some ⟨g,a2,none⟩) lb cb]).run Tryz.prog w=.ok (.value (.bool false)) w:=fun a2 lb cb=>by rw[run_callFunc_extern Tryz.func189 (by kernel_rfl) (by kernel_rfl) (by kernel_rfl) (e:=Extern.SlicesOverlaps.overlaps #[24,24] #[4]) (by kernel_rfl),Lib.run_overlaps_apart w 24 4 38 ht 5 Jt ⟨g2,0,none⟩ ⟨g,a2,none⟩ 1 c2 lb cb bw 38 38 dm.size cur.size (by simp[World.shape?,wu]) (by simp[World.shape?,hg]) (by omega) (by simp[World.frozen?,wu]) (by simp[World.frozen?,wu])];rfl
 obtain⟨cur1,cur3,M4,K2,Su,jk⟩:=vW ht hz w g c g2 c2 n i xs ys cur dm hg ij lE Am wu pz oV lr Fu bw hi dE hc h1 h2;have h63:c≤9223372036854775807:=by grind [maxLen]
 obtain⟨Oi,M9,Sw,tM,htn,Bx,hb3,hb4,EY,Qi⟩:=vX hi dE hc;clear lE lr;have mixed:Tryz.prog.follows .mixedOrders=true:=by kernel_rfl
 go_enter Tryz.func153,Tryz.ntmps153
 go_wp2_with (simp only[XG])
 go_region_law (go_loud (refine step_copy_runI rfl _ _ 24 24 rfl (.slice (some ⟨g,(i+1)*5,none⟩) (n-i) (c-(i+1))) (.slice (some ⟨g,i*5,none⟩) (n+1-i) (c-i)) (by simp[Act.eval,Act.put]) (by simp[Act.eval,Act.put]) (M4 w.drew rfl 3 (c-(i+1)) (c-i)) ?_))
 go_wp2_with (simp only[K2])
 go_ret
 refine⟨rfl,cur3,setRow_heap _ g cur1 _ 38 _ (setRow_heap w.drew g cur _ 38 _ hg),Su,jk,⟨rfl,rfl,rfl,by simp_all,fun k hk Rp=>?_⟩⟩;have uc:k≠g:=fun e=>Rp (by rw[e]);rw[_root_.Go.setRow_other _ g k _ uc,_root_.Go.setRow_other _ g k _ uc];rfl
set_option maxHeartbeats 4000000 in
set_option maxRecDepth 100000 in
theorem K3:BN Tryz.prog 153 38 5:=fun w g c g2 c2 n i xs ys cur dm hg ij lE Am wu pz oV lr Fu bw hi Af dE hm h1 h2=>by
 have ht:Tryz.prog.underlying 24=some (.slice 38):=by kernel_rfl
 obtain⟨i0,z0,he⟩:=cm (P:=Tryz.prog) (e:=38) (k:=.pair (.pair (.int .i64) (.int .i64)) (.pair (.sl (.pair (.pair (.int .i64) (.int .i64)) (.int .i64))) (.pair .str (.int .i64)))) (by kernel_rfl);obtain⟨G,uL,row2,row3,W1,XE,IH,Fv,rH,M5,M6,Su,Ro,IG,jk⟩:=zr (sz:=5) rfl (by decide) ht (by kernel_rfl) he w g c g2 c2 n i xs ys cur dm hg ij lE Am wu pz oV lr Fu bw hi Af dE hm h1 h2;obtain⟨Oi,M9,hw3,Sw,tM,afj,hGi,afk,hci,hb3,EY,Qi⟩:=zt hi Af dE hm Ro;unfold eY at hm;clear lE lr;have mixed:Tryz.prog.follows .mixedOrders=true:=by kernel_rfl
 go_enter Tryz.func153,Tryz.ntmps153
 go_wp2_with (first
  |(at_builtin;refine Lib.wpList_append_run _ rfl _ _ _ _ rfl _ _ rfl rfl _ _ (XE _) ?_)
  |(at_builtin;refine wpList_copy_runI _ rfl _ _ 24 24 rfl _ _ rfl rfl (M5 _ (by rfl) _ _ _) ?_))
 go_region_law (go_loud (refine step_copy_runI rfl _ _ 24 24 rfl (.slice (some ⟨w.heap.size,(i+1)*5,none⟩) (n-i) (G-(i+1))) (.slice (some ⟨g,i*5,none⟩) (n-i) (c-i)) (by simp[Act.eval,Act.put]) (by simp[Act.eval,Act.put]) (M6 (W1.setRow w.heap.size row2).drew rfl 3 (G-(i+1)) (c-i)) ?_))
 go_wp2
 go_ret
 refine⟨G,rfl,row3,setRow_heap _ w.heap.size row2 _ 38 _ (setRow_heap W1 w.heap.size uL _ 38 _ IH),by omega,Ro,IG,jk,⟨rH.os,rH.tape,rH.output,by have:=rH.size;simp_all,fun k hk _=>?_⟩⟩;rw[_root_.Go.setRow_other _ w.heap.size k _ (Nat.ne_of_lt hk)];exact(_root_.Go.setRow_other W1 w.heap.size k _ (Nat.ne_of_lt hk)).trans (Fv k hk)
theorem abB:DW Tryz.prog 153 38 5:=M7 M8 II K3
def Na(P:Program)(f:FuncId)(e:TypeId)(size:Nat):Prop :=∀(w:World) (v:Value) (n i j:Nat) (xs:List Value),dL w e size v n xs→i<j→j≤n→n≤eY→(∀q∈xs,q.oneCell'=true) → Calls P f #[v,.int .i64 i,.int .i64 j] w fun en w'=>∃v',en=.returned v'∧dL w' e size v' (i+(n-j)) (xs.take (i*size)++xs.drop (j*size))∧w.grownBy w' (ob v)∧ob v'=ob v
theorem iX{P:Program}{ops:Array Oper}{o:Oper}{a:Act}{w:World}{K:Act→World→Prop}{Q:Exit→Act→World→Prop}{E:Prop} (hg:o.guard=none) (d x:Operand) (dT sT:TypeId) (Oh:o.op=Op.call { callee:=Callee.builtin Builtin.append,args:=#[d,x],argTypes:=#[dT,sT] }) (v u:Value) (hd:a.eval d=v) (hx:a.eval x=u) {v':Value} {w':World} (hr:(Builtin.append_ #[dT,sT] o.type #[v,u]).run P w=.ok v' w') (hK:K (a.put o.dst v') w') :
  if Region.wanted o (yielded ops a.tmps)=true then Oper.wp P o a w K Q else E:=by
 have hw:Region.wanted o (yielded ops a.tmps)=true:=by simp[Region.wanted,hg]
 rw[if_pos hw];unfold Oper.wp;simp[execOp,Oh,resolve,invoke,builtin,hd,hx,hr,Result.andThen];exact hK
theorem K4{α:Type}{cur xs cur1 dm zs:List α}{i j n sz:Nat}(lE:cur.take (n*sz)=xs)(hl:n*sz≤cur.length)(E9:i≤j)(Sk:j≤n) (h1:cur1=cur.take (i*sz)++xs.drop (j*sz)++cur.drop (i*sz+(xs.drop (j*sz)).length)) (h2:dm=cur1.take ((i+(n-j))*sz)++zs++cur1.drop ((i+(n-j))*sz+zs.length)) :
  dm.take ((i+(n-j))*sz)=xs.take (i*sz)++xs.drop (j*sz):=by
 have ha:i*sz≤j*sz:=acT _ E9;have hb:j*sz≤n*sz:=acT _ Sk;rw[Nat.add_mul,Nat.sub_mul]at h2 ⊢;have Am:xs.length=n*sz:=by rw[←lE,List.length_take];omega
 generalize i*sz=a at *;generalize j*sz=b at *;generalize n*sz=c at *;have e0:cur.take a=xs.take a:=by rw[←lE,List.take_take];congr 1;omega
 have e1:cur1.take (a+(c-b))=xs.take a++xs.drop b:=by rw[h1,e0];exact List.take_left' (by simp only[List.length_append,List.length_take,List.length_drop];omega)
 rw[h2,e1,List.append_assoc];exact List.take_left' (by simp only[List.length_append,List.length_take,List.length_drop];omega)
set_option maxHeartbeats 4000000 in
set_option maxRecDepth 100000 in
theorem K5(w:World)(g c n i j X:Nat)(xs:List Value)(cur:Array Value)(hg:w.heap[g]? = some (.cells cur 38 (0,0)))(ij:cur.size=c*5)(lE:cur.toList.take (n*5)=xs)(Am:xs.length=n*5) (E9:i<j) (Sk:j≤n) (Af:n≤c) (hc:c≤maxLen) (hX:if c=j then X=0 else X=j*5)
  (h1:∀q∈xs,q.oneCell'=true) :
  Calls Tryz.prog 154 #[.slice (some ⟨g,0,none⟩) n c,.int .i64 i,.int .i64 j] w fun en w'=>en=.returned (.slice (some ⟨g,0,none⟩) (i+(n-j)) c) ∧ ∃gx:Array Value,w'.heap[g]? = some (.cells gx 38 (0,0))∧gx.size=cur.size∧gx.toList.take ((i+(n-j))*5)=xs.take (i*5)++xs.drop (j*5)∧w.grownBy w' (some g):=by
 have ht:Tryz.prog.underlying 24=some (.slice 38):=by kernel_rfl
 have hz:(Tryz.prog.info? 38).map (·.size)=some 5:=by kernel_rfl
 obtain⟨zs,Jt⟩:∃zs,B3 Tryz.prog 38=some zs:=acV.1 (by kernel_rfl);obtain⟨i0,z0,hi0,hz0,rfl,Ai⟩:=qf Jt;obtain⟨i1,z1,he⟩:=cm (P:=Tryz.prog) (e:=38) (k:=.pair (.pair (.int .i64) (.int .i64)) (.pair (.sl (.pair (.pair (.int .i64) (.int .i64)) (.int .i64))) (.pair .str (.int .i64)))) (by kernel_rfl);have ei:i1=i0:=by have:=he.info;simp_all
 subst ei;have ez:z1=z0:=by have:=he.zero;simp_all
 subst ez;have Mh:z1.cells.size=5:=he.wH;clear he Jt;have K1:(xs.drop (j*5)).length=(n-j)*5:=by grind
 obtain⟨cur1,sK⟩:∃cur1:Array Value,cur1=(cur.toList.take (i*5)++xs.drop (j*5)++cur.toList.drop (i*5+(xs.drop (j*5)).length)).toArray:=⟨_,rfl⟩;have Mg:cur1.size=cur.size:=by grind
 have Yp:∀ty sc,(Builtin.append_ #[24,24] ty #[.slice (some ⟨g,0,none⟩) i c,.slice (some ⟨g,X,none⟩) (n-j) sc]).run Tryz.prog w.drew=.ok (.slice (some ⟨g,0,none⟩) (i+(n-j)) c) (w.drew.setRow g cur1):=fun ty sc=>by
  by_cases Va:c=j
  ·have hnj:n=j:=by omega
   have:n-j=0:=by omega
   rw[this]at K1 ⊢;have Mv:xs.drop (j*5)=[]:=ack (by omega);rw[fE ht hi0 _ _ _ (by omega) _ _,sK,Mv];simp only[List.append_nil,List.length_nil,Nat.add_zero,List.take_append_drop,Array.toArray_toList];rw[setRow_self w.drew g cur 38 (0,0) hg]
  ·rw[if_neg Va]at hX;subst hX;rw[sK];exact py (P:=Tryz.prog) w.drew 24 ty 38 5 g i c ⟨g,j*5,none⟩ (n-j) sc cur (xs.drop (j*5)) ht hz hg K1 (vU (size:=5) (n:=n) (w:=w.drew) hg lE (j*5)) (fun q hq=>h1 q (adq hq)) (by omega) (by omega)
 obtain⟨dm,xO⟩:∃dm:Array Value,dm=(cur1.toList.take ((i+(n-j))*5)++(Builtin.zeroCells z1.cells (j-i)).toList++cur1.toList.drop ((i+(n-j))*5+(Builtin.zeroCells z1.cells (j-i)).toList.length)).toArray:=⟨_,rfl⟩;have hzc:(Builtin.zeroCells z1.cells (j-i)).toList.length=(j-i)*5:=by simp[Builtin.zeroCells,Mh]
 have Qv:dm.size=cur.size:=by rw[xO];simp[hzc];omega
 have uR:∀ty sc,(Builtin.clear_ #[24] ty #[.slice (some ⟨g,(i+(n-j))*5,none⟩) (n-(i+(n-j))) sc]).run Tryz.prog (w.drew.setRow g cur1)=.ok (.tuple #[]) ((w.drew.setRow g cur1).setRow g dm):=fun ty sc=>by have:=sJ (P:=Tryz.prog) (w.drew.setRow g cur1) 24 ty 38 5 g ((i+(n-j))*5) (j-i) sc cur1 i1 z1 ht hi0 hz0 Mh Ai (setRow_heap w.drew g cur _ 38 _ hg) (by omega) (by omega);rw[show n-(i+(n-j))=j-i by omega,this,xO]
 have jk:dm.toList.take ((i+(n-j))*5)=xs.take (i*5)++xs.drop (j*5):=K4 (cur1:=cur1.toList) lE (by simp;omega) (by omega) Sk (by rw[sK]) (by rw[xO]);clear sK xO lE K1;have h63:c≤9223372036854775807:=by grind [maxLen]
 have tM:i≤n:=by omega
 have hic:¬(c=i):=by omega
 have hjc:j≤c:=by omega
 have bw:¬((i:Int)=(j:Int)):=by omega
 have o8:i≤j:=by omega
 have ak7:i≤c:=by omega
 have ak8:i+(n-j)≤n:=by omega
 have ak9:i+(n-j)≤c:=by omega
 have ala:¬(c=i+(n-j)):=by omega
 have alb:(i:Int)+((n-j:Nat):Int)≤(n:Int):=by omega
 have mixed:Tryz.prog.follows .mixedOrders=true:=by kernel_rfl
 by_cases Va:c=j
 ·rw[if_pos Va]at hX;subst hX;subst Va;obtain rfl:n=c:=by omega
  simp only[Nat.sub_self,Nat.add_zero]at Yp uR jk ⊢
  go_enter Tryz.func154,Tryz.ntmps154
  go_wp2_with fail
  go_region_law (go_loud (refine iX rfl _ _ 24 24 rfl (.slice (some ⟨g,0,none⟩) i n) (.slice (some ⟨g,0,none⟩) 0 0) (by simp[Act.eval,Act.put]) (by simp[Act.eval,Act.put]) (Yp 24 0) ?_))
  go_wp2_with (simp only[uR])
  go_ret
  refine⟨rfl,dm,setRow_heap _ g cur1 _ 38 _ (setRow_heap w.drew g cur _ 38 _ hg),Qv,jk,⟨rfl,rfl,rfl,by simp_all,fun k hk Rp=>?_⟩⟩;have uc:k≠g:=fun e=>Rp (by rw[e]);rw[_root_.Go.setRow_other _ g k _ uc,_root_.Go.setRow_other _ g k _ uc];rfl
 ·rw[if_neg Va]at hX;subst hX
  go_enter Tryz.func154,Tryz.ntmps154
  go_wp2_with fail
  go_region_law (go_loud (refine iX rfl _ _ 24 24 rfl (.slice (some ⟨g,0,none⟩) i c) (.slice (some ⟨g,j*5,none⟩) (n-j) (c-j)) (by simp[Act.eval,Act.put]) (by simp[Act.eval,Act.put]) (Yp 24 (c-j)) ?_))
  go_wp2_with (simp only[uR])
  go_ret
  refine⟨rfl,dm,setRow_heap _ g cur1 _ 38 _ (setRow_heap w.drew g cur _ 38 _ hg),Qv,jk,⟨rfl,rfl,rfl,by simp_all,fun k hk Rp=>?_⟩⟩;have uc:k≠g:=fun e=>Rp (by rw[e]);rw[_root_.Go.setRow_other _ g k _ uc,_root_.Go.setRow_other _ g k _ uc];rfl
theorem abD:Na Tryz.prog 154 38 5:=fun w v n i j xs hv E9 Sk hm h1=>by
 rcases hv.2 with⟨h0,_⟩|⟨g,c,cur,rfl,hc0,hg,Af,XF,ij,lE⟩
 ·omega
 have oz:ob (.slice (some ⟨g,0,none⟩) n c)=some g:=by simp only[ob];grind
 refine(K5 w g c n i j (if c=j then 0 else j*5) xs cur hg ij lE hv.1 E9 Sk Af XF (by split<;>rfl) h1).mono fun en w' ⟨e1,gx,e2,e3,e4,e5⟩=>?_;refine⟨_,e1,⟨?_,.inr ⟨g,c,gx,rfl,hc0,e2,by omega,XF,by rw[e3,ij],e4⟩⟩,by simp_all,?_⟩
 ·grind
 rfl
end Go.Vs
namespace Go.Vs
open Go.Proofs
variable {P:Program}
theorem DX{Z:Nat→Prop}{w:World}{k:K}{xs:List k.T}{vs:List Value}(hv:kR Z w k xs vs)(hl:vs.length=xs.length*k.sz):∀q∈vs,q.oneCell'=true:=fun q hq=>by
 obtain⟨p,hp⟩:=adj hq;have aH:p<vs.length:=(abJ.1 hp).1;have hs:=k.gF;have hd:p / k.sz<xs.length:=Nat.div_lt_of_lt_mul (by grind);have hr:=hv (p / k.sz) _ (aby hd);refine hr.one q ?_;have hm:=Nat.mod_add_div p k.sz;have hml:=adp p hs;have:((vs.drop (p / k.sz*k.sz)).take k.sz)[p%k.sz]? = some q:=by
  grind
 grind
theorem GZ{Z:Nat→Prop}{w:World}{k:K}{xs:List k.T}{vs:List Value}(hv:kR Z w k xs vs)(n:Nat):kR Z w k (xs.take n) (vs.take (n*k.sz)):=fun i x hx=>by
 rw[List.getElem?_take]at hx
 split at hx
 ·rename_i hi;have:=hv i x hx;have e:((vs.take (n*k.sz)).drop (i*k.sz)).take k.sz=(vs.drop (i*k.sz)).take k.sz:=by
   rw[List.drop_take,List.take_take];congr 1;have:(i+1)*k.sz≤n*k.sz:=acT _ hi
   grind
  simp_all
 ·cases hx
theorem G1{Z:Nat→Prop}{w:World}{k:K}{xs:List k.T}{vs:List Value}(hv:kR Z w k xs vs)(n:Nat):kR Z w k (xs.drop n) (vs.drop (n*k.sz)):=fun i x hx=>by
 rw[List.getElem?_drop]at hx;have:=hv (n+i) x hx
 grind [List.drop_drop,Nat.add_mul]
theorem vY{f:FuncId}{ty:TypeId}{k:K}(hr:DW P f ty k.sz):ia P f (SI ty k):=by
 intro Z ψ h w B0 O N hh id e vs us g hB bz hN bu nq tz CA he;unfold SI at he
 split at he
 rotate_left
 ·cases he
 rename_i o i j
 split at he
 rotate_left
 ·cases he
 rename_i xs ys Cl Qw
 split at he
 ·cases he
 rename_i hoj;simp only[Option.some.injEq,Prod.mk.injEq]at he;obtain⟨kM,rfl⟩:=he;have hhg:hh.get=h:=nq _ _ rfl;have XH:hh.get o=some (.own (.row ty k) xs):=kl Cl;have hgj:hh.get j=some (.own (.row ty k) ys):=kl Qw;simp only[ax,aC]at tz;obtain⟨v,_,rfl,⟨_,hv⟩,n,_,rfl,rfl,u,_,rfl,⟨_,hu⟩,rfl⟩:=tz;simp only[rT,Bool.and_eq_true,decide_eq_true_eq,aK]at kM;obtain⟨h0,h1,h2,h3⟩:=kM;obtain⟨m,rfl⟩:∃m:Nat,i=m:=⟨i.toNat,by omega⟩;subst hhg;have hvo:v=ψ o:=hv (by rw[XH];simp);have huj:u=ψ j:=hu (by rw[hgj];simp);obtain⟨vs,XA,yI⟩:=g.row o (.row ty k) xs XH;obtain⟨jt,ho2,Bu⟩:=g.row j (.row ty k) ys hgj;simp only[aD,aM]at CA;have bM:N id:=hN 0 (by omega);have bw:o≠id:=fun e=>CA.1 (e▸bM);rw[h2]at ho2;subst hvo;subst huj;refine(hr w _ _ xs.length m vs jt XA ho2 (by omega) (by omega) (fun b hb Bx=>hoj (g.apart o j b (by rw[XH];simp) (by rw[hgj];simp) hb Bx)) (DX yI XA.1) (DX Bu (by rw[ho2.1,h2]))).mono fun en w' ⟨v',e1,e2,e3,e4⟩=>?_;have kk:cP ψ hh.get w w':=cP.grown e3 (fun b e=>⟨o,by rw[XH];simp,e⟩);have sm:=kk.same g;have hlen:(jc xs (m:Int) ys).length=xs.length+1:=by
  grind [jc,Int.toNat_natCast,List.length_append,List.length_take,List.length_drop]
 have htl:(vs.take (m*k.sz)).length=(xs.take m).length*k.sz:=by have:m*k.sz≤xs.length*k.sz:=acT _ (by omega);rw[List.length_take,List.length_take,XA.1,Nat.min_eq_left this,Nat.min_eq_left (by omega)]
 have oS:kR Z w k (jc xs (m:Int) ys) (vs.take (m*k.sz)++(jt++vs.drop (m*k.sz))):=(GZ yI m).append (Bu.append (G1 yI m) (by rw[ho2.1,h2])) htl;have QS:=nE (N:=N) g hB id o bM XH bw e3 (v:=v') (ok:=.row ty k) (y:=jc xs m ys) ⟨_,by simp_all,oS.Ck sm⟩ e4 (fun i ty cs hb=>aD.imp (p:=fun i=>¬N i) (q:=fun i=>i≠id) (fun a ha e=>ha (by simp_all)) (bu i ty cs hb));have hhp:Heap.get ((id,Ob.own (.row ty k) (jc xs (m:Int) ys))::hh.del o)=dW (dW hh.get o none) id (some (.own (.row ty k) (jc xs m ys))):=by rw[Cr,tB]
 refine⟨v',Z,dW ψ id v',e1,?_,?_⟩
 ·show Next Z ψ hh.get w B0 O N Z (dW ψ id v') (Heap.get ((id,Ob.own (.row ty k) (jc xs (m:Int) ys))::hh.del o)) w';simp_all
 ·simp only[bF.v,aC];exact⟨e2.one,fun _=>(bp _ _ _).symm⟩
theorem DY{f:FuncId}{ty:TypeId}{k:K}(hr:Na P f ty k.sz):ia P f (XR ty k):=by
 intro Z ψ h w B0 O N hh id e vs us g hB bz hN bu nq tz CA he;unfold XR at he
 split at he
 rotate_left
 ·cases he
 rename_i o i j
 split at he
 rotate_left
 ·cases he
 rename_i xs Cl;simp only[Option.some.injEq,Prod.mk.injEq]at he;obtain⟨kM,rfl⟩:=he;have hhg:hh.get=h:=nq _ _ rfl;have XH:hh.get o=some (.own (.row ty k) xs):=kl Cl;simp only[ax,aC]at tz;obtain⟨v,_,rfl,⟨_,hv⟩,n,_,rfl,rfl,u,_,rfl,rfl,rfl⟩:=tz;simp only[j8,Bool.and_eq_true,decide_eq_true_eq,aK]at kM;obtain⟨h0,h1,h2,h3⟩:=kM;obtain⟨m,rfl⟩:∃m:Nat,i=m:=⟨i.toNat,by omega⟩;obtain⟨q,rfl⟩:∃m:Nat,j=m:=⟨j.toNat,by omega⟩;subst hhg;have hvo:v=ψ o:=hv (by rw[XH];simp);obtain⟨vs,XA,yI⟩:=g.row o (.row ty k) xs XH;simp only[aD,aM]at CA;have bM:N id:=hN 0 (by omega);have bw:o≠id:=fun e=>CA.1 (e▸bM);subst hvo;refine(hr w _ xs.length m q vs XA (by omega) (by omega) (by omega) (DX yI XA.1)).mono fun en w' ⟨v',e1,e2,e3,e4⟩=>?_;have kk:cP ψ hh.get w w':=cP.grown e3 (fun b e=>⟨o,by rw[XH];simp,e⟩);have sm:=kk.same g;have hlen:(dA xs (m:Int) q).length=m+(xs.length-q):=by
  grind [dA,Int.toNat_natCast,List.length_append,List.length_take,List.length_drop]
 have htl:(vs.take (m*k.sz)).length=(xs.take m).length*k.sz:=by have:m*k.sz≤xs.length*k.sz:=acT _ (by omega);rw[List.length_take,List.length_take,XA.1,Nat.min_eq_left this,Nat.min_eq_left (by omega)]
 have oS:kR Z w k (dA xs (m:Int) q) (vs.take (m*k.sz)++vs.drop (q*k.sz)):=(GZ yI m).append (G1 yI q) htl;have QS:=nE (N:=N) g hB id o bM XH bw e3 (v:=v') (ok:=.row ty k) (y:=dA xs m q) ⟨_,by simp_all,oS.Ck sm⟩ (.inl e4) (fun i ty cs hb=>aD.imp (p:=fun i=>¬N i) (q:=fun i=>i≠id) (fun a ha e=>ha (by simp_all)) (bu i ty cs hb));have hhp:Heap.get ((id,Ob.own (.row ty k) (dA xs (m:Int) q))::hh.del o)=dW (dW hh.get o none) id (some (.own (.row ty k) (dA xs m q))):=by rw[Cr,tB]
 refine⟨v',Z,dW ψ id v',e1,?_,?_⟩
 ·show Next Z ψ hh.get w B0 O N Z (dW ψ id v') (Heap.get ((id,Ob.own (.row ty k) (dA xs (m:Int) q))::hh.del o)) w';simp_all
 ·simp only[bF.v,aC];exact⟨e2.one,fun _=>(bp _ _ _).symm⟩
end Go.Vs
namespace Go.Vs
open Go.Proofs Go.RowKit
set_option maxHeartbeats 4000000 in
set_option maxRecDepth 100000 in
theorem Nb:IE Tryz.prog 191 84 4:=fun w v u n xs ys hv hu hm h1=>by
 have ht:Tryz.prog.underlying 25=some (.slice 84):=by kernel_rfl
 obtain⟨i0,z0,he⟩:=cm (P:=Tryz.prog) (e:=84) (k:=.pair (.pair (.int .i64) (.int .i64)) (.pair .str (.int .i64))) (by kernel_rfl);have yD:=IF hu h1;obtain⟨v',w',de,h4,h5,h6⟩:=dO (P:=Tryz.prog) (ty:=25) ht he hv yD hm;obtain⟨A,c,rfl⟩:=hv.slice;have Af:n≤c:=by
  rcases hv.2 with⟨h0,A,e⟩|⟨g,cap,cur,e,hc,h2,h3,_⟩
  ·omega
  simp_all
 obtain⟨B,cu,rfl⟩:=hu.slice;have afh:n≤1073741824:=by grind [eY]
 go_enter Tryz.func191,Tryz.ntmps191
 go_wp2_with (at_builtin;refine Lib.wpList_append_run _ rfl _ _ _ _ rfl _ _ rfl rfl _ _ de ?_)
 all_goals go_ret
 all_goals first|exact⟨_,rfl,h4,h5,h6⟩|(subst_vars;exact⟨_,rfl,h4,h5,h6⟩)
set_option maxHeartbeats 4000000 in
set_option maxRecDepth 100000 in
theorem IJ:xN Tryz.prog 191 84 4:=fun w g c g2 c2 n i xs ys cur dm hg ij lE Am wu pz oV lr Fu bw hi dE hc h1 h2=>by
 have ht:Tryz.prog.underlying 25=some (.slice 84):=by kernel_rfl
 have hz:(Tryz.prog.info? 84).map (·.size)=some 4:=by kernel_rfl
 have Jt:∀w,(Go.sizeOf 84).run Tryz.prog w=.ok 4 w:=fun w=>by rfl
 have XG:∀a2 lb cb,(callFunc 213 #[.slice (some ⟨g2,0,none⟩) 1 c2,.slice (some ⟨g,a2,none⟩) lb cb]).run Tryz.prog w=.ok (.value (.bool false)) w:=fun a2 lb cb=>by rw[run_callFunc_extern Tryz.func213 (by kernel_rfl) (by kernel_rfl) (by kernel_rfl) (e:=Extern.SlicesOverlaps.overlaps #[25,25] #[4]) (by kernel_rfl),Lib.run_overlaps_apart w 25 4 84 ht 4 Jt ⟨g2,0,none⟩ ⟨g,a2,none⟩ 1 c2 lb cb bw 84 84 dm.size cur.size (by simp[World.shape?,wu]) (by simp[World.shape?,hg]) (by omega) (by simp[World.frozen?,wu]) (by simp[World.frozen?,wu])];rfl
 obtain⟨cur1,cur3,M4,K2,Su,jk⟩:=vW ht hz w g c g2 c2 n i xs ys cur dm hg ij lE Am wu pz oV lr Fu bw hi dE hc h1 h2;have h63:c≤9223372036854775807:=by grind [maxLen]
 obtain⟨Oi,M9,Sw,tM,htn,Bx,hb3,hb4,EY,Qi⟩:=vX hi dE hc;clear lE lr;have mixed:Tryz.prog.follows .mixedOrders=true:=by kernel_rfl
 go_enter Tryz.func191,Tryz.ntmps191
 go_wp2_with (simp only[XG])
 go_region_law (go_loud (refine step_copy_runI rfl _ _ 25 25 rfl (.slice (some ⟨g,(i+1)*4,none⟩) (n-i) (c-(i+1))) (.slice (some ⟨g,i*4,none⟩) (n+1-i) (c-i)) (by simp[Act.eval,Act.put]) (by simp[Act.eval,Act.put]) (M4 w.drew rfl 3 (c-(i+1)) (c-i)) ?_))
 go_wp2_with (simp only[K2])
 go_ret
 refine⟨rfl,cur3,setRow_heap _ g cur1 _ 84 _ (setRow_heap w.drew g cur _ 84 _ hg),Su,jk,⟨rfl,rfl,rfl,by simp_all,fun k hk Rp=>?_⟩⟩;have uc:k≠g:=fun e=>Rp (by rw[e]);rw[_root_.Go.setRow_other _ g k _ uc,_root_.Go.setRow_other _ g k _ uc];rfl
set_option maxHeartbeats 4000000 in
set_option maxRecDepth 100000 in
theorem K6:BN Tryz.prog 191 84 4:=fun w g c g2 c2 n i xs ys cur dm hg ij lE Am wu pz oV lr Fu bw hi Af dE hm h1 h2=>by
 have ht:Tryz.prog.underlying 25=some (.slice 84):=by kernel_rfl
 obtain⟨i0,z0,he⟩:=cm (P:=Tryz.prog) (e:=84) (k:=.pair (.pair (.int .i64) (.int .i64)) (.pair .str (.int .i64))) (by kernel_rfl);obtain⟨G,uL,row2,row3,W1,XE,IH,Fv,rH,M5,M6,Su,Ro,IG,jk⟩:=zr (sz:=4) rfl (by decide) ht (by kernel_rfl) he w g c g2 c2 n i xs ys cur dm hg ij lE Am wu pz oV lr Fu bw hi Af dE hm h1 h2;obtain⟨Oi,M9,hw3,Sw,tM,afj,hGi,afk,hci,hb3,EY,Qi⟩:=zt hi Af dE hm Ro;unfold eY at hm;clear lE lr;have mixed:Tryz.prog.follows .mixedOrders=true:=by kernel_rfl
 go_enter Tryz.func191,Tryz.ntmps191
 go_wp2_with (first
  |(at_builtin;refine Lib.wpList_append_run _ rfl _ _ _ _ rfl _ _ rfl rfl _ _ (XE _) ?_)
  |(at_builtin;refine wpList_copy_runI _ rfl _ _ 25 25 rfl _ _ rfl rfl (M5 _ (by rfl) _ _ _) ?_))
 go_region_law (go_loud (refine step_copy_runI rfl _ _ 25 25 rfl (.slice (some ⟨w.heap.size,(i+1)*4,none⟩) (n-i) (G-(i+1))) (.slice (some ⟨g,i*4,none⟩) (n-i) (c-i)) (by simp[Act.eval,Act.put]) (by simp[Act.eval,Act.put]) (M6 (W1.setRow w.heap.size row2).drew rfl 3 (G-(i+1)) (c-i)) ?_))
 go_wp2
 go_ret
 refine⟨G,rfl,row3,setRow_heap _ w.heap.size row2 _ 84 _ (setRow_heap W1 w.heap.size uL _ 84 _ IH),by omega,Ro,IG,jk,⟨rH.os,rH.tape,rH.output,by have:=rH.size;simp_all,fun k hk _=>?_⟩⟩;rw[_root_.Go.setRow_other _ w.heap.size k _ (Nat.ne_of_lt hk)];exact(_root_.Go.setRow_other W1 w.heap.size k _ (Nat.ne_of_lt hk)).trans (Fv k hk)
theorem abE:DW Tryz.prog 191 84 4:=M7 Nb IJ K6
set_option maxHeartbeats 4000000 in
set_option maxRecDepth 100000 in
theorem K7(w:World)(g c n i j X:Nat)(xs:List Value)(cur:Array Value)(hg:w.heap[g]? = some (.cells cur 84 (0,0)))(ij:cur.size=c*4)(lE:cur.toList.take (n*4)=xs)(Am:xs.length=n*4) (E9:i<j) (Sk:j≤n) (Af:n≤c) (hc:c≤maxLen) (hX:if c=j then X=0 else X=j*4)
  (h1:∀q∈xs,q.oneCell'=true) :
  Calls Tryz.prog 164 #[.slice (some ⟨g,0,none⟩) n c,.int .i64 i,.int .i64 j] w fun en w'=>en=.returned (.slice (some ⟨g,0,none⟩) (i+(n-j)) c) ∧ ∃gx:Array Value,w'.heap[g]? = some (.cells gx 84 (0,0))∧gx.size=cur.size∧gx.toList.take ((i+(n-j))*4)=xs.take (i*4)++xs.drop (j*4)∧w.grownBy w' (some g):=by
 have ht:Tryz.prog.underlying 25=some (.slice 84):=by kernel_rfl
 have hz:(Tryz.prog.info? 84).map (·.size)=some 4:=by kernel_rfl
 obtain⟨zs,Jt⟩:∃zs,B3 Tryz.prog 84=some zs:=acV.1 (by kernel_rfl);obtain⟨i0,z0,hi0,hz0,rfl,Ai⟩:=qf Jt;obtain⟨i1,z1,he⟩:=cm (P:=Tryz.prog) (e:=84) (k:=.pair (.pair (.int .i64) (.int .i64)) (.pair .str (.int .i64))) (by kernel_rfl);have ei:i1=i0:=by have:=he.info;simp_all
 subst ei;have ez:z1=z0:=by have:=he.zero;simp_all
 subst ez;have Mh:z1.cells.size=4:=he.wH;clear he Jt;have K1:(xs.drop (j*4)).length=(n-j)*4:=by grind
 obtain⟨cur1,sK⟩:∃cur1:Array Value,cur1=(cur.toList.take (i*4)++xs.drop (j*4)++cur.toList.drop (i*4+(xs.drop (j*4)).length)).toArray:=⟨_,rfl⟩;have Mg:cur1.size=cur.size:=by grind
 have Yp:∀ty sc,(Builtin.append_ #[25,25] ty #[.slice (some ⟨g,0,none⟩) i c,.slice (some ⟨g,X,none⟩) (n-j) sc]).run Tryz.prog w.drew=.ok (.slice (some ⟨g,0,none⟩) (i+(n-j)) c) (w.drew.setRow g cur1):=fun ty sc=>by
  by_cases Va:c=j
  ·have hnj:n=j:=by omega
   have:n-j=0:=by omega
   rw[this]at K1 ⊢;have Mv:xs.drop (j*4)=[]:=ack (by omega);rw[fE ht hi0 _ _ _ (by omega) _ _,sK,Mv];simp only[List.append_nil,List.length_nil,Nat.add_zero,List.take_append_drop,Array.toArray_toList];rw[setRow_self w.drew g cur 84 (0,0) hg]
  ·rw[if_neg Va]at hX;subst hX;rw[sK];exact py (P:=Tryz.prog) w.drew 25 ty 84 4 g i c ⟨g,j*4,none⟩ (n-j) sc cur (xs.drop (j*4)) ht hz hg K1 (vU (size:=4) (n:=n) (w:=w.drew) hg lE (j*4)) (fun q hq=>h1 q (adq hq)) (by omega) (by omega)
 obtain⟨dm,xO⟩:∃dm:Array Value,dm=(cur1.toList.take ((i+(n-j))*4)++(Builtin.zeroCells z1.cells (j-i)).toList++cur1.toList.drop ((i+(n-j))*4+(Builtin.zeroCells z1.cells (j-i)).toList.length)).toArray:=⟨_,rfl⟩;have hzc:(Builtin.zeroCells z1.cells (j-i)).toList.length=(j-i)*4:=by simp[Builtin.zeroCells,Mh]
 have Qv:dm.size=cur.size:=by rw[xO];simp[hzc];omega
 have uR:∀ty sc,(Builtin.clear_ #[25] ty #[.slice (some ⟨g,(i+(n-j))*4,none⟩) (n-(i+(n-j))) sc]).run Tryz.prog (w.drew.setRow g cur1)=.ok (.tuple #[]) ((w.drew.setRow g cur1).setRow g dm):=fun ty sc=>by have:=sJ (P:=Tryz.prog) (w.drew.setRow g cur1) 25 ty 84 4 g ((i+(n-j))*4) (j-i) sc cur1 i1 z1 ht hi0 hz0 Mh Ai (setRow_heap w.drew g cur _ 84 _ hg) (by omega) (by omega);rw[show n-(i+(n-j))=j-i by omega,this,xO]
 have jk:dm.toList.take ((i+(n-j))*4)=xs.take (i*4)++xs.drop (j*4):=K4 (cur1:=cur1.toList) lE (by simp;omega) (by omega) Sk (by rw[sK]) (by rw[xO]);clear sK xO lE K1;have h63:c≤9223372036854775807:=by grind [maxLen]
 have tM:i≤n:=by omega
 have hic:¬(c=i):=by omega
 have hjc:j≤c:=by omega
 have bw:¬((i:Int)=(j:Int)):=by omega
 have o8:i≤j:=by omega
 have ak7:i≤c:=by omega
 have ak8:i+(n-j)≤n:=by omega
 have ak9:i+(n-j)≤c:=by omega
 have ala:¬(c=i+(n-j)):=by omega
 have alb:(i:Int)+((n-j:Nat):Int)≤(n:Int):=by omega
 have mixed:Tryz.prog.follows .mixedOrders=true:=by kernel_rfl
 by_cases Va:c=j
 ·rw[if_pos Va]at hX;subst hX;subst Va;obtain rfl:n=c:=by omega
  simp only[Nat.sub_self,Nat.add_zero]at Yp uR jk ⊢
  go_enter Tryz.func164,Tryz.ntmps164
  go_wp2_with fail
  go_region_law (go_loud (refine iX rfl _ _ 25 25 rfl (.slice (some ⟨g,0,none⟩) i n) (.slice (some ⟨g,0,none⟩) 0 0) (by simp[Act.eval,Act.put]) (by simp[Act.eval,Act.put]) (Yp 25 0) ?_))
  go_wp2_with (simp only[uR])
  go_ret
  refine⟨rfl,dm,setRow_heap _ g cur1 _ 84 _ (setRow_heap w.drew g cur _ 84 _ hg),Qv,jk,⟨rfl,rfl,rfl,by simp_all,fun k hk Rp=>?_⟩⟩;have uc:k≠g:=fun e=>Rp (by rw[e]);rw[_root_.Go.setRow_other _ g k _ uc,_root_.Go.setRow_other _ g k _ uc];rfl
 ·rw[if_neg Va]at hX;subst hX
  go_enter Tryz.func164,Tryz.ntmps164
  go_wp2_with fail
  go_region_law (go_loud (refine iX rfl _ _ 25 25 rfl (.slice (some ⟨g,0,none⟩) i c) (.slice (some ⟨g,j*4,none⟩) (n-j) (c-j)) (by simp[Act.eval,Act.put]) (by simp[Act.eval,Act.put]) (Yp 25 (c-j)) ?_))
  go_wp2_with (simp only[uR])
  go_ret
  refine⟨rfl,dm,setRow_heap _ g cur1 _ 84 _ (setRow_heap w.drew g cur _ 84 _ hg),Qv,jk,⟨rfl,rfl,rfl,by simp_all,fun k hk Rp=>?_⟩⟩;have uc:k≠g:=fun e=>Rp (by rw[e]);rw[_root_.Go.setRow_other _ g k _ uc,_root_.Go.setRow_other _ g k _ uc];rfl
theorem abF:Na Tryz.prog 164 84 4:=fun w v n i j xs hv E9 Sk hm h1=>by
 rcases hv.2 with⟨h0,_⟩|⟨g,c,cur,rfl,hc0,hg,Af,XF,ij,lE⟩
 ·omega
 have oz:ob (.slice (some ⟨g,0,none⟩) n c)=some g:=by simp only[ob];grind
 refine(K7 w g c n i j (if c=j then 0 else j*4) xs cur hg ij lE hv.1 E9 Sk Af XF (by split<;>rfl) h1).mono fun en w' ⟨e1,gx,e2,e3,e4,e5⟩=>?_;refine⟨_,e1,⟨?_,.inr ⟨g,c,gx,rfl,hc0,e2,by omega,XF,by rw[e3,ij],e4⟩⟩,by simp_all,?_⟩
 ·grind
 rfl
set_option maxHeartbeats 4000000 in
set_option maxRecDepth 100000 in
theorem Nc:IE Tryz.prog 220 42 6:=fun w v u n xs ys hv hu hm h1=>by
 have ht:Tryz.prog.underlying 28=some (.slice 42):=by kernel_rfl
 obtain⟨i0,z0,he⟩:=cm (P:=Tryz.prog) (e:=42) (k:=.pair (.pair (.pair (.int .i64) (.int .i64)) (.int .i64)) (.pair (.pair (.int .i64) (.int .i64)) (.int .i64))) (by kernel_rfl);have yD:=IF hu h1;obtain⟨v',w',de,h4,h5,h6⟩:=dO (P:=Tryz.prog) (ty:=28) ht he hv yD hm;obtain⟨A,c,rfl⟩:=hv.slice;have Af:n≤c:=by
  rcases hv.2 with⟨h0,A,e⟩|⟨g,cap,cur,e,hc,h2,h3,_⟩
  ·omega
  simp_all
 obtain⟨B,cu,rfl⟩:=hu.slice;have afh:n≤1073741824:=by grind [eY]
 go_enter Tryz.func220,Tryz.ntmps220
 go_wp2_with (at_builtin;refine Lib.wpList_append_run _ rfl _ _ _ _ rfl _ _ rfl rfl _ _ de ?_)
 all_goals go_ret
 all_goals first|exact⟨_,rfl,h4,h5,h6⟩|(subst_vars;exact⟨_,rfl,h4,h5,h6⟩)
set_option maxHeartbeats 4000000 in
set_option maxRecDepth 100000 in
theorem IK:xN Tryz.prog 220 42 6:=fun w g c g2 c2 n i xs ys cur dm hg ij lE Am wu pz oV lr Fu bw hi dE hc h1 h2=>by
 have ht:Tryz.prog.underlying 28=some (.slice 42):=by kernel_rfl
 have hz:(Tryz.prog.info? 42).map (·.size)=some 6:=by kernel_rfl
 have Jt:∀w,(Go.sizeOf 42).run Tryz.prog w=.ok 6 w:=fun w=>by rfl
 have XG:∀a2 lb cb,(callFunc 232 #[.slice (some ⟨g2,0,none⟩) 1 c2,.slice (some ⟨g,a2,none⟩) lb cb]).run Tryz.prog w=.ok (.value (.bool false)) w:=fun a2 lb cb=>by rw[run_callFunc_extern Tryz.func232 (by kernel_rfl) (by kernel_rfl) (by kernel_rfl) (e:=Extern.SlicesOverlaps.overlaps #[28,28] #[4]) (by kernel_rfl),Lib.run_overlaps_apart w 28 4 42 ht 6 Jt ⟨g2,0,none⟩ ⟨g,a2,none⟩ 1 c2 lb cb bw 42 42 dm.size cur.size (by simp[World.shape?,wu]) (by simp[World.shape?,hg]) (by omega) (by simp[World.frozen?,wu]) (by simp[World.frozen?,wu])];rfl
 obtain⟨cur1,cur3,M4,K2,Su,jk⟩:=vW ht hz w g c g2 c2 n i xs ys cur dm hg ij lE Am wu pz oV lr Fu bw hi dE hc h1 h2;have h63:c≤9223372036854775807:=by grind [maxLen]
 obtain⟨Oi,M9,Sw,tM,htn,Bx,hb3,hb4,EY,Qi⟩:=vX hi dE hc;clear lE lr;have mixed:Tryz.prog.follows .mixedOrders=true:=by kernel_rfl
 go_enter Tryz.func220,Tryz.ntmps220
 go_wp2_with (simp only[XG])
 go_region_law (go_loud (refine step_copy_runI rfl _ _ 28 28 rfl (.slice (some ⟨g,(i+1)*6,none⟩) (n-i) (c-(i+1))) (.slice (some ⟨g,i*6,none⟩) (n+1-i) (c-i)) (by simp[Act.eval,Act.put]) (by simp[Act.eval,Act.put]) (M4 w.drew rfl 3 (c-(i+1)) (c-i)) ?_))
 go_wp2_with (simp only[K2])
 go_ret
 refine⟨rfl,cur3,setRow_heap _ g cur1 _ 42 _ (setRow_heap w.drew g cur _ 42 _ hg),Su,jk,⟨rfl,rfl,rfl,by simp_all,fun k hk Rp=>?_⟩⟩;have uc:k≠g:=fun e=>Rp (by rw[e]);rw[_root_.Go.setRow_other _ g k _ uc,_root_.Go.setRow_other _ g k _ uc];rfl
set_option maxHeartbeats 4000000 in
set_option maxRecDepth 100000 in
theorem K8:BN Tryz.prog 220 42 6:=fun w g c g2 c2 n i xs ys cur dm hg ij lE Am wu pz oV lr Fu bw hi Af dE hm h1 h2=>by
 have ht:Tryz.prog.underlying 28=some (.slice 42):=by kernel_rfl
 obtain⟨i0,z0,he⟩:=cm (P:=Tryz.prog) (e:=42) (k:=.pair (.pair (.pair (.int .i64) (.int .i64)) (.int .i64)) (.pair (.pair (.int .i64) (.int .i64)) (.int .i64))) (by kernel_rfl);obtain⟨G,uL,row2,row3,W1,XE,IH,Fv,rH,M5,M6,Su,Ro,IG,jk⟩:=zr (sz:=6) rfl (by decide) ht (by kernel_rfl) he w g c g2 c2 n i xs ys cur dm hg ij lE Am wu pz oV lr Fu bw hi Af dE hm h1 h2;obtain⟨Oi,M9,hw3,Sw,tM,afj,hGi,afk,hci,hb3,EY,Qi⟩:=zt hi Af dE hm Ro;unfold eY at hm;clear lE lr;have mixed:Tryz.prog.follows .mixedOrders=true:=by kernel_rfl
 go_enter Tryz.func220,Tryz.ntmps220
 go_wp2_with (first
  |(at_builtin;refine Lib.wpList_append_run _ rfl _ _ _ _ rfl _ _ rfl rfl _ _ (XE _) ?_)
  |(at_builtin;refine wpList_copy_runI _ rfl _ _ 28 28 rfl _ _ rfl rfl (M5 _ (by rfl) _ _ _) ?_))
 go_region_law (go_loud (refine step_copy_runI rfl _ _ 28 28 rfl (.slice (some ⟨w.heap.size,(i+1)*6,none⟩) (n-i) (G-(i+1))) (.slice (some ⟨g,i*6,none⟩) (n-i) (c-i)) (by simp[Act.eval,Act.put]) (by simp[Act.eval,Act.put]) (M6 (W1.setRow w.heap.size row2).drew rfl 3 (G-(i+1)) (c-i)) ?_))
 go_wp2
 go_ret
 refine⟨G,rfl,row3,setRow_heap _ w.heap.size row2 _ 42 _ (setRow_heap W1 w.heap.size uL _ 42 _ IH),by omega,Ro,IG,jk,⟨rH.os,rH.tape,rH.output,by have:=rH.size;simp_all,fun k hk _=>?_⟩⟩;rw[_root_.Go.setRow_other _ w.heap.size k _ (Nat.ne_of_lt hk)];exact(_root_.Go.setRow_other W1 w.heap.size k _ (Nat.ne_of_lt hk)).trans (Fv k hk)
theorem abG:DW Tryz.prog 220 42 6:=M7 Nc IK K8
def OX(P:Program)(f:FuncId)(e:TypeId)(size:Nat):Prop :=∀(w:World) (n:Nat),n≤eY→Calls P f #[.slice none 0 0,.int .i64 n] w fun en w'=>∃v',en=.returned v'∧dL w' e size v' 0 []∧w.grownBy w' none∧∀b,ob v'=some b→w.heap.size≤b
set_option maxHeartbeats 4000000 in
set_option maxRecDepth 100000 in
theorem Yq:OX Tryz.prog 222 40 3:=fun w n hm=>by
 have ht:Tryz.prog.underlying 36=some (.slice 40):=by kernel_rfl
 have htn:Tryz.prog.underlying 3=some (.int .i64):=by kernel_rfl
 obtain⟨i0,z0,he⟩:=cm (P:=Tryz.prog) (e:=40) (k:=.pair (.pair (.int .i64) (.int .i64)) (.int .i64)) (by kernel_rfl);have Mh:z0.cells.size=3:=he.wH;have Jt:i0.size=3:=he.size;have Mi:=he.bytes;unfold eY at hm;by_cases hn:n=0
 ·subst hn;have oz:ob (.slice none 0 0)=none:=rfl
  go_enter Tryz.func222,Tryz.ntmps222
  go_wp2
  go_ret
  exact⟨_,rfl,⟨by simp,.inl ⟨rfl,none,rfl⟩⟩,World.grownBy.refl w _,fun b hb=>by simp_all⟩
 ·have r9:n*i0.bytes≤281474976710656:=acY (ad4 hm Mi) (by decide);obtain⟨G,hG⟩:∃G,G=grownCap w n 0 40:=⟨_,rfl⟩;obtain⟨uL,abA⟩:∃uL,uL=Builtin.zeroCells z0.cells n++Builtin.zeroCells z0.cells (G-n):=⟨_,rfl⟩;obtain⟨W1,GY⟩:∃W1,W1=w.drew.alloc (.cells uL 40):=⟨_,rfl⟩;have XE:∀ty,(Builtin.append_ #[36,3] ty #[.slice none 0 0,.int .i64 n]).run Tryz.prog w=.ok (.slice (some ⟨w.heap.size,0,none⟩) n G) W1:=fun ty=>by rw[GY,abA,hG];exact Lib.run_append_nil_zeros w 36 3 ty 40 i0 z0 .i64 .i64 ht htn he.info he.zero n (by omega) (by omega) (by omega) r9
  have Ro:n≤G:=by grind [grownCap_ge]
  have IG:G≤9223372036854775807:=by
   grind [grownCap_le_maxLen,maxLen]
  have hRs:uL.size=G*3:=by
   grind [Builtin.zeroCells]
  have IH:W1.heap[w.heap.size]? = some (.cells uL 40 (0,0)):=by rw[GY];exact(MapKept.heap_alloc w.drew (.cells uL 40)).1
  have Fv:∀b,b<w.heap.size→W1.heap[b]? = w.heap[b]? := fun b hb=>by rw[GY];exact(Below.heap_alloc w.drew (.cells uL 40) b hb).trans rfl
  have rH:w.grownBy W1 none:=⟨by rw[GY];rfl,by rw[GY];rfl,by rw[GY];rfl,by simp_all,fun k hk _=>Fv k hk⟩;clear abA GY hG;have hn0:¬((n:Int)<0):=by omega
  have hn1:0<(n:Int):=by omega
  have hn2:IntKind.i64.wrap (n:Int)=n:=by rw[IntKind.wrap_i64];omega
  have hG0:¬(G=0):=by omega
  go_enter Tryz.func222,Tryz.ntmps222
  go_wp2_with (at_builtin;refine Lib.wpList_append_run _ rfl _ _ _ _ rfl _ _ rfl rfl _ _ (XE _) ?_)
  go_ret
  refine⟨.slice (some ⟨w.heap.size,0,none⟩) 0 G,rfl,⟨by simp,.inr ⟨w.heap.size,G,uL,rfl,by omega,IH,by omega,IG,hRs,by simp⟩⟩,rH,fun b hb=>?_⟩;simp_all [ob,if_neg]
theorem K9{P:Program}{f:FuncId}{ty:TypeId}{k:K}(hr:OX P f ty k.sz):ia P f (SJ ty k):=by
 intro Z ψ h w B0 O N hh id e vs us g hB bz hN bu nq tz CA he;unfold SJ at he
 split at he
 rotate_left
 ·cases he
 rename_i n;simp only[Option.some.injEq,Prod.mk.injEq]at he;obtain⟨kM,rfl⟩:=he;simp only[B9,Bool.and_eq_true,decide_eq_true_eq]at kM;obtain⟨h0,h1⟩:=kM;obtain⟨m,rfl⟩:∃m:Nat,n=m:=⟨n.toNat,by omega⟩;simp only[ax,aC]at tz;obtain⟨v,_,rfl,rfl,u,_,rfl,rfl,rfl⟩:=tz;have bM:N id:=hN 0 (by omega);refine(hr w m (by omega)).mono fun en w' ⟨v',e1,e2,e3,e4⟩=>?_;have kk:cP ψ h w w':=cP.grown e3 (fun b e=>by cases e);have QS:=oU (N:=N) g hB id ty bM (k:=k) (xs:=[]) (vs:=[]) kk (fun b hb=>e3.block b (g.bP hb) (by simp)) e2 (fun i x hx=>by simp at hx) e4 (fun i ty cs hb=>aD.imp (p:=fun i=>¬N i) (q:=fun i=>i≠id) (fun a ha e=>ha (by simp_all)) (bu i ty cs hb));refine⟨v',Z,dW ψ id v',e1,?_,?_⟩
 ·have hhp:(bF.new (.bL id) [(id,Ob.own (.row ty k) [])]).hp h=dW h id (some (.own (.row ty k) [])):=gH id _ h;simp_all
 ·simp only[bF.v,aC];exact⟨e2.one,fun _=>(bp _ _ _).symm⟩
end Go.Vs
namespace Go.Vs
variable {P:Program}
def Bi(P:Program)(g:TypeId→K→Bool):List Field→Nat→K→Bool
 |[],_,_=>false
 |[f],off,k=>(f.name != "_")&&(decide (f.offset=off)&&(decide (P.cellsOf f.type=k.sz)&&g f.type k))
 |f::f'::r,off,.pair a b=>(f.name != "_")&&(decide (f.offset=off)&&(decide (P.cellsOf f.type=a.sz)&&(g f.type a&&Bi P g (f'::r) (off+a.sz) b)))
 |_,_,_=>false
def Vb(P:Program):Nat→TypeId→K→Bool
 |0,_,_=>false
 |d+1,t,k =>
  match P.underlying t,k with
  |some (.int a),.int b=>decide (a=b)
  |some .bool,.bool=>true
  |some .string,.str=>true
  |some (.struct fs),.pair a b => !P.stoodInHeld t&&Bi P (Vb P d) fs.toList 0 (.pair a b)
  |_,_=>false
def VK(w:World)(Z:Nat→Prop):(k:K)→k.T→Value→Prop
 |.pair a b,x,v=>∃cs:Array Value,v=.agg cs∧aL Z w (.pair a b) x cs.toList
 |.one k,x,v=>False
 |k,x,v=>aL Z w k x [v]
theorem BO{Z:Nat→Prop}{w:World}{d:Nat}{t:TypeId}{k:K}(hk:Vb P d t k=true)(hc:P.cellsOf t=k.sz){cs:Array Value}{off:Nat}{x:k.T}(hr:aL Z w k x ((cs.toList.drop off).take k.sz)) :
  ∃v,(part t cs off).run P w=.ok v w∧VK w Z k x v:=by
 cases d with
 |zero=>simp[Vb]at hk
 |succ d =>
  have plain:k.sz=1→(P.underlying t).map Mk=some false→∃v,(part t cs off).run P w=.ok v w∧aL Z w k x [v]:=fun h1 h2=>by
   rw[h1]at hr;have hl:=hr.len;rw[h1,List.length_take,List.length_drop,Array.length_toList]at hl;have aH:off<cs.size:=by omega
   refine⟨cs[off],?_,?_⟩
   ·simp[part,gG h2,aH]
   grind [List.drop_eq_getElem_cons]
  unfold Vb at hk
  split at hk
  ·rename_i a b hu;exact plain rfl (by rw[hu];rfl)
  ·rename_i hu;exact plain rfl (by rw[hu];rfl)
  ·rename_i hu;exact plain rfl (by rw[hu];rfl)
  ·rename_i fs a b hu;obtain⟨i,hi⟩:=uQ hu;refine⟨.agg (cs.extract off (off+P.cellsOf t)),?_,_,rfl,?_⟩
   ·have h2:(P.underlying t).map Mk=some true:=by rw[hu];rfl
    simp[part,gG h2,dD hi]
   simp_all
  ·cases hk
def ky(em:Bool)(d:Nat)(cs:Array Value):List Field→Sem Unit
 |[]=>pure ()
 |f::fs =>
  if f.name≠ "_" then do
   let a ←part f.type cs f.offset
   Instr.checkKey em d f.type a
   ky em d cs fs
  else ky em d cs fs
theorem uM(em:Bool)(w:World)(d:Nat)(t:TypeId)(cs:Array Value)(fs:Array Field)(ht:P.underlying t=some (.struct fs)) :
  (Instr.checkKey em (d+1) t (.agg cs)).run P w=(ky em d cs fs.toList).run P w:=by
 simp only[Instr.checkKey,Sem.run_bind,run_underlying ht,Result.andThen_ok];rw[←Array.forIn_toList];generalize fs.toList=l;clear ht
 induction l generalizing w with
 |nil=>rfl
 |cons f fs ih =>
  simp only[List.forIn_cons,ky,Sem.run_bind,Sem.run_ite]
  split
  ·generalize (part f.type cs f.offset).run P w=r1
   cases r1 with
   |ok a w1 =>
    simp only[Result.andThen_ok];generalize (Instr.checkKey em d f.type a).run P w1=r2
    cases r2 with
    |ok b w2 =>simp_all
    |halt x w2=>rfl
   |halt x w1=>rfl
  simp_all
theorem La{Z:Nat→Prop}{D d:Nat}(em:Bool)(hg:∀t k,Vb P d t k=true→∀(w:World) (x y:k.T) (u v:Value),VK w Z k x u→VK w Z k y v→(Op.equalIn (D+d) t u v).run P w=.ok (tc k x y) w∧(Instr.checkKey em (D+d) t u).run P w=.ok () w)(w:World)(xs ys:Array Value) :
  ∀(fs:List Field) (off:Nat) (k:K),Bi P (Vb P d) fs off k=true→∀(x y:k.T),aL Z w k x ((xs.toList.drop off).take k.sz)→aL Z w k y ((ys.toList.drop off).take k.sz) →(Op.eqFields (D+d) xs ys fs).run P w=.ok (tc k x y) w∧(ky em (D+d) xs fs).run P w=.ok () w
 |[],_,_,h,_,_,_,_=>by simp[Bi]at h
 |[f],off,k,h,x,y,hx,hy=>by
  have h':f.name≠ "_"∧f.offset=off∧P.cellsOf f.type=k.sz∧Vb P d f.type k=true:=by
   grind [Bi]
  obtain⟨h0,h1,h2,h3⟩:=h';subst h1;obtain⟨u,hu,hu'⟩:=BO h3 h2 hx;obtain⟨v,hv,Bv⟩:=BO h3 h2 hy;obtain⟨e1,e2⟩:=hg _ _ h3 w x y u v hu' Bv;constructor
  ·simp only[Op.eqFields,if_pos h0,Sem.run_bind,hu,hv,e1,Result.andThen_ok]
   cases tc k x y<;>simp
  simp_all [ky]
 |f::f'::r,off,.pair a b,h,x,y,hx,hy=>by
  simp only[Bi,Bool.and_eq_true,decide_eq_true_eq,bne_iff_ne,ne_eq]at h;obtain⟨h0,h1,h2,h3,h4⟩:=h;subst h1;simp only[aL,K.sz]at hx hy;obtain⟨us,ws,ex,Vc,hx2⟩:=hx;obtain⟨jt,ws',ey,hy1,hy2⟩:=hy;have sp:∀(zs:Array Value) (us ws:List Value),us.length=a.sz→ws.length=b.sz→(zs.toList.drop f.offset).take (a.sz+b.sz)=us++ws→us=(zs.toList.drop f.offset).take a.sz∧ws=(zs.toList.drop (f.offset+a.sz)).take b.sz:=fun zs us ws l1 l2 e=>by
   rw[List.take_add,]at e;have hl:((zs.toList.drop f.offset).take a.sz).length=us.length:=by
    have:=congrArg List.length e
    grind
   grind [List.append_inj,List.drop_drop]
  obtain⟨rfl,rfl⟩:=sp xs us ws Vc.len hx2.len ex;obtain⟨rfl,rfl⟩:=sp ys jt ws' hy1.len hy2.len ey;obtain⟨u,hu,hu'⟩:=BO h3 h2 Vc;obtain⟨v,hv,Bv⟩:=BO h3 h2 hy1;obtain⟨e1,e2⟩:=hg _ _ h3 w x.1 y.1 u v hu' Bv;obtain⟨e3,e4⟩:=La em hg w xs ys (f'::r) (f.offset+a.sz) b h4 x.2 y.2 hx2 hy2;constructor
  ·rw[Op.eqFields,if_pos h0];simp only[Sem.run_bind,hu,hv,e1,Result.andThen_ok,Sem.run_ite,e3,tc]
   cases tc a x.1 y.1<;>simp
  ·rw[ky,if_pos h0];simp only[Sem.run_bind,hu,e2,Result.andThen_ok];exact e4
 |f::f'::r,off,.int _,h,_,_,_,_=>by simp[Bi]at h
 |f::f'::r,off,.bool,h,_,_,_,_=>by simp[Bi]at h
 |f::f'::r,off,.str,h,_,_,_,_=>by simp[Bi]at h
 |f::f'::r,off,.sl _,h,_,_,_,_=>by simp[Bi]at h
 |f::f'::r,off,.one _,h,_,_,_,_=>by simp[Bi]at h
 |f::f'::r,off,.mp _ _,h,_,_,_,_=>by simp[Bi]at h
theorem OY{Z:Nat→Prop}(D:Nat)(em:Bool):∀(d:Nat) (t:TypeId) (k:K),Vb P d t k=true→∀(w:World) (x y:k.T) (u v:Value),VK w Z k x u→VK w Z k y v →(Op.equalIn (D+d) t u v).run P w=.ok (tc k x y) w∧(Instr.checkKey em (D+d) t u).run P w=.ok () w
 |0,_,_,h,_,_,_,_,_,_,_=>by simp[Vb]at h
 |d+1,t,k,h,w,x,y,u,v,hu,hv=>by
  rw[←Nat.add_assoc];unfold Vb at h
  split at h
  ·rename_i a b ht;simp only[decide_eq_true_eq]at h;subst h;simp only[VK,aL,List.cons.injEq,and_true]at hu hv;subst hu;subst hv;exact⟨run_equalIn_int w _ _ _ _ _ _ ht,by simp[Instr.checkKey,run_underlying ht]⟩
  ·rename_i ht;simp only[VK,aL,List.cons.injEq,and_true]at hu hv;subst hu;subst hv;exact⟨run_equalIn_bool' w _ _ _ _ ht,by simp[Instr.checkKey,run_underlying ht]⟩
  ·rename_i ht;simp only[VK,aL,List.cons.injEq,and_true]at hu hv;subst hu;subst hv;exact⟨(run_equalIn_string w _ _ _ _ ht).trans (congrArg (fun b=>Result.ok b w) (beq_toListBytes (show ByteArray from x) (show ByteArray from y)).symm),by simp[Instr.checkKey,run_underlying ht]⟩
  ·rename_i fs a b ht;simp only[Bool.and_eq_true,Bool.not_eq_true']at h;obtain⟨hs,hf⟩:=h;obtain⟨xs,rfl,hx⟩:=hu;obtain⟨ys,rfl,hy⟩:=hv;have hfo:P.fieldsOf t=fs:=by simp[Program.fieldsOf,ht]
   have Am:=hx.len;have Fu:=hy.len;obtain⟨e1,e2⟩:=La (D:=D) (Z:=Z) em (fun t k hk w x y u v hu hv=>OY D em d t k hk w x y u v hu hv) w xs ys fs.toList 0 (.pair a b) hf x y (by grind) (by grind)
   grind [run_equalIn_struct,uM]
  ·cases h
theorem Rq{d:Nat}{t:TypeId}{a b:K}(hd:d≤10000)(hk:Vb P d t (.pair a b)=true)(hg:P.eqGuardType P.depth t=false):mA P t (.pair a b):=fun Z w x y xs ys hx hy=>by
 have e:10000-d+d=10000:=by omega
 have key:=fun em=>OY (Z:=Z) (10000-d) em d t (.pair a b) hk w x y (.agg xs) (.agg ys) ⟨xs,rfl,hx⟩ ⟨ys,rfl,hy⟩;rw[e]at key;exact⟨(key true).1,fun op p q=>run_eqGuard_agg w op t p q xs ys hg,fun em=>(key em).2⟩
end Go.Vs
namespace Go.Vs
open Go.Proofs
theorem Vd{f:FuncId}{g:aP}(h:Sg f=some g):(f,g)∈sgs:=by
 unfold Sg at h;obtain⟨p,hp,rfl⟩:=ac1.1 h
 grind
theorem lV:∀f g,Sg f=some g→jK Tryz.prog (f%1000):=fun f g h=>by
 have hm:=Vd h;have key:(sgs.all fun p=>match Tryz.prog.funcs[p.1%1000]? with|some fn => !(fn.name== "runtime.NumGoroutine")&&fn.body.isSome|none=>false)=true:=by kernel_rfl
 have:=ac3.1 key _ hm;simp only at this
 split at this
 ·rename_i fn hf;simp only[Bool.and_eq_true,Bool.not_eq_true']at this;exact⟨fn,hf,this.1,this.2⟩
 ·cases this
theorem ud:Tryz.prog.follows .mixedOrders=true:=by kernel_rfl
theorem DZ:∀t k,Eqs t=some k→mA Tryz.prog t k:=fun t k h=>by
 unfold Eqs at h;obtain⟨p,hp,rfl⟩:=ac1.1 h;have h1:=ac4 hp;have h2:=adn hp;have e:p.1=t:=by simpa using h2
 subst e;simp only[eqs,List.mem_cons,List.not_mem_nil,or_false]at h1;rcases h1 with rfl|rfl|rfl|rfl|rfl|rfl
 all_goals exact Rq (d:=5) (by omega) (by kernel_rfl) (by kernel_rfl)
end Go.Vs
set_option maxRecDepth 1000000
set_option maxHeartbeats 0
namespace Go.Vs
open Go.Proofs
def Yr:aP:={ ps:=[.own],bs:=[.own (.row 38 cZ)],rs:=[.own (.row 38 cZ)] }
def Ys:aP:={ ps:=[.own],bs:=[.own (.row 84 dx)],rs:=[.own (.row 84 dx)] }
def lW:aP:={ ps:=[.agg 2],bs:=[.own (.row 38 cZ),.own (.row 84 dx)],rs:=[.agg [.own (.row 38 cZ),.own (.row 84 dx)]] }
def ue(ty:TypeId)(k:K)(h:Heap)(id:Nat):List AV→Option (Bool×bF)
 |[.bL a]=>match ep h (.row ty k) (.bL a) with
  |some xs=>some (aK 0 xs.length,.new (.bL (id+128)) [(id+128,.own (.row ty k) xs)])
  |_=>none
 |_=>none
def alf:aP:={ ps:=[],bs:=[],rs:=[],x:=some (ue 38 cZ) }
def alg:aP:={ ps:=[],bs:=[],rs:=[],x:=some (ue 84 dx) }
def abH:List (Nat×aP):=[(500109,Yr),(500110,Ys)]
def Sg0(f:FuncId):Option aP:=(abH.find? (fun p=>p.1==f)).map (fun p=>p.2)
def abI:List (Nat×aP):=[(111,Bf),(500083,lW),(500109,alf),(500110,alg)]
def XI(f:FuncId):Option aP:=(abI.find? (fun p=>p.1==f)).map (fun p=>p.2)
def Lb:Shape:=⟨[(14,.int .i64),(15,.int .i64)],[(.slot 2,20000,.box 27 [.own (.row 38 cZ),.own (.row 84 dx)]),(.slot 3,20001,.box 27 [.own (.row 38 cZ),.own (.row 84 dx)])],[(6,1000,(.row 38 (.pair (.pair (.int .i64) (.int .i64)) (.pair (.sl (.pair (.pair (.int .i64) (.int .i64)) (.int .i64))) (.pair .str (.int .i64)))))),(9,1020,(.row 84 (.pair (.pair (.int .i64) (.int .i64)) (.pair .str (.int .i64)))))],[]⟩
def An0(f:FuncId)(key:Nat):Option Shape:=none
def An1(f:FuncId)(key:Nat):Option Shape:=if f=500083 then(if key=3 then some Lb else none) else none
noncomputable def Ve(SG:FuncId→Option aP)(AN:FuncId→Nat→Option Shape)(f:FuncId)(g:aP)(fn:Func)(F:FT)(J:JT g)(x:g.A):Option g.B:=aG Tryz.prog Eqs SG F fn.ntmps (AN f) J (rZ Tryz.prog g fn) fuel [.code (fn.body.getD .skip)] (entry g x)
noncomputable def abK(SG:FuncId→Option aP)(AN:FuncId→Nat→Option Shape)(f j:Nat)(g:aP)(fn:Func)(sh:Shape)(F:FT)(J:JT g)(x:sh.T):Option g.B:=aG Tryz.prog Eqs SG F fn.ntmps (AN f) J (rZ Tryz.prog g fn) fuel (round (aF Tryz.prog (f%1000) j)) (az sh x)
theorem afp(F:FT)(J:JT Yr)(x:(Unit×((List ai)×Unit))):Ve Sg0 An0 500109 Yr Tryz.f109 F J x = cond (List.isEmpty x.2.1) (uH 2 fun(j1:Nat) =>cond ((j1==0)==true) (some ((([]:List ai),()),x.2)) (cond (aK (List.length ([]:List ai)) (List.length x.2.1)) (some (((([]:List ai)++x.2.1),()),x.2)) (none))) (cond (aK (List.length ([]:List ai)) (List.length x.2.1)) (some (((([]:List ai)++x.2.1),()),x.2)) (none)):=by kernel_rfl
theorem afq(F:FT)(J:JT Ys)(x:(Unit×((List ak)×Unit))):Ve Sg0 An0 500110 Ys Tryz.f110 F J x = cond (List.isEmpty x.2.1) (uH 2 fun(j1:Nat) =>cond ((j1==0)==true) (some ((([]:List ak),()),x.2)) (cond (aK (List.length ([]:List ak)) (List.length x.2.1)) (some (((([]:List ak)++x.2.1),()),x.2)) (none))) (cond (aK (List.length ([]:List ak)) (List.length x.2.1)) (some (((([]:List ak)++x.2.1),()),x.2)) (none)):=by kernel_rfl
theorem afr(F:FT)(J:JT Bf)(x:(((List ae)×Unit)×Unit)):Ve XI An1 111 Bf Tryz.f111 F J x = cond (List.isEmpty x.1.1) (uH 2 fun(j1:Nat) =>cond ((j1==0)==true) (some ((([]:List ae),()),())) (cond (aK (List.length ([]:List ae)) (List.length x.1.1)) (some (((([]:List ae)++x.1.1),()),())) (none))) (cond (aK (List.length ([]:List ae)) (List.length x.1.1)) (some (((([]:List ae)++x.1.1),()),())) (none)):=by kernel_rfl
theorem afs(F:FT)(J:JT lW)(x:(Unit×((List ai)×((List ak)×Unit)))):Ve XI An1 500083 lW Tryz.f83 F J x = cond (aK 0 (List.length x.2.1)) (cond (aK 0 (List.length x.2.2.1)) (J Lb (aF Tryz.prog 83 0) (((((List.length x.2.1):Nat):Int),((0:Int),())),(((([]:List ai),(([]:List ak),())),((x.2.1,x.2.2),())),(x.2.1,x.2.2)))) (none)) (none):=by kernel_rfl
theorem OZ(F:FT)(J:JT lW)(x:((Int×(Int×Unit))×((((List ai)×((List ak)×Unit))×(((List ai)×((List ak)×Unit))×Unit))×((List ai)×((List ak)×Unit))))):abK XI An1 500083 0 lW Tryz.f83 Lb F J x = cond (decide (x.1.2.1<x.1.1)) (cond ((decide ((0:Int)≤x.1.2.1))&&(decide (x.1.2.1<(((List.length x.2.1.2.1.1):Nat):Int)))) (((x.2.1.2.1.1)[(Int.toNat x.1.2.1)]?).bind fun(y1:ai) =>(F 111 Bf ((y1.2.1,()),())).bind fun(y2:(((List ae)×Unit)×Unit)) =>cond ((decide ((0:Int)≤x.1.2.1))&&(decide (x.1.2.1<(((List.length x.2.1.2.1.1):Nat):Int)))) (((x.2.1.2.1.1)[(Int.toNat x.1.2.1)]?).bind fun(y3:ai) =>J Lb (aF Tryz.prog 83 0) ((x.1.1,((IntKind.wrap .i64 (x.1.2.1+(1:Int))),())),(((x.2.1.1.1,x.2.1.1.2),(((List.set x.2.1.2.1.1 (Int.toNat x.1.2.1) (y3.1,(y2.1.1,y3.2.2))),x.2.1.2.1.2),())),(x.2.2.1,x.2.2.2)))) (none)) (none)) (some (((x.2.1.2.1.1,x.2.1.2.1.2),()),(x.2.2.1,x.2.2.2))):=by kernel_rfl
end Go.Vs
namespace Go.Vs
open Go.Proofs
variable {P:Program}
theorem vg{f:FuncId}{ty:TypeId}{k:K}(hf:f%1000=f)(hc:∀(xs:List k.T),aK 0 xs.length=true→Gs P f ⟨[.own],[.own (.row ty k)],[.own (.row ty k)],none⟩ ((),(xs,())) ((xs,()),(xs,()))):ia P f (ue ty k):=by
 intro Z ψ h w B0 O N hh id e vs us g hB bz hN bu nq tz CA he;unfold ue at he
 split at he
 rotate_left
 ·cases he
 rename_i a
 split at he
 rotate_left
 ·cases he
 rename_i xs Cl;simp only[Option.some.injEq,Prod.mk.injEq]at he;obtain⟨kM,rfl⟩:=he;have ha:h a=some (.own (.row ty k) xs):=bz _ _ (kl Cl);have O0:h a≠none:=by rw[ha];simp
 simp only[ax,aC]at tz;obtain⟨v1,_,rfl,⟨_,yI⟩,rfl⟩:=tz;have yI:=yI O0;subst yI;simp only[aD,aM]at CA;have nR0:N (id+128):=hN 128 (by omega);have na:¬N a:=CA.1;have a0:a≠id+128:=fun e=>na (e▸nR0)
 let ψ0:Nat→Value:=fun i=>if i=1000 then ψ a else ψ i
 have p0:ψ0 1000=ψ a:=if_pos rfl
 let g0:aP:=⟨[.own],[.own (.row ty k)],[.own (.row ty k)],none⟩
 have tM:rh g0 ((),(xs,()))=Heap.get [(1000,.own (.row ty k) xs)]:=rfl;have i0:rh g0 ((),(xs,())) 1000=some (.own (.row ty k) xs):=rfl;have iN:∀i,rh g0 ((),(xs,())) i≠none→i=1000:=fun i hi=>by simp_all [Heap.get,Ne.symm]
 have oin:∀q,Own ψ0 (rh g0 ((),(xs,()))) q→ob (ψ a)=some q:=fun q ⟨i,h1,h2⟩=>by simp_all
 have oh:∀q,Own ψ0 (rh g0 ((),(xs,()))) q→Own ψ h q:=fun q hq=>⟨a,O0,oin q hq⟩;have G0:Good Z ψ0 (rh g0 ((),(xs,()))) w w.heap.size (Own ψ0 (rh g0 ((),(xs,())))):=by
  refine⟨fun i ty cs k=>?_,fun i ok x k=>?_,fun i q h1 h2=>⟨fun hz=>?_,.inr ⟨i,h1,h2⟩⟩,fun i j q h1 h2 h3 h4=>?_,g.kg⟩
  ·grind
  ·have:=iN i (by rw[k];simp);subst this;rw[i0]at k;cases k;rw[p0];exact g.row a _ _ ha
  ·have:=iN i h1;subst this;rw[p0]at h2;exact(g.live a q O0 h2).1 hz
  grind
 have c0:(ψ a).cells=#[ψ a]∧(ψ a).oneCell'=true:=(g.row a _ _ ha).one;have R0:ax Z ψ0 (rh g0 ((),(xs,()))) w (HZ g0 ((),(xs,()))) [ψ a]:=by
  show ax Z ψ0 (rh g0 ((),(xs,()))) w [.bL 1000] [ψ a];simp only[ax,aC]
  grind
 have S7:=hc xs kM Z ψ0 w [ψ a] G0 R0;rw[hf]at S7;refine S7.mono fun en w' ⟨V,Z',ψ',e1,zs,zf,kp,gd,bM,hr⟩=>?_;have q0:ψ' 1000=ψ a:=(bM 1000 (by show 1000∈[1000];simp)).trans p0;have o0:(kW g0 ((xs,()),(xs,()))).get 1000=some (.own (.row ty k) xs):=rfl;have o2:(kW g0 ((xs,()),(xs,()))).get 3000=some (.own (.row ty k) xs):=rfl;have gd:Good Z' ψ' (kW g0 ((xs,()),(xs,()))).get w' w.heap.size (Own ψ0 (rh g0 ((),(xs,())))):=gd;have hr:aC Z' ψ' (kW g0 ((xs,()),(xs,()))).get w' (.bL 3000) V:=hr;generalize (kW g0 ((xs,()),(xs,()))).get=out at *;have keep:cP ψ h w w':=⟨kp.os,kp.tape,kp.output,kp.size,fun q hq hn=>kp.block q hq fun ho=>hn (oh q ho)⟩;have sm:cw Z w w':=keep.same g;have cH:∀i q,i≠a→h i≠none→ob (ψ i)=some q→w'.heap[q]? = w.heap[q]? := fun i q k1 h1 h2 =>kp.block q (g.bP ⟨i,h1,h2⟩) fun ho=>k1 (g.apart i a q h1 O0 h2 (oin q ho))
 let eE:Nat→Value:=fun i=>if i=id+128 then ψ' 3000 else ψ i
 let H:Hp:=(bF.new (.bL (id+128)) [(id+128,.own (.row ty k) xs)]).hp h
 have s0:eE (id+128)=ψ' 3000:=if_pos rfl;have sn:∀i,i≠id+128→eE i=ψ i:=fun i k1=>if_neg k1;have H0:H (id+128)=some (.own (.row ty k) xs):=by grind [bF.hp,Heap.get]
 have Hn:∀i,i≠id+128→H i=h i:=fun i k1=>by show(bF.hp h _) _=_;simp[bF.hp,Heap.get,Ne.symm k1]
 have two:∀q,ob (ψ' 3000)=some q→¬Z' q∧(w.heap.size≤q∨ob (ψ a)=some q):=fun q h2=>by
  obtain⟨h3,h4⟩:=gd.live 3000 q (by rw[o2];simp) h2
  grind
 have one:∀q,ob (ψ a)=some q→¬Z' q:=fun q h2=>(gd.live 1000 q (by rw[o0];simp) (by grind)).1;have Yt:∀q,ob (ψ' 3000)=some q→ob (ψ a)=some q→False:=fun q h2 h3=>by have:=gd.apart 3000 1000 q (by rw[o2];simp) (by rw[o0];simp) h2 (by grind);omega
 have fresh:∀q,ob (ψ' 3000)=some q→w.heap.size≤q:=fun q h2=>(two q h2).2.resolve_right (Yt q h2);have ids:∀i,H i≠none→(h i≠none∧eE i=ψ i)∨N i:=fun i hi=>by
  grind
 have live:∀i q,i≠id+128→h i≠none→ob (ψ i)=some q→¬Z' q:=fun i q k1 h1 h2 hz=>by
  by_cases k3:i=a
  ·grind
  rcases zf q hz with k|k|k
  ·exact(g.live i q h1 h2).1 k
  ·grind
  ·have:=g.bP ⟨i,h1,h2⟩;omega
 refine⟨V,Z',eE,e1,⟨zs,fun q hq=>(zf q hq).imp (fun h=>h) fun k=>k.imp (oh q) fun h=>h,keep,ids,⟨fun i Js cs k=>?_,fun i ok x k=>?_,fun i q h1 h2=>?_,fun i j q h1 h2 h3 h4=>?_,gd.kg⟩⟩,?_⟩
 ·have k1:i≠id+128:=fun e=>by grind
  have k3:i≠a:=fun e=>by grind
  have rC:h i=some (.box Js cs):=(Hn i k1).symm.trans k;obtain⟨gg,vs,f1,f2,f3,f4⟩:=g.box i Js cs rC;exact⟨gg,vs,(sn i k1).trans f1,(cH i gg k3 (by rw[rC];simp) (by rw[f1];rfl)).trans f2,f3.move zs sm (fun j hj bw=>(ids j bw).resolve_right hj) (bu i Js cs rC),f4⟩
 ·by_cases k1:i=id+128
  ·subst k1;have k:H (id+128)=some (.own ok x):=k;rw[H0]at k;cases k;rw[s0];exact gd.row 3000 _ _ o2
  have rC:h i=some (.own ok x):=(Hn i k1).symm.trans k;rw[sn i k1];by_cases k3:i=a
  ·subst k3;rw[ha]at rC;cases rC;rw[←q0];exact gd.row 1000 _ _ o0
  exact(g.row i ok x rC).kept zs sm fun q hq=>cH i q k3 (by rw[rC];simp) hq
 ·by_cases k1:i=id+128
  ·grind
  ·have h1:h i≠none:=by grind
   rw[sn i k1]at h2;exact⟨live i q k1 h1 h2,(g.live i q h1 h2).2⟩
 ·have lt:∀j,j≠id+128→H j≠none→ob (eE j)=some q→q<w.heap.size:=fun j k1 k2 k3=>by rw[Hn j k1]at k2;rw[sn j k1]at k3;exact g.bP ⟨j,k2,k3⟩
  by_cases k1:i=id+128<;>by_cases k2:j=id+128
  ·omega
  ·grind
  ·grind
  ·rw[sn i k1]at h3;rw[sn j k2]at h4;exact g.apart i j q (by grind) (by grind) h3 h4
 ·simp only[aC]at hr;show aC Z' eE H w' (.bL (id+128)) V
  grind [aC,trans]
theorem IL(hc:∀(xs:List cZ.T) (ys:List dx.T),qA xs ys=true→Gs P 83 lW ((),(xs,(ys,()))) (((xs,(ys,())),()),(xs,(ys,())))):ia P 83 Ij:=by
 intro Z ψ h w B0 O N hh id e vs us g hB bz hN bu nq tz CA he;unfold Ij at he
 split at he
 rotate_left
 ·cases he
 rename_i a b
 split at he
 rotate_left
 ·cases he
 rename_i xs ys Cl Qw
 split at he
 ·cases he
 rename_i rm;simp only[Option.some.injEq,Prod.mk.injEq]at he;obtain⟨kM,rfl⟩:=he;have ha:h a=some (.own (.row 38 cZ) xs):=bz _ _ (kl Cl);have hb:h b=some (.own (.row 84 dx) ys):=bz _ _ (kl Qw);have O0:h a≠none:=by rw[ha];simp
 have Mi:h b≠none:=by rw[hb];simp
 simp only[ax,aC]at tz;obtain⟨v,_,rfl,⟨cs,rfl,v1,_,Mx,⟨_,yI⟩,v2,_,rfl,⟨_,Bu⟩,rfl⟩,rfl⟩:=tz;have yI:=yI O0;have Bu:=Bu Mi;subst yI Bu;simp only[aD,aM]at CA;have nR0:N (id+128):=hN 128 (by omega);have nR1:N (id+129):=hN 129 (by omega);have na:¬N a:=CA.1.1;have nb:¬N b:=CA.1.2.1;have a0:a≠id+128:=fun e=>na (e▸nR0);have a1:a≠id+129:=fun e=>na (e▸nR1);have b0:b≠id+128:=fun e=>nb (e▸nR0);have b1:b≠id+129:=fun e=>nb (e▸nR1)
 let ψ0:Nat→Value:=fun i=>if i=1000 then ψ a else if i=1020 then ψ b else ψ i
 have p0:ψ0 1000=ψ a:=if_pos rfl;have p1:ψ0 1020=ψ b:=(if_neg (by decide)).trans (if_pos rfl);have tM:rh lW ((),(xs,(ys,())))=Heap.get [(1000,.own (.row 38 cZ) xs),(1020,.own (.row 84 dx) ys)]:=rfl;have i0:rh lW ((),(xs,(ys,()))) 1000=some (.own (.row 38 cZ) xs):=rfl;have i1:rh lW ((),(xs,(ys,()))) 1020=some (.own (.row 84 dx) ys):=rfl;have iN:∀i,rh lW ((),(xs,(ys,()))) i≠none→i=1000∨i=1020:=fun i hi=>by
  by_cases e0:i=1000
  ·exact .inl e0
  by_cases e1:i=1020
  ·exact .inr e1
  rw[tM]at hi;simp[Heap.get,Ne.symm e0,Ne.symm e1]at hi
 have oin:∀q,Own ψ0 (rh lW ((),(xs,(ys,())))) q→ob (ψ a)=some q∨ob (ψ b)=some q:=fun q ⟨i,h1,h2⟩=>by
  rcases iN i h1 with rfl|rfl
  ·exact .inl (by rw[←p0];exact h2)
  ·exact .inr (by rw[←p1];exact h2)
 have oh:∀q,Own ψ0 (rh lW ((),(xs,(ys,())))) q→Own ψ h q:=fun q hq=>(oin q hq).elim (fun k=>⟨a,O0,k⟩) fun k=>⟨b,Mi,k⟩;have G0:Good Z ψ0 (rh lW ((),(xs,(ys,())))) w w.heap.size (Own ψ0 (rh lW ((),(xs,(ys,()))))):=by
  refine⟨fun i ty cs k=>?_,fun i ok x k=>?_,fun i q h1 h2=>⟨fun hz=>?_,.inr ⟨i,h1,h2⟩⟩,fun i j q h1 h2 h3 h4=>?_,g.kg⟩
  ·rcases iN i (by rw[k];simp) with rfl|rfl
   ·rw[i0]at k;cases k
   ·rw[i1]at k;cases k
  ·rcases iN i (by rw[k];simp) with rfl|rfl
   ·rw[i0]at k;cases k;rw[p0];exact g.row a _ _ ha
   ·rw[i1]at k;cases k;rw[p1];exact g.row b _ _ hb
  ·rcases iN i h1 with rfl|rfl
   ·rw[p0]at h2;exact(g.live a q O0 h2).1 hz
   ·rw[p1]at h2;exact(g.live b q Mi h2).1 hz
  ·rcases iN i h1 with rfl|rfl<;>rcases iN j h2 with rfl|rfl
   ·rfl
   ·rw[p0]at h3;rw[p1]at h4;exact absurd (g.apart a b q O0 Mi h3 h4) rm
   ·rw[p1]at h3;rw[p0]at h4;exact absurd (g.apart a b q O0 Mi h4 h3) rm
   ·rfl
 have c0:(ψ a).cells=#[ψ a]∧(ψ a).oneCell'=true:=(g.row a _ _ ha).one;have c1:(ψ b).cells=#[ψ b]∧(ψ b).oneCell'=true:=(g.row b _ _ hb).one;have R0:ax Z ψ0 (rh lW ((),(xs,(ys,())))) w (HZ lW ((),(xs,(ys,())))) [.agg cs]:=by show ax Z ψ0 (rh lW ((),(xs,(ys,())))) w [.agg [.bL 1000,.bL 1020]] [.agg cs];simp only[ax,aC];exact⟨.agg cs,[],rfl,⟨cs,rfl,ψ a,[ψ b],Mx,⟨c0,fun _=>p0.symm⟩,ψ b,[],rfl,⟨c1,fun _=>p1.symm⟩,rfl⟩,rfl⟩
 refine(hc xs ys kM Z ψ0 w [.agg cs] G0 R0).mono fun en w' ⟨V,Z',ψ',e1,zs,zf,kp,gd,bM,hr⟩=>?_;have q0:ψ' 1000=ψ a:=(bM 1000 (by show 1000∈[1000,1020];simp)).trans p0;have q1:ψ' 1020=ψ b:=(bM 1020 (by show 1020∈[1000,1020];simp)).trans p1;have o0:(kW lW (((xs,(ys,())),()),(xs,(ys,())))).get 1000=some (.own (.row 38 cZ) xs):=rfl;have o1:(kW lW (((xs,(ys,())),()),(xs,(ys,())))).get 1020=some (.own (.row 84 dx) ys):=rfl;have o2:(kW lW (((xs,(ys,())),()),(xs,(ys,())))).get 3000=some (.own (.row 38 cZ) xs):=rfl;have o3:(kW lW (((xs,(ys,())),()),(xs,(ys,())))).get 3001=some (.own (.row 84 dx) ys):=rfl;generalize (kW lW (((xs,(ys,())),()),(xs,(ys,())))).get=out at *;have keep:cP ψ h w w':=⟨kp.os,kp.tape,kp.output,kp.size,fun q hq hn=>kp.block q hq fun ho=>hn (oh q ho)⟩;have sm:cw Z w w':=keep.same g;have cH:∀i q,i≠a→i≠b→h i≠none→ob (ψ i)=some q→w'.heap[q]? = w.heap[q]? := fun i q k1 k2 h1 h2 =>kp.block q (g.bP ⟨i,h1,h2⟩) fun ho=>(oin q ho).elim (fun k=>k1 (g.apart i a q h1 O0 h2 k)) fun k=>k2 (g.apart i b q h1 Mi h2 k)
 let κ:Nat→Nat:=fun i=>if i=id+128 then 3000 else if i=id+129 then 3001 else if i=a then 1000 else 1020
 let XJ:Nat→Prop:=fun i=>i=id+128∨i=id+129∨i=a∨i=b
 let eE:Nat→Value:=fun i=>if i=id+128 then ψ' 3000 else if i=id+129 then ψ' 3001 else ψ i
 let H:Hp:=(bF.new (.agg [.bL (id+128),.bL (id+129)]) [(id+128,.own (.row 38 cZ) xs),(id+129,.own (.row 84 dx) ys)]).hp h
 have s0:eE (id+128)=ψ' 3000:=if_pos rfl;have s1:eE (id+129)=ψ' 3001:=(if_neg (by omega)).trans (if_pos rfl);have sn:∀i,i≠id+128→i≠id+129→eE i=ψ i:=fun i k1 k2=>(if_neg k1).trans (if_neg k2);have H0:H (id+128)=some (.own (.row 38 cZ) xs):=by show(bF.hp h _) _=_;simp[bF.hp,Heap.get]
 have H1:H (id+129)=some (.own (.row 84 dx) ys):=by show(bF.hp h _) _=_;simp[bF.hp,Heap.get]
 have Hn:∀i,i≠id+128→i≠id+129→H i=h i:=fun i k1 k2=>by show(bF.hp h _) _=_;simp[bF.hp,Heap.get,Ne.symm k1,Ne.symm k2]
 have Ha:H a=some (.own (.row 38 cZ) xs):=(Hn a a0 a1).trans ha;have Hb:H b=some (.own (.row 84 dx) ys):=(Hn b b0 b1).trans hb;have kap:∀i,XJ i→out (κ i)≠none∧ψ' (κ i)=eE i:=fun i hi=>by
  rcases hi with rfl|rfl|rfl|rfl
  ·have:κ (id+128)=3000:=if_pos rfl;rw[this,o2,s0];exact⟨by simp,rfl⟩
  ·have:κ (id+129)=3001:=(if_neg (by omega)).trans (if_pos rfl);rw[this,o3,s1];exact⟨by simp,rfl⟩
  ·have:κ i=1000:=(if_neg a0).trans ((if_neg a1).trans (if_pos rfl));rw[this,o0,q0,sn i a0 a1];exact⟨by simp,rfl⟩
  ·have:κ i=1020:=(if_neg b0).trans ((if_neg b1).trans (if_neg (fun k=>rm k.symm)));rw[this,o1,q1,sn i b0 b1];exact⟨by simp,rfl⟩
 have alj:∀i j,XJ i→XJ j→κ i=κ j→i=j:=fun i j hi hj hk=>by have v1:κ (id+128)=3000:=if_pos rfl;have v2:κ (id+129)=3001:=(if_neg (by omega)).trans (if_pos rfl);have v3:κ a=1000:=(if_neg a0).trans ((if_neg a1).trans (if_pos rfl));have v4:κ b=1020:=(if_neg b0).trans ((if_neg b1).trans (if_neg (fun k=>rm k.symm)));rcases hi with rfl|rfl|rfl|rfl<;>rcases hj with rfl|rfl|rfl|rfl<;>first|rfl|(rw[v1]at hk;first|(rw[v2]at hk;cases hk)|(rw[v3]at hk;cases hk)|(rw[v4]at hk;cases hk))|(rw[v2]at hk;first|(rw[v1]at hk;cases hk)|(rw[v3]at hk;cases hk)|(rw[v4]at hk;cases hk))|(rw[v3,v4]at hk;cases hk)|(rw[v4,v3]at hk;cases hk)
 have back:∀i q,XJ i→ob (eE i)=some q→¬Z' q∧(w.heap.size≤q∨ob (ψ a)=some q∨ob (ψ b)=some q):=fun i q hi h2=>by obtain⟨k1,k2⟩:=kap i hi;rw[←k2]at h2;obtain⟨h3,h4⟩:=gd.live (κ i) q k1 h2;exact⟨h3,h4.imp (fun h=>h) (oin q)⟩
 have rest:∀i,¬XJ i→i≠id+128∧i≠id+129∧i≠a∧i≠b:=fun i hi=>⟨fun k=>hi (.inl k),fun k=>hi (.inr (.inl k)),fun k=>hi (.inr (.inr (.inl k))),fun k=>hi (.inr (.inr (.inr k)))⟩;have mixed:∀i j q,XJ i→¬XJ j→h j≠none→ob (eE i)=some q→ob (ψ j)=some q→False:=fun i j q hi hj h2 h3 h4=>by
  obtain⟨_,_,k3,k4⟩:=rest j hj;rcases (back i q hi h3).2 with k|k|k
  ·have:=g.bP ⟨j,h2,h4⟩;omega
  ·exact k3 (g.apart j a q h2 O0 h4 k)
  ·exact k4 (g.apart j b q h2 Mi h4 k)
 have ids:∀i,H i≠none→(h i≠none∧eE i=ψ i)∨N i:=fun i hi=>by
  by_cases k1:i=id+128
  ·exact .inr (k1▸nR0)
  by_cases k2:i=id+129
  ·exact .inr (k2▸nR1)
  ·rw[Hn i k1 k2]at hi;exact .inl ⟨hi,sn i k1 k2⟩
 refine⟨V,Z',eE,e1,⟨zs,fun q hq=>(zf q hq).imp (fun h=>h) fun k=>k.imp (oh q) fun h=>h,keep,ids,⟨fun i ty cs k=>?_,fun i ok x k=>?_,fun i q h1 h2=>?_,fun i j q h1 h2 h3 h4=>?_,gd.kg⟩⟩,?_⟩
 ·have k1:i≠id+128:=fun e=>by rw[e]at k;have k:H (id+128)=some (.box ty cs):=k;rw[H0]at k;cases k
  have k2:i≠id+129:=fun e=>by rw[e]at k;have k:H (id+129)=some (.box ty cs):=k;rw[H1]at k;cases k
  have k3:i≠a:=fun e=>by rw[e]at k;have k:H a=some (.box ty cs):=k;rw[Ha]at k;cases k
  have k4:i≠b:=fun e=>by rw[e]at k;have k:H b=some (.box ty cs):=k;rw[Hb]at k;cases k
  have rC:h i=some (.box ty cs):=(Hn i k1 k2).symm.trans k;obtain⟨gg,vs,f1,f2,f3,f4⟩:=g.box i ty cs rC;exact⟨gg,vs,(sn i k1 k2).trans f1,(cH i gg k3 k4 (by rw[rC];simp) (by rw[f1];rfl)).trans f2,f3.move zs sm (fun j hj bw=>(ids j bw).resolve_right hj) (bu i ty cs rC),f4⟩
 ·by_cases k1:i=id+128
  ·subst k1;have k:H (id+128)=some (.own ok x):=k;rw[H0]at k;cases k;rw[s0];exact gd.row 3000 _ _ o2
  by_cases k2:i=id+129
  ·subst k2;have k:H (id+129)=some (.own ok x):=k;rw[H1]at k;cases k;rw[s1];exact gd.row 3001 _ _ o3
  have rC:h i=some (.own ok x):=(Hn i k1 k2).symm.trans k;rw[sn i k1 k2];by_cases k3:i=a
  ·subst k3;rw[ha]at rC;cases rC;rw[←q0];exact gd.row 1000 _ _ o0
  by_cases k4:i=b
  ·subst k4;rw[hb]at rC;cases rC;rw[←q1];exact gd.row 1020 _ _ o1
  exact(g.row i ok x rC).kept zs sm fun q hq=>cH i q k3 k4 (by rw[rC];simp) hq
 ·by_cases h4:XJ i
  ·obtain⟨k1,k2⟩:=back i q h4 h2;refine⟨k1,?_⟩;rcases k2 with k|k|k
   ·exact .inl (acY hB k)
   ·exact(g.live a q O0 k).2
   ·exact(g.live b q Mi k).2
  ·obtain⟨r1,r2,r3,r4⟩:=rest i h4;have h1:h i≠none:=by rw[←Hn i r1 r2];exact h1
   rw[sn i r1 r2]at h2;refine⟨fun hz=>?_,(g.live i q h1 h2).2⟩;rcases zf q hz with k|k|k
   ·exact(g.live i q h1 h2).1 k
   ·rcases oin q k with k|k
    ·exact r3 (g.apart i a q h1 O0 h2 k)
    ·exact r4 (g.apart i b q h1 Mi h2 k)
   ·have:=g.bP ⟨i,h1,h2⟩;omega
 ·by_cases hi:XJ i<;>by_cases hj:XJ j
  ·obtain⟨k1,k2⟩:=kap i hi;obtain⟨k3,k4⟩:=kap j hj;rw[←k2]at h3;rw[←k4]at h4;exact alj i j hi hj (gd.apart _ _ q k1 k3 h3 h4)
  ·obtain⟨r1,r2,r3,r4⟩:=rest j hj;rw[sn j r1 r2]at h4;exact(mixed i j q hi hj (by rw[←Hn j r1 r2];exact h2) h3 h4).elim
  ·obtain⟨r1,r2,r3,r4⟩:=rest i hi;rw[sn i r1 r2]at h3;exact(mixed j i q hj hi (by rw[←Hn i r1 r2];exact h1) h4 h3).elim
  ·obtain⟨r1,r2,_,_⟩:=rest i hi;obtain⟨t1,t2,_,_⟩:=rest j hj;rw[sn i r1 r2]at h3;rw[sn j t1 t2]at h4;exact g.apart i j q (by rw[←Hn i r1 r2];exact h1) (by rw[←Hn j t1 t2];exact h2) h3 h4
 ·have hr:aC Z' ψ' out w' (.agg [.bL 3000,.bL 3001]) V:=hr;simp only[aC,ax]at hr;obtain⟨vs,rfl,u1,_,tz,⟨d1,d2⟩,u2,_,rfl,⟨d3,d4⟩,rfl⟩:=hr;show aC Z' eE H w' (.agg [.bL (id+128),.bL (id+129)]) (.agg vs);simp only[aC,ax];exact⟨vs,rfl,u1,[u2],tz,⟨d1,fun _=>(d2 (by rw[o2];simp)).trans s0.symm⟩,u2,[],rfl,⟨d3,fun _=>(d4 (by rw[o3];simp)).trans s1.symm⟩,rfl⟩
end Go.Vs
namespace Go.Vs
open Go.Proofs
abbrev Yu:(f:FuncId)→(g:aP)→Option (g.A→Option g.B):=fun _ _=>none
section
variable (SG:FuncId→Option aP) (AN:FuncId→Nat→Option Shape)
noncomputable abbrev Yv:FT:=Fix Tryz.prog Eqs SG AN Yu
noncomputable abbrev LXG(f:FuncId)(g:aP)(fn:Func):JT g:=Lp Tryz.prog Eqs SG AN Yu f g fn
end
theorem IM{SG:FuncId→Option aP}{AN:FuncId→Nat→Option Shape}{f:FuncId}{g:aP}{fn:Func}{x:g.A}{y:g.B}(hb:body Tryz.prog (f%1000)=some (fn,fn.body.getD .skip))(hc:(decide (g.ps.length≤fn.ntmps)&&decide (g.bs.length≤8))=true) (h:Ve SG AN f g fn (Yv SG AN) (LXG SG AN f g fn) x=some y):Yv SG AN f g x=some y:=Ot rfl hb hc h
theorem Vf{SG:FuncId→Option aP}{AN:FuncId→Nat→Option Shape}{f j:Nat}{g:aP}{fn:Func}{sh:Shape}{x:sh.T}{y:g.B}(hs:(match aF Tryz.prog (f%1000) j with | .inLoop _::_=>true|_=>false)=true)
  (h:abK SG AN f j g fn sh (Yv SG AN) (LXG SG AN f g fn) x=some y):LXG SG AN f g fn sh (aF Tryz.prog (f%1000) j) x=some y:=by
 unfold abK at h;generalize aF Tryz.prog (f%1000) j=s at hs h ⊢
 split at hs
 ·exact TQ h
 ·cases hs
theorem Vg{α β:Type}{o:Option α}{f:α→Option β}{a:α}{r:Option β}(h:o=some a)(k:f a=r):o.bind f=r:=by simp_all
theorem D0{α:Type}{c:Bool}{x y r:α}(h:c=true)(k:x=r):cond c x y=r:=by simp_all
theorem Yw{α:Type}{c:Bool}{x y r:α}(h:c=false)(k:y=r):cond c x y=r:=by simp_all
theorem Vh{R:Type}{f:Nat→Option R}{r:R}(h0:f 0=some r)(h1:f 1=some r):uH 2 f=some r :=nO (by omega) fun j hj=>by
  grind
theorem afu(xs:List ai)(h:aK 0 xs.length=true):Yv Sg0 An0 500109 Yr ((),(xs,()))=some ((xs,()),(xs,())):=by
 refine IM (fn:=Tryz.f109) (by kernel_rfl) (by kernel_rfl) ((afp _ _ _).trans ?_)
 cases xs with
 |nil=>exact D0 rfl (Vh rfl rfl)
 |cons x r=>exact Yw rfl (D0 h rfl)
theorem afv(xs:List ak)(h:aK 0 xs.length=true):Yv Sg0 An0 500110 Ys ((),(xs,()))=some ((xs,()),(xs,())):=by
 refine IM (fn:=Tryz.f110) (by kernel_rfl) (by kernel_rfl) ((afq _ _ _).trans ?_)
 cases xs with
 |nil=>exact D0 rfl (Vh rfl rfl)
 |cons x r=>exact Yw rfl (D0 h rfl)
theorem O2{f:FuncId}{g:aP}(h:Sg0 f=some g):(f,g)∈abH:=by
 unfold Sg0 at h;obtain⟨p,hp,rfl⟩:=ac1.1 h
 grind
theorem O3{f:FuncId}{g:aP}(h:XI f=some g):(f,g)∈abI:=by
 unfold XI at h;obtain⟨p,hp,rfl⟩:=ac1.1 h
 grind
noncomputable def Vi(l:List (Nat×aP)):Bool:=l.all fun p=>match Tryz.prog.funcs[p.1%1000]? with|some fn => !(fn.name== "runtime.NumGoroutine")&&fn.body.isSome|none=>false
theorem IN{l:List (Nat×aP)}(key:Vi l=true){f:FuncId}{g:aP}(hm:(f,g)∈l):jK Tryz.prog (f%1000):=by
 have:=ac3.1 key _ hm;simp only at this
 split at this
 ·rename_i fn hf;simp only[Bool.and_eq_true,Bool.not_eq_true']at this;exact⟨fn,hf,this.1,this.2⟩
 ·cases this
theorem afw{f:FuncId}{g:aP}{x:g.A}{y:g.B}(hs:Sg0 f=some g)(h:Yv Sg0 An0 f g x=some y):Gs Tryz.prog f g x y :=BI (fun f g u hf hu=>by have hm:=O2 hf;simp only[abH,List.mem_cons,List.not_mem_nil,or_false,Prod.mk.injEq]at hm;rcases hm with⟨_,rfl⟩|⟨_,rfl⟩<;>cases hu) DZ (fun f g hf=>IN (by kernel_rfl) (O2 hf)) ud (fun f g u x y _ hu _=>by cases hu) hs h
theorem Yx:ia Tryz.prog 109 (ue 38 cZ):=vg rfl fun xs h=>by have:=afw (by kernel_rfl) (afu xs h);exact this
theorem Yy:ia Tryz.prog 110 (ue 84 dx):=vg rfl fun xs h=>by have:=afw (by kernel_rfl) (afv xs h);exact this
theorem afx(l:List ae)(hl:l.length≤50000000):Yv XI An1 111 Bf ((l,()),())=some ((l,()),()):=by
 refine IM (fn:=Tryz.f111) (by kernel_rfl) (by kernel_rfl) ((afr _ _ _).trans ?_)
 cases l with
 |nil=>exact D0 rfl (Vh rfl rfl)
 |cons x r=>exact Yw rfl (D0 (decide_eq_true (show 0+(x::r).length≤1073741824 by omega)) rfl)
theorem Vj{i n:Nat}(h:i<n)(hn:n≤50000000):IntKind.wrap .i64 ((i:Int)+1)=((i+1:Nat):Int):=by
 grind [IntKind.wrap,IntKind.bits,IntKind.signed]
theorem afy(xs:List ai)(ys:List ak)(h:qA xs ys=true):Yv XI An1 500083 lW ((),(xs,(ys,())))=some (((xs,(ys,())),()),(xs,(ys,()))):=by
 unfold qA at h;simp only[Bool.and_eq_true,decide_eq_true_eq,List.all_eq_true]at h;obtain⟨hx,hy,hr⟩:=h;refine IM (fn:=Tryz.f83) (by kernel_rfl) (by kernel_rfl) ((afs _ _ _).trans ?_);refine D0 (decide_eq_true (show 0+xs.length≤1073741824 by omega)) (D0 (decide_eq_true (show 0+ys.length≤1073741824 by omega)) ?_);have loop:∀(n i:Nat) (out:List ai),i+n=xs.length→out=xs→LXG XI An1 500083 lW Tryz.f83 Lb (aF Tryz.prog 83 0) ((((xs.length:Nat):Int),((i:Int),())),(((([]:List ai),(([]:List ak),())),((out,(ys,())),())),(xs,(ys,()))))=some (((xs,(ys,())),()),(xs,(ys,()))):=by
  intro n
  induction n with
  |zero =>intro i out hi ho;subst ho;refine Vf (j:=0) (by kernel_rfl) ((OZ _ _ _).trans ?_);exact Yw (decide_eq_false (show ¬((i:Int)<((out.length:Nat):Int)) by omega)) rfl
  |succ n ih =>
   intro i out hi ho;have aH:i<xs.length:=by omega
   have Vc:out[i]? = some xs[i]:=by simp_all
   have hol:out.length=xs.length:=by rw[ho]
   have c1:(decide ((0:Int)≤(i:Int))&&decide ((i:Int)<((out.length:Nat):Int)))=true:=by simp_all
   refine Vf (j:=0) (by kernel_rfl) ((OZ _ _ _).trans ?_);refine D0 (decide_eq_true (show((i:Int)<((xs.length:Nat):Int)) by omega)) (D0 c1 (Vg Vc ?_));refine Vg (afx xs[i].2.1 (hr _ (acv aH))) ?_;refine D0 c1 (Vg Vc ?_);have hs:out.set i (xs[i].1,(xs[i].2.1,xs[i].2.2))=xs:=by
    grind [List.set_getElem_self]
   have:=ih (i+1) (out.set i (xs[i].1,(xs[i].2.1,xs[i].2.2))) (by omega) hs;rw[←Vj aH hx]at this;exact this
 exact loop xs.length 0 xs (by omega) rfl
theorem alk{f:FuncId}{g:aP}{x:g.A}{y:g.B}(hs:XI f=some g)(h:Yv XI An1 f g x=some y):Gs Tryz.prog f g x y :=BI (fun f g u hf hu=>by
  have hm:=O3 hf;simp only[abI,List.mem_cons,List.not_mem_nil,or_false,Prod.mk.injEq]at hm;rcases hm with⟨_,rfl⟩|⟨_,rfl⟩|⟨rfl,rfl⟩|⟨rfl,rfl⟩
  ·cases hu
  ·cases hu
  ·cases hu;grind [id,Yx]
  ·cases hu;grind [id,Yy]) DZ (fun f g hf=>IN (by kernel_rfl) (O3 hf)) ud (fun f g u x y _ hu _=>by cases hu) hs h
theorem Rr:ia Tryz.prog 83 Ij:=IL fun xs ys h=>by have:=alk (by kernel_rfl) (afy xs ys h);exact this
end Go.Vs
namespace Go.Vs
open Go.Proofs Go.RowKit
abbrev an7:Array Value:=#[.slice none 0 0,.slice none 0 0,.slice none 0 0,.int .i64 0,.slice none 0 0]
theorem O4(w:World)(a:Option Addr)(n c:Nat)(hn:n≤c):Calls Tryz.prog 145 #[.slice a n c] w fun e w'=>e=.returned (.slice (if n=0 then a else a) n n)∧w'=w:=by
 go_enter Tryz.func145,Tryz.ntmps145
 go_wp2_with (simp)
 go_ret
 exact⟨rfl,rfl⟩
theorem Yz:ia Tryz.prog 145 T5:=by
 intro Z ψ h w B0 O N hh id e vs us g hB bz hN bu nq tz CA he;unfold T5 at he
 split at he
 ·rename_i ex k xs
  cases he
  simp only[ax,aC,aL]at tz;obtain⟨v,jt,rfl,⟨⟨v',hv,A,c,rfl,hl,hc,hx⟩,_⟩,rfl⟩:=tz
  cases hv
  refine(O4 w A xs.length c hl).mono fun en w' ⟨e1,e2⟩=>?_;subst e2;refine⟨_,Z,ψ,e1,Next.refl g,?_⟩;simp only[bF.v,aC,aL,ite_self];exact⟨⟨_,rfl,A,_,rfl,acW _,fun h0=>by have:=hc h0;omega,hx⟩,fun _=>⟨A,_,rfl⟩⟩
 ·cases he
  simp only[ax,aC]at tz;obtain⟨v,jt,rfl,rfl,rfl⟩:=tz;refine(O4 w none 0 0 (acW _)).mono fun en w' ⟨e1,e2⟩=>?_;subst e2;exact⟨_,Z,ψ,e1,Next.refl g,by simp only[bF.v,aC,ite_self]⟩
 ·cases he
end Go.Vs
namespace Go.Vs
open Go.Proofs
theorem Vk:∀f g u,Sg f=some g→g.x=some u→ia Tryz.prog (f%1000) u:=fun f g u h hu=>by
 have hm:=Vd h;have key:(sgs.all fun p=>(p.2.x.isNone || (p.1==153 || (p.1==191 || (p.1==220 || (p.1==154 || (p.1==164 || (p.1==222 || (p.1==500083 || (p.1==145))))))))))=true:=by kernel_rfl
 have:=ac3.1 key _ hm;simp only[hu,Option.isNone_some,Bool.false_or,Bool.or_eq_true,beq_iff_eq]at this;rcases this with rfl|rfl|rfl|rfl|rfl|rfl|rfl|rfl
 ·have e:Sg 153=some ZU:=by kernel_rfl
  rw[e]at h;cases h;cases hu;intro Z ψ h w B0 O N hh id e vs us;exact vY (k:=cZ) abB
 ·have e:Sg 191=some ZX:=by kernel_rfl
  rw[e]at h;cases h;cases hu;intro Z ψ h w B0 O N hh id e vs us;exact vY (k:=dx) abE
 ·have e:Sg 220=some ZY:=by kernel_rfl
  rw[e]at h;cases h;cases hu;intro Z ψ h w B0 O N hh id e vs us;exact vY (k:=cG) abG
 ·have e:Sg 154=some ZV:=by kernel_rfl
  rw[e]at h;cases h;cases hu;intro Z ψ h w B0 O N hh id e vs us;exact DY (k:=cZ) abD
 ·have e:Sg 164=some ZW:=by kernel_rfl
  rw[e]at h;cases h;cases hu;intro Z ψ h w B0 O N hh id e vs us;exact DY (k:=dx) abF
 ·have e:Sg 222=some ZZ:=by kernel_rfl
  rw[e]at h;cases h;cases hu;intro Z ψ h w B0 O N hh id e vs us;exact K9 (k:=bm) Yq
 ·have e:Sg 500083=some KR:=by kernel_rfl
  rw[e]at h;cases h;cases hu;intro Z ψ h w B0 O N hh id e vs us;exact Rr
 ·have e:Sg 145=some aad:=by kernel_rfl
  rw[e]at h;cases h;cases hu;intro Z ψ h w B0 O N hh id e vs us;exact Yz
end Go.Vs
