/- slices.Insert -/
import Derived.Test.YtoleelddkocpkaaGreatEngineD
import Derived.Lib.AppendZerosOnto
import Derived.Lib.Overlaps
import Derived.Lib.Walk
import Derived.Shelf.Spec.SlicesInsert
import Derived.Laws.NewBlocks
set_option linter.unusedVariables false
set_option linter.unusedSimpArgs false
namespace Go.Vs
variable {P:Program} {w:World}
theorem oT(w:World)(t ty e:TypeId)(sz g n c:Nat)(a:Addr)(m mc:Nat)(cur:Array Value)(news:List Value)(ht:P.underlying t=some (.slice e))(hs:(P.info? e).map (·.size)=some sz) (hg:w.heap[g]? = some (.cells cur e (0,0))) (hl:news.length=m*sz) (xT:∀(j:Nat) v,news[j]? = some v→w.cell? (a.add j)=some v) (h1:∀v∈news,v.oneCell'=true) (dy:n+m≤c) (iH:c*sz≤cur.size) :
  (Builtin.append_ #[t,t] ty #[.slice (some ⟨g,0,none⟩) n c,.slice (some a) m mc]).run P w=.ok (.slice (some ⟨g,0,none⟩) (n+m) c) (w.setRow g (cur.toList.take (n*sz)++news++cur.toList.drop (n*sz+news.length)).toArray):=by
 have hle:n*sz+m*sz≤c*sz:=by rw[←Nat.add_mul];exact abV _ dy
 have ad4:=run_loadCells_list (P:=P) w a news xT;have zp:=run_storeCells_at P g (n*sz) e news 0 cur w hg (by omega) h1;simp only[Nat.add_zero]at zp;have ha:(⟨g,0,none⟩:Addr).add (n*sz)=⟨g,n*sz,none⟩:=by rw[cy,Nat.zero_add]
 cases hq:P.info? e with
 |none=>simp_all
 |some i =>
  have hi:i.size=sz:=by simp_all
  simp[Builtin.append_,run_underlying ht,Builtin.lenOf,Builtin.firstCells,sizeOf,typeInfo,hq,hi,←hl,ad4,dy,ha,zp]
theorem sf(w:World)(t ty e:TypeId)(sz g o k c:Nat)(cur:Array Value)(i:TypeInfo)(z:Value)(ht:P.underlying t=some (.slice e))(hi:P.info? e=some i)(hz:i.zero=some z)(Iu:z.cells.size=sz)(h1:∀v∈z.cells.toList,v.oneCell'=true) (hg:w.heap[g]? = some (.cells cur e (0,0))) (hk:0<k) (Pu:o+k*sz≤cur.size) :
  (Builtin.clear_ #[t] ty #[.slice (some ⟨g,o,none⟩) k c]).run P w=.ok (.tuple #[]) (w.setRow g (cur.toList.take o++(Builtin.zeroCells z.cells k).toList++cur.toList.drop (o+(Builtin.zeroCells z.cells k).toList.length)).toArray):=by
 have hl:(Builtin.zeroCells z.cells k).toList.length=k*sz:=by simp[Builtin.zeroCells,Iu]
 have GZ:∀v∈(Builtin.zeroCells z.cells k).toList,v.oneCell'=true:=fun v hv=>by
  simp only[Builtin.zeroCells,Array.toList_map,List.mem_map]at hv;obtain⟨q,hq,rfl⟩:=hv;have hq':q<k*z.cells.size:=by simpa using hq
  have hp:0<z.cells.size:=by
   rcases Nat.eq_zero_or_pos z.cells.size with h|h
   ·rw[h,Nat.mul_zero]at hq';omega
   ·exact h
  have aK:q%z.cells.size<z.cells.size:=acV _ hp;rw[getElem!_pos z.cells _ aK];exact h1 _ (by simp)
 have zp:=run_storeCells_at P g o e (Builtin.zeroCells z.cells k).toList 0 cur w hg (by omega) GZ;simp only[Nat.add_zero]at zp;obtain⟨m,rfl⟩:∃m,k=m+1:=⟨k-1,by omega⟩;simp[Builtin.clear_,run_underlying ht,zeroValue,typeInfo,hi,hz,zp]
end Go.Vs
namespace Go.Vs
open Go.Proofs Go.RowKit
def C7(P:Program)(f:FuncId)(e:TypeId)(size:Nat):Prop :=∀(w:World) (v u:Value) (n i:Nat) (xs ys:List Value),dI w e size v n xs→dI w e size u 1 ys→i≤n→n+1≤eW→(∀b,ob v=some b→ob u≠some b) →(∀q∈xs,q.oneCell'=true)→(∀q∈ys,q.oneCell'=true) → Calls P f #[v,.int .i64 i,u] w fun en w'=>∃v',en=.returned v'∧dI w' e size v' (n+1) (xs.take (i*size)++(ys++xs.drop (i*size)))∧w.grownBy w' (ob v)∧(ob v'=ob v∨∀b,ob v'=some b→w.heap.size≤b)
def HF(P:Program)(f:FuncId)(e:TypeId)(sz:Nat):Prop:=∀(w:World) (v u:Value) (n:Nat) (xs ys:List Value) (hv:dI w e sz v n xs) (hu:dI w e sz u 1 ys) (hm:n+1≤eW) (h1:∀q∈ys,q.oneCell'=true),Calls P f #[v,.int .i64 n,u] w fun en w'=>∃v',en=.returned v'∧dI w' e sz v' (n+1) (xs++ys)∧w.grownBy w' (ob v)∧(ob v'=ob v∨∀b,ob v'=some b→w.heap.size≤b)
def w4(P:Program)(f:FuncId)(e:TypeId)(sz:Nat):Prop:=∀(w:World) (g c g2 c2 n i:Nat) (xs ys:List Value) (cur dg:Array Value) (hg:w.heap[g]? = some (.cells cur e (0,0))) (iH:cur.size=c*sz) (lx:cur.toList.take (n*sz)=xs) (zy:xs.length=n*sz) (vK:w.heap[g2]? = some (.cells dg e (0,0))) (oU:dg.size=c2*sz) (oE:0<c2) (lg:dg.toList.take (1*sz)=ys) (EH:ys.length=1*sz) (bw:g2≠g) (hi:i<n) (dy:n+1≤c) (hc:c≤maxLen) (h1:∀q∈xs,q.oneCell'=true) (h2:∀q∈ys,q.oneCell'=true),Calls P f #[.slice (some ⟨g,0,none⟩) n c,.int .i64 i,.slice (some ⟨g2,0,none⟩) 1 c2] w fun en w'=>en=.returned (.slice (some ⟨g,0,none⟩) (n+1) c) ∧ ∃gk:Array Value,w'.heap[g]? = some (.cells gk e (0,0))∧gk.size=cur.size∧gk.toList.take ((n+1)*sz)=xs.take (i*sz)++(ys++xs.drop (i*sz))∧w.grownBy w' (some g)
def A3(P:Program)(f:FuncId)(e:TypeId)(sz:Nat):Prop:=∀(w:World) (g c g2 c2 n i:Nat) (xs ys:List Value) (cur dg:Array Value) (hg:w.heap[g]? = some (.cells cur e (0,0))) (iH:cur.size=c*sz) (lx:cur.toList.take (n*sz)=xs) (zy:xs.length=n*sz) (vK:w.heap[g2]? = some (.cells dg e (0,0))) (oU:dg.size=c2*sz) (oE:0<c2) (lg:dg.toList.take (1*sz)=ys) (EH:ys.length=1*sz) (bw:g2≠g) (hi:i<n) (zq:n≤c) (dy:c<n+1) (hm:n+1≤eW) (h1:∀q∈xs,q.oneCell'=true) (h2:∀q∈ys,q.oneCell'=true),Calls P f #[.slice (some ⟨g,0,none⟩) n c,.int .i64 i,.slice (some ⟨g2,0,none⟩) 1 c2] w fun en w'=>∃G,en=.returned (.slice (some ⟨w.heap.size,0,none⟩) (n+1) G) ∧ ∃gk:Array Value,w'.heap[w.heap.size]? = some (.cells gk e (0,0))∧gk.size=G*sz∧n+1≤G∧G≤maxLen∧gk.toList.take ((n+1)*sz)=xs.take (i*sz)++(ys++xs.drop (i*sz))∧w.grownBy w' (some g)
theorem HH{w:World}{e sz:Nat}{u:Value}{ys:List Value}(hu:dI w e sz u 1 ys)(h1:∀q∈ys,q.oneCell'=true):WL w sz u 1 ys:=by
 refine⟨hu.1,h1,.inr ?_⟩;rcases hu.2 with⟨h0,_⟩|⟨g,cap,cur,rfl,_,hg,_,_,hc,lx⟩
 ·cases h0
 ·refine⟨_,_,rfl,fun j q hj=>?_⟩;rw[cy,Nat.zero_add];rw[←lx,List.getElem?_take]at hj
  split at hj
  ·simp[World.cell?,hg];simpa using hj
  ·cases hj
theorem T7{α:Type}{cur xs ys cur1 cur3:List α}{i n sz:Nat}(lx:cur.take (n*sz)=xs)(hl:(n+1)*sz≤cur.length)(hy:ys.length=sz)(hi:i≤n) (h1:cur1=cur.take ((i+1)*sz)++xs.drop (i*sz)++cur.drop ((i+1)*sz+(xs.drop (i*sz)).length)) (h3:cur3=cur1.take (i*sz)++ys++cur1.drop (i*sz+ys.length)) :
  cur3.take ((n+1)*sz)=xs.take (i*sz)++(ys++xs.drop (i*sz)):=by
 have z8:i*sz≤n*sz:=abV _ hi;rw[Nat.add_mul,Nat.one_mul]at hl h1 ⊢;have zy:xs.length=n*sz:=by rw[←lx,List.length_take];omega
 generalize i*sz=a at *;generalize n*sz=b at *;have e1:cur1.take a=xs.take a:=by
  grind
 have e2:cur1.drop (a+ys.length)=xs.drop a++cur.drop (a+1*sz+(xs.drop a).length):=by
  rw[h1,List.append_assoc,Nat.one_mul,hy]
  grind
 grind [List.append_assoc,List.take_left',List.length_append,List.length_take,List.length_drop]
theorem vo{w:World}{e size:Nat}{g n:Nat}{cur:Array Value}{xs:List Value}(hg:w.heap[g]? = some (.cells cur e (0,0)))(lx:cur.toList.take (n*size)=xs)(o:Nat):∀(j:Nat) q,(xs.drop o)[j]? = some q→w.cell? ((⟨g,o,none⟩:Addr).add j)=some q:=fun j q hj=>by
 rw[cy];rw[List.getElem?_drop,←lx,List.getElem?_take]at hj
 split at hj
 ·simp[World.cell?,hg];simpa using hj
 ·cases hj
theorem vp{P:Program}{t e sz:Nat}(ht:P.underlying t=some (.slice e))(hz:(P.info? e).map (·.size)=some sz)(w:World)(g c g2 c2 n i:Nat)(xs ys:List Value)(cur dg:Array Value)(hg:w.heap[g]? = some (.cells cur e (0,0)))(iH:cur.size=c*sz)(lx:cur.toList.take (n*sz)=xs)(zy:xs.length=n*sz)(vK:w.heap[g2]? = some (.cells dg e (0,0)))(oU:dg.size=c2*sz)(oE:0<c2)(lg:dg.toList.take (1*sz)=ys)(EH:ys.length=1*sz)(bw:g2≠g)(hi:i<n)(dy:n+1≤c)(hc:c≤maxLen)(h1:∀q∈xs,q.oneCell'=true)(h2:∀q∈ys,q.oneCell'=true) :
  ∃cur1 cur3:Array Value,(∀(W:World),W.heap=w.heap→∀ty dc sc,(Builtin.copy_ #[t,t] ty #[.slice (some ⟨g,(i+1)*sz,none⟩) (n-i) dc,.slice (some ⟨g,i*sz,none⟩) (n+1-i) sc]).run P W=.ok (goInt (n-i:Nat)) (W.setRow g cur1))∧(∀ty dc sc,(Builtin.copy_ #[t,t] ty #[.slice (some ⟨g,i*sz,none⟩) (n+1-i) dc,.slice (some ⟨g2,0,none⟩) 1 sc]).run P (w.drew.setRow g cur1)=.ok (goInt 1) ((w.drew.setRow g cur1).setRow g cur3))∧cur3.size=cur.size∧cur3.toList.take ((n+1)*sz)=xs.take (i*sz)++(ys++xs.drop (i*sz)):=by
 have Py:=vo (size:=sz) (n:=1) vK lg 0;have BC:=vo (size:=sz) (n:=n) hg lx (i*sz);have h63:c≤9223372036854775807:=by grind [maxLen]
 have m6:(n+1)*sz≤c*sz:=abV _ dy;have m1:(n+1)*sz=n*sz+sz:=aee ..;have m2:(i+1)*sz=i*sz+sz:=aee ..;have m3:(n-i)*sz=n*sz-i*sz:=Nat.sub_mul ..;have m4:(i+1)*sz≤n*sz:=abV _ hi;have m5:1*sz=sz:=Nat.one_mul _;have hn5:n*sz≤cur.size:=by omega
 obtain⟨cur1,si⟩:∃cur1:Array Value,cur1=(cur.toList.take ((i+1)*sz)++xs.drop (i*sz)++cur.toList.drop ((i+1)*sz+(xs.drop (i*sz)).length)).toArray:=⟨_,rfl⟩;have Kc:(xs.drop (i*sz)).length=(n-i)*sz:=by simp_all
 have Mi:∀(W:World),W.heap=w.heap→∀ty dc sc,(Builtin.copy_ #[t,t] ty #[.slice (some ⟨g,(i+1)*sz,none⟩) (n-i) dc,.slice (some ⟨g,i*sz,none⟩) (n+1-i) sc]).run P W=.ok (goInt (n-i:Nat)) (W.setRow g cur1):=fun W hW ty dc sc=>by
  have:=hP (P:=P) W t t ty e sz g ((i+1)*sz) (n-i) dc ⟨g,i*sz,none⟩ (n+1-i) sc cur e (xs.drop (i*sz)) ht hz (by simp_all) (by grind) (fun j v hj=>by grind [World.cell?]) (by omega) (fun q hq=>h1 q (acW hq))
  grind
 have Ma:cur1.size=cur.size:=by grind
 obtain⟨cur3,T8⟩:∃cur3:Array Value,cur3=(cur1.toList.take (i*sz)++ys++cur1.toList.drop (i*sz+ys.length)).toArray:=⟨_,rfl⟩;have ajv:∀(W:World),W.heap[g]? = some (.cells cur1 e (0,0))→W.heap[g2]? = w.heap[g2]?→∀ty dc sc,(Builtin.copy_ #[t,t] ty #[.slice (some ⟨g,i*sz,none⟩) (n+1-i) dc,.slice (some ⟨g2,0,none⟩) 1 sc]).run P W=.ok (goInt 1) (W.setRow g cur3):=fun W hW hW2 ty dc sc=>by have:=hP (P:=P) W t t ty e sz g (i*sz) (n+1-i) dc ⟨g2,0,none⟩ 1 sc cur1 e ys ht hz hW (by rw[EH];simp only[Nat.min_def];split<;>omega) (fun j v hj=>by grind [World.cell?,fz]) (by omega) h2;rw[this,T8];congr 2;simp only[Nat.min_def];split<;>omega
 have RA:cur3.size=cur.size:=by rw[T8];simp;omega
 have iV:cur3.toList.take ((n+1)*sz)=xs.take (i*sz)++(ys++xs.drop (i*sz)):=T7 (sz:=sz) (cur1:=cur1.toList) (cur3:=cur3.toList) lx (by simp;omega) (by rw[EH,m5]) (Nat.le_of_lt hi) (by rw[si]) (by rw[T8]);exact⟨cur1,cur3,Mi,ajv (w.drew.setRow g cur1) (setRow_heap w.drew g cur _ e _ hg) (_root_.Go.setRow_other w.drew g g2 _ bw),RA,iV⟩
theorem vq{n i c:Nat}(hi:i<n)(dy:n+1≤c)(hc:c≤maxLen):(IntKind.i64.wrap ((i:Int)+1)=(i:Int)+1)∧(IntKind.i64.wrap ((n:Int)+1)=(n:Int)+1)∧((0:Int)≤(i:Int)+1)∧(i≤n)∧(((i:Int)+1).toNat=i+1)∧(¬(c=i+1))∧((i:Int)≤(n:Int)+1)∧(¬(c=i))∧(¬((i:Int)=(n:Int)))∧(¬((c:Int)<(n:Int)+1)):=by
 grind [maxLen,IntKind.wrap_i64]
theorem Qk{α:Type}{row xs ys row2 row3:List α}{i n sz:Nat}(hA:row.take (i*sz)=xs.take (i*sz))(hl:(n+1)*sz≤row.length)(zy:xs.length=n*sz)(hy:ys.length=sz)(hi:i≤n) (h2:row2=row.take (i*sz)++ys++row.drop (i*sz+ys.length)) (h3:row3=row2.take ((i+1)*sz)++xs.drop (i*sz)++row2.drop ((i+1)*sz+(xs.drop (i*sz)).length)) :
  row3.take ((n+1)*sz)=xs.take (i*sz)++(ys++xs.drop (i*sz)):=by
 have z8:i*sz≤n*sz:=abV _ hi;rw[Nat.add_mul,Nat.one_mul]at hl h3 ⊢;generalize i*sz=a at *;generalize n*sz=b at *;have e1:row2.take (a+1*sz)=xs.take a++ys:=by
  grind
 rw[Nat.one_mul]at e1
 grind [List.take_left',List.length_append,List.length_take,List.length_drop,List.append_assoc]
theorem yD{P:Program}{t e sz:Nat}{k:K}{i0:TypeInfo}{z0:Value}(hk:k.sz=sz)(h0:0<sz)(ht:P.underlying t=some (.slice e))(htn:P.underlying 3=some (.int .i64))(he:nP P e k i0 z0)(w:World)(g c g2 c2 n i:Nat)(xs ys:List Value)(cur dg:Array Value)(hg:w.heap[g]? = some (.cells cur e (0,0)))(iH:cur.size=c*sz)(lx:cur.toList.take (n*sz)=xs)(zy:xs.length=n*sz)(vK:w.heap[g2]? = some (.cells dg e (0,0)))(oU:dg.size=c2*sz)(oE:0<c2)(lg:dg.toList.take (1*sz)=ys)(EH:ys.length=1*sz)(bw:g2≠g)(hi:i<n)(zq:n≤c)(dy:c<n+1)(hm:n+1≤eW)(h1:∀q∈xs,q.oneCell'=true)(h2:∀q∈ys,q.oneCell'=true) :
  ∃(G:Nat) (uc row2 row3:Array Value) (W1:World),(∀ty,(Builtin.append_ #[t,3] ty #[.slice (some ⟨g,0,none⟩) i c,.int .i64 ((n:Int)+1-(i:Int))]).run P w=.ok (.slice (some ⟨w.heap.size,0,none⟩) (n+1) G) W1)∧W1.heap[w.heap.size]? = some (.cells uc e (0,0))∧(∀b,b<w.heap.size→W1.heap[b]? = w.heap[b]?)∧w.grownBy W1 none∧(∀(W:World),W.heap=W1.heap→∀ty dc sc,(Builtin.copy_ #[t,t] ty #[.slice (some ⟨w.heap.size,i*sz,none⟩) (n+1-i) dc,.slice (some ⟨g2,0,none⟩) 1 sc]).run P W=.ok (goInt 1) (W.setRow w.heap.size row2))∧(∀(W:World),W.heap=(W1.setRow w.heap.size row2).heap→∀ty dc sc,(Builtin.copy_ #[t,t] ty #[.slice (some ⟨w.heap.size,(i+1)*sz,none⟩) (n-i) dc,.slice (some ⟨g,i*sz,none⟩) (n-i) sc]).run P W=.ok (goInt (n-i:Nat)) (W.setRow w.heap.size row3))∧row3.size=G*sz∧n+1≤G∧G≤9223372036854775807∧row3.toList.take ((n+1)*sz)=xs.take (i*sz)++(ys++xs.drop (i*sz)):=by
 have Lr:z0.cells.size=sz:=he.vW.trans hk;have Iu:i0.size=sz:=he.size.trans hk;have hz:(P.info? e).map (·.size)=some sz:=by rw[he.info];simp_all
 have Ls:=he.bytes;have Py:=vo (size:=sz) (n:=1) vK lg 0;have BC:=vo (size:=sz) (n:=n) hg lx (i*sz);have aog:=vo (size:=sz) (n:=n) hg lx 0;have hgl:g<w.heap.size:=(abP.1 hg).1;have aoh:g2<w.heap.size:=(abP.1 vK).1;unfold eW at hm;have m1:(n+1)*sz=n*sz+sz:=aee ..;have m2:(i+1)*sz=i*sz+sz:=aee ..;have m3:(n-i)*sz=n*sz-i*sz:=Nat.sub_mul ..;have m4:(i+1)*sz≤n*sz:=abV _ hi;have m5:1*sz=sz:=Nat.one_mul _;have m6:(n+1-i)*sz=n*sz+sz-i*sz:=by grind
 have rI:(n+1)*i0.bytes≤140737488355328:=ab0 (aeg hm Ls) (by decide);have hold:(Builtin.firstCells i0.size i (.slice (some ⟨g,0,none⟩) i c)).run P w.drew=.ok (xs.take (i*sz)).toArray w.drew:=by rw[Iu];exact run_firstCells_some w.drew sz i ⟨g,0,none⟩ i c (xs.take (i*sz)) (by grind) (fun j v hj=>by simp_all [List.getElem?_take])
 obtain⟨G,hG⟩:∃G,G=grownCap w (n+1) c e:=⟨_,rfl⟩;obtain⟨uc,aaB⟩:∃uc:Array Value,uc=(xs.take (i*sz)).toArray++Builtin.zeroCells z0.cells (n+1-i)++Builtin.zeroCells z0.cells (G-(n+1)):=⟨_,rfl⟩;have hik:i+(n+1-i)=n+1:=by omega
 have Ws:∀ty,(Builtin.append_ #[t,3] ty #[.slice (some ⟨g,0,none⟩) i c,.int .i64 ((n:Int)+1-(i:Int))]).run P w=.ok (.slice (some ⟨w.heap.size,0,none⟩) (n+1) G) (w.drew.alloc (.cells uc e)):=fun ty=>by
  have h:=Lib.run_append_grow_zeros w t 3 ty e i0 z0 .i64 .i64 ht htn he.info he.zero (some ⟨g,0,none⟩) i c (xs.take (i*sz)) hold (n+1-i) (by omega) (by omega) (by omega) (by omega) (ab0 (abV _ (show n+1-i≤n+1 by omega)) (by omega)) (by simp_all [growslice_fits])
  grind
 have Ql:n+1≤G:=by grind [grownCap_ge]
 have m7:(G-(n+1))*sz=G*sz-(n*sz+sz):=by rw[Nat.sub_mul,m1]
 have m8:(n+1)*sz≤G*sz:=abV _ Ql;have HI:G≤9223372036854775807:=by
  grind [grownCap_le_maxLen,maxLen]
 have hRs:uc.size=G*sz:=by
  grind [Builtin.zeroCells,List.length_take,Nat.min_eq_left]
 have hRt:uc.toList.take (i*sz)=xs.take (i*sz):=by
  grind
 obtain⟨W1,F7⟩:∃W1,W1=w.drew.alloc (.cells uc e):=⟨_,rfl⟩;have HJ:W1.heap[w.heap.size]? = some (.cells uc e (0,0)):=by rw[F7];exact(MapKept.heap_alloc w.drew (.cells uc e)).1
 have EI:∀b,b<w.heap.size→W1.heap[b]? = w.heap[b]? := fun b hb=>by rw[F7];exact(Below.heap_alloc w.drew (.cells uc e) b hb).trans rfl
 have ri:w.grownBy W1 none:=⟨by rw[F7];rfl,by rw[F7];rfl,by rw[F7];rfl,by simp_all,fun k hk _=>EI k hk⟩;obtain⟨row2,ad6⟩:∃row2:Array Value,row2=(uc.toList.take (i*sz)++ys++uc.toList.drop (i*sz+ys.length)).toArray:=⟨_,rfl⟩;have Px:row2.size=uc.size:=by grind
 have Mj:∀(W:World),W.heap=W1.heap→∀ty dc sc,(Builtin.copy_ #[t,t] ty #[.slice (some ⟨w.heap.size,i*sz,none⟩) (n+1-i) dc,.slice (some ⟨g2,0,none⟩) 1 sc]).run P W=.ok (goInt 1) (W.setRow w.heap.size row2):=fun W hW ty dc sc=>by
  have:=hP (P:=P) W t t ty e sz w.heap.size (i*sz) (n+1-i) dc ⟨g2,0,none⟩ 1 sc uc e ys ht hz (by simp_all) (by grind) (fun j v hj=>by grind [World.cell?,fz]) (by omega) h2
  grind
 obtain⟨row3,Zb⟩:∃row3:Array Value,row3=(row2.toList.take ((i+1)*sz)++xs.drop (i*sz)++row2.toList.drop ((i+1)*sz+(xs.drop (i*sz)).length)).toArray:=⟨_,rfl⟩;have Kc:(xs.drop (i*sz)).length=(n-i)*sz:=by grind
 have RA:row3.size=uc.size:=by rw[Zb];simp;omega
 have Mk:∀(W:World),W.heap=(W1.setRow w.heap.size row2).heap→∀ty dc sc,(Builtin.copy_ #[t,t] ty #[.slice (some ⟨w.heap.size,(i+1)*sz,none⟩) (n-i) dc,.slice (some ⟨g,i*sz,none⟩) (n-i) sc]).run P W=.ok (goInt (n-i:Nat)) (W.setRow w.heap.size row3):=fun W hW ty dc sc=>by
  have:=hP (P:=P) W t t ty e sz w.heap.size ((i+1)*sz) (n-i) dc ⟨g,i*sz,none⟩ (n-i) sc row2 e (xs.drop (i*sz)) ht hz (by grind [setRow_heap]) (by grind) (fun j v hj=>by grind [World.cell?,fz,_root_.Go.setRow_other,Nat.ne_of_lt]) (by omega) (fun q hq=>h1 q (acW hq))
  grind
 have iV:row3.toList.take ((n+1)*sz)=xs.take (i*sz)++(ys++xs.drop (i*sz)):=Qk (sz:=sz) (row:=uc.toList) (row2:=row2.toList) (row3:=row3.toList) hRt (by simp;omega) zy (by rw[EH,m5]) (by omega) (by rw[ad6]) (by rw[Zb]);rw[←F7]at Ws;exact⟨G,uc,row2,row3,W1,Ws,HJ,EI,ri,Mj,Mk,by omega,Ql,HI,iV⟩
theorem yE{n i c G:Nat}(hi:i<n)(zq:n≤c)(dy:c<n+1)(hm:n+1≤eW)(Ql:n+1≤G):(IntKind.i64.wrap ((i:Int)+1)=(i:Int)+1)∧(IntKind.i64.wrap ((n:Int)+1)=(n:Int)+1)∧(IntKind.i64.wrap ((n:Int)+1-(i:Int))=(n:Int)+1-(i:Int))∧((0:Int)≤(i:Int)+1)∧(i≤n)∧(((i:Int)+1).toNat=i+1)∧(¬(G=i))∧(¬(G=i+1))∧(¬(c=i))∧((i:Int)≤(n:Int))∧(¬((i:Int)=(n:Int)))∧((c:Int)<(n:Int)+1):=by
 grind [eW,IntKind.wrap_i64]
theorem Ml{P:Program}{f:FuncId}{e:TypeId}{sz:Nat}(hE:HF P f e sz)(hS:w4 P f e sz)(hG:A3 P f e sz):C7 P f e sz:=fun w v u n i xs ys hv hu hi hm Xp h1 h2=>by
 by_cases he:i=n
 ·subst he;refine(hE w v u i xs ys hv hu hm h2).mono fun en w' ⟨v',e1,e2,e3,e4⟩=>⟨v',e1,?_,e3,e4⟩;have hl:=hv.1
  grind
 ·have te:i<n:=by omega
  have m1:(n+1)*sz=n*sz+sz:=aee ..;have m4:i*sz≤n*sz:=abV _ hi;have m5:1*sz=sz:=Nat.one_mul _;rcases hv.2 with⟨h0,_⟩|⟨g,c,cur,rfl,Zd,hg,zq,Wt,iH,lx⟩
  ·omega
  rcases hu.2 with⟨h0,_⟩|⟨g2,c2,dg,rfl,ad7,vK,_,_,oU,lg⟩
  ·omega
  have oa:ob (.slice (some ⟨g,0,none⟩) n c)=some g:=by simp only[ob];grind
  have ajw:ob (.slice (some ⟨g2,0,none⟩) 1 c2)=some g2:=by simp only[ob];grind
  have bw:g2≠g:=fun e=>Xp g oa (by rw[ajw,e]);by_cases dy:n+1≤c
  ·refine(hS w g c g2 c2 n i xs ys cur dg hg iH lx hv.1 vK oU ad7 lg hu.1 bw te dy Wt h1 h2).mono fun en w' ⟨e1,gk,e2,e3,e4,e5⟩=>?_;refine⟨_,e1,⟨?_,.inr ⟨g,c,gk,rfl,Zd,e2,dy,Wt,by rw[e3,iH],e4⟩⟩,by simp_all,.inl ?_⟩
   ·have hl:=hv.1;have Aq:=hu.1
    grind
   rfl
  ·refine(hG w g c g2 c2 n i xs ys cur dg hg iH lx hv.1 vK oU ad7 lg hu.1 bw te zq (by omega) hm h1 h2).mono fun en w' ⟨G,e1,gk,e2,e3,e4,e5,e6,e7⟩=>?_;refine⟨_,e1,⟨?_,.inr ⟨w.heap.size,G,gk,rfl,by omega,e2,e4,e5,e3,e6⟩⟩,by simp_all,.inr fun b hb=>?_⟩
   ·have hl:=hv.1;have Aq:=hu.1
    grind
   simp_all [ob,if_neg]
set_option maxHeartbeats 4000000 in
set_option maxRecDepth 100000 in
theorem Mm:HF Tryz.prog 153 38 5:=fun w v u n xs ys hv hu hm h1=>by
 have ht:Tryz.prog.underlying 24=some (.slice 38):=by kernel_rfl
 obtain⟨i0,z0,he⟩:=cd (P:=Tryz.prog) (e:=38) (k:=.pair (.pair (.int .i64) (.int .i64)) (.pair (.sl (.pair (.pair (.int .i64) (.int .i64)) (.int .i64))) (.pair .str (.int .i64)))) (by kernel_rfl);have xT:=HH hu h1;obtain⟨v',w',c9,h4,h5,h6⟩:=dL (P:=Tryz.prog) (ty:=24) ht he hv xT hm;obtain⟨A,c,rfl⟩:=hv.slice;have zq:n≤c:=by
  rcases hv.2 with⟨h0,A,e⟩|⟨g,cap,cur,e,hc,h2,h3,_⟩
  ·omega
  simp_all
 obtain⟨B,cu,rfl⟩:=hu.slice;have ad8:n≤1073741824:=by grind [eW]
 go_enter Tryz.func153,Tryz.ntmps153
 go_wp2_with (at_builtin;refine Lib.wpList_append_run _ rfl _ _ _ _ rfl _ _ rfl rfl _ _ c9 ?_)
 all_goals go_ret
 all_goals first|exact⟨_,rfl,h4,h5,h6⟩|(subst_vars;exact⟨_,rfl,h4,h5,h6⟩)
set_option maxHeartbeats 4000000 in
set_option maxRecDepth 100000 in
theorem HK:w4 Tryz.prog 153 38 5:=fun w g c g2 c2 n i xs ys cur dg hg iH lx zy vK oU oE lg EH bw hi dy hc h1 h2=>by
 have ht:Tryz.prog.underlying 24=some (.slice 38):=by kernel_rfl
 have hz:(Tryz.prog.info? 38).map (·.size)=some 5:=by kernel_rfl
 have Iu:∀w,(Go.sizeOf 38).run Tryz.prog w=.ok 5 w:=fun w=>by rfl
 have Wu:∀a2 lb cb,(callFunc 189 #[.slice (some ⟨g2,0,none⟩) 1 c2,.slice (some ⟨g,a2,none⟩) lb cb]).run Tryz.prog w=.ok (.value (.bool false)) w:=fun a2 lb cb=>by rw[run_callFunc_extern Tryz.func189 (by kernel_rfl) (by kernel_rfl) (by kernel_rfl) (e:=Extern.SlicesOverlaps.overlaps #[24,24] #[4]) (by kernel_rfl),Lib.run_overlaps_apart w 24 4 38 ht 5 Iu ⟨g2,0,none⟩ ⟨g,a2,none⟩ 1 c2 lb cb bw 38 38 dg.size cur.size (by simp[World.shape?,vK]) (by simp[World.shape?,hg]) (by omega) (by simp[World.frozen?,vK]) (by simp[World.frozen?,vK])];rfl
 obtain⟨cur1,cur3,Mi,Kd,RA,iV⟩:=vp ht hz w g c g2 c2 n i xs ys cur dg hg iH lx zy vK oU oE lg EH bw hi dy hc h1 h2;have h63:c≤9223372036854775807:=by grind [maxLen]
 obtain⟨Nw,Mn,Ze,te,htn,Eo,hb3,hb4,Ee,Ph⟩:=vq hi dy hc;clear lx lg;have mixed:Tryz.prog.follows .mixedOrders=true:=by kernel_rfl
 go_enter Tryz.func153,Tryz.ntmps153
 go_wp2_with (simp only[Wu])
 go_region_law (go_loud (refine step_copy_runI rfl _ _ 24 24 rfl (.slice (some ⟨g,(i+1)*5,none⟩) (n-i) (c-(i+1))) (.slice (some ⟨g,i*5,none⟩) (n+1-i) (c-i)) (by simp[Act.eval,Act.put]) (by simp[Act.eval,Act.put]) (Mi w.drew rfl 3 (c-(i+1)) (c-i)) ?_))
 go_wp2_with (simp only[Kd])
 go_ret
 refine⟨rfl,cur3,setRow_heap _ g cur1 _ 38 _ (setRow_heap w.drew g cur _ 38 _ hg),RA,iV,⟨rfl,rfl,rfl,by simp_all,fun k hk Qm=>?_⟩⟩;have vu:k≠g:=fun e=>Qm (by rw[e]);rw[_root_.Go.setRow_other _ g k _ vu,_root_.Go.setRow_other _ g k _ vu];rfl
set_option maxHeartbeats 4000000 in
set_option maxRecDepth 100000 in
theorem Ke:A3 Tryz.prog 153 38 5:=fun w g c g2 c2 n i xs ys cur dg hg iH lx zy vK oU oE lg EH bw hi zq dy hm h1 h2=>by
 have ht:Tryz.prog.underlying 24=some (.slice 38):=by kernel_rfl
 obtain⟨i0,z0,he⟩:=cd (P:=Tryz.prog) (e:=38) (k:=.pair (.pair (.int .i64) (.int .i64)) (.pair (.sl (.pair (.pair (.int .i64) (.int .i64)) (.int .i64))) (.pair .str (.int .i64)))) (by kernel_rfl);obtain⟨G,uc,row2,row3,W1,Ws,HJ,EI,ri,Mj,Mk,RA,Ql,HI,iV⟩:=yD (sz:=5) rfl (by decide) ht (by kernel_rfl) he w g c g2 c2 n i xs ys cur dg hg iH lx zy vK oU oE lg EH bw hi zq dy hm h1 h2;obtain⟨Nw,Mn,hw3,Ze,te,aeb,hGi,aec,hci,hb3,Ee,Ph⟩:=yE hi zq dy hm Ql;unfold eW at hm;clear lx lg;have mixed:Tryz.prog.follows .mixedOrders=true:=by kernel_rfl
 go_enter Tryz.func153,Tryz.ntmps153
 go_wp2_with (first
  |(at_builtin;refine Lib.wpList_append_run _ rfl _ _ _ _ rfl _ _ rfl rfl _ _ (Ws _) ?_)
  |(at_builtin;refine wpList_copy_runI _ rfl _ _ 24 24 rfl _ _ rfl rfl (Mj _ (by rfl) _ _ _) ?_))
 go_region_law (go_loud (refine step_copy_runI rfl _ _ 24 24 rfl (.slice (some ⟨w.heap.size,(i+1)*5,none⟩) (n-i) (G-(i+1))) (.slice (some ⟨g,i*5,none⟩) (n-i) (c-i)) (by simp[Act.eval,Act.put]) (by simp[Act.eval,Act.put]) (Mk (W1.setRow w.heap.size row2).drew rfl 3 (G-(i+1)) (c-i)) ?_))
 go_wp2
 go_ret
 refine⟨G,rfl,row3,setRow_heap _ w.heap.size row2 _ 38 _ (setRow_heap W1 w.heap.size uc _ 38 _ HJ),by omega,Ql,HI,iV,⟨ri.os,ri.tape,ri.output,by have:=ri.size;simp_all,fun k hk _=>?_⟩⟩;rw[_root_.Go.setRow_other _ w.heap.size k _ (Nat.ne_of_lt hk)];exact(_root_.Go.setRow_other W1 w.heap.size k _ (Nat.ne_of_lt hk)).trans (EI k hk)
theorem aaC:C7 Tryz.prog 153 38 5:=Ml Mm HK Ke
def Mo(P:Program)(f:FuncId)(e:TypeId)(size:Nat):Prop :=∀(w:World) (v:Value) (n i j:Nat) (xs:List Value),dI w e size v n xs→i<j→j≤n→n≤eW→(∀q∈xs,q.oneCell'=true) → Calls P f #[v,.int .i64 i,.int .i64 j] w fun en w'=>∃v',en=.returned v'∧dI w' e size v' (i+(n-j)) (xs.take (i*size)++xs.drop (j*size))∧w.grownBy w' (ob v)∧ob v'=ob v
theorem iJ{P:Program}{ops:Array Oper}{o:Oper}{a:Act}{w:World}{K:Act→World→Prop}{Q:Exit→Act→World→Prop}{E:Prop} (hg:o.guard=none) (d x:Operand) (dT sT:TypeId) (Nv:o.op=Op.call { callee:=Callee.builtin Builtin.append,args:=#[d,x],argTypes:=#[dT,sT] }) (v u:Value) (hd:a.eval d=v) (hx:a.eval x=u) {v':Value} {w':World} (hr:(Builtin.append_ #[dT,sT] o.type #[v,u]).run P w=.ok v' w') (hK:K (a.put o.dst v') w') :
  if Region.wanted o (yielded ops a.tmps)=true then Oper.wp P o a w K Q else E:=by
 have hw:Region.wanted o (yielded ops a.tmps)=true:=by simp[Region.wanted,hg]
 rw[if_pos hw];unfold Oper.wp;simp[execOp,Nv,resolve,invoke,builtin,hd,hx,hr,Result.andThen];exact hK
theorem Kf{α:Type}{cur xs cur1 dg zs:List α}{i j n sz:Nat}(lx:cur.take (n*sz)=xs)(hl:n*sz≤cur.length)(Fu:i≤j)(Rt:j≤n) (h1:cur1=cur.take (i*sz)++xs.drop (j*sz)++cur.drop (i*sz+(xs.drop (j*sz)).length)) (h2:dg=cur1.take ((i+(n-j))*sz)++zs++cur1.drop ((i+(n-j))*sz+zs.length)) :
  dg.take ((i+(n-j))*sz)=xs.take (i*sz)++xs.drop (j*sz):=by
 have ha:i*sz≤j*sz:=abV _ Fu;have hb:j*sz≤n*sz:=abV _ Rt;rw[Nat.add_mul,Nat.sub_mul]at h2 ⊢;have zy:xs.length=n*sz:=by rw[←lx,List.length_take];omega
 generalize i*sz=a at *;generalize j*sz=b at *;generalize n*sz=c at *;have e0:cur.take a=xs.take a:=by rw[←lx,List.take_take];congr 1;omega
 have e1:cur1.take (a+(c-b))=xs.take a++xs.drop b:=by rw[h1,e0];exact List.take_left' (by simp only[List.length_append,List.length_take,List.length_drop];omega)
 rw[h2,e1,List.append_assoc];exact List.take_left' (by simp only[List.length_append,List.length_take,List.length_drop];omega)
set_option maxHeartbeats 4000000 in
set_option maxRecDepth 100000 in
theorem Kg(w:World)(g c n i j X:Nat)(xs:List Value)(cur:Array Value)(hg:w.heap[g]? = some (.cells cur 38 (0,0)))(iH:cur.size=c*5)(lx:cur.toList.take (n*5)=xs)(zy:xs.length=n*5) (Fu:i<j) (Rt:j≤n) (zq:n≤c) (hc:c≤maxLen) (hX:if c=j then X=0 else X=j*5)
  (h1:∀q∈xs,q.oneCell'=true) :
  Calls Tryz.prog 154 #[.slice (some ⟨g,0,none⟩) n c,.int .i64 i,.int .i64 j] w fun en w'=>en=.returned (.slice (some ⟨g,0,none⟩) (i+(n-j)) c) ∧ ∃gk:Array Value,w'.heap[g]? = some (.cells gk 38 (0,0))∧gk.size=cur.size∧gk.toList.take ((i+(n-j))*5)=xs.take (i*5)++xs.drop (j*5)∧w.grownBy w' (some g):=by
 have ht:Tryz.prog.underlying 24=some (.slice 38):=by kernel_rfl
 have hz:(Tryz.prog.info? 38).map (·.size)=some 5:=by kernel_rfl
 obtain⟨zs,Iu⟩:∃zs,Bi Tryz.prog 38=some zs:=abY.1 (by kernel_rfl);obtain⟨i0,z0,hi0,hz0,rfl,zt⟩:=pT Iu;obtain⟨i1,z1,he⟩:=cd (P:=Tryz.prog) (e:=38) (k:=.pair (.pair (.int .i64) (.int .i64)) (.pair (.sl (.pair (.pair (.int .i64) (.int .i64)) (.int .i64))) (.pair .str (.int .i64)))) (by kernel_rfl);have ei:i1=i0:=by have:=he.info;simp_all
 subst ei;have ez:z1=z0:=by have:=he.zero;simp_all
 subst ez;have Lr:z1.cells.size=5:=he.vW;clear he Iu;have Kc:(xs.drop (j*5)).length=(n-j)*5:=by grind
 obtain⟨cur1,si⟩:∃cur1:Array Value,cur1=(cur.toList.take (i*5)++xs.drop (j*5)++cur.toList.drop (i*5+(xs.drop (j*5)).length)).toArray:=⟨_,rfl⟩;have Ma:cur1.size=cur.size:=by grind
 have Xp:∀ty sc,(Builtin.append_ #[24,24] ty #[.slice (some ⟨g,0,none⟩) i c,.slice (some ⟨g,X,none⟩) (n-j) sc]).run Tryz.prog w.drew=.ok (.slice (some ⟨g,0,none⟩) (i+(n-j)) c) (w.drew.setRow g cur1):=fun ty sc=>by
  by_cases T9:c=j
  ·have hnj:n=j:=by omega
   have:n-j=0:=by omega
   rw[this]at Kc ⊢;have LF:xs.drop (j*5)=[]:=abS (by omega);rw[fB ht hi0 _ _ _ (by omega) _ _,si,LF];simp only[List.append_nil,List.length_nil,Nat.add_zero,List.take_append_drop,Array.toArray_toList];rw[setRow_self w.drew g cur 38 (0,0) hg]
  ·rw[if_neg T9]at hX;subst hX;rw[si];exact oT (P:=Tryz.prog) w.drew 24 ty 38 5 g i c ⟨g,j*5,none⟩ (n-j) sc cur (xs.drop (j*5)) ht hz hg Kc (vo (size:=5) (n:=n) (w:=w.drew) hg lx (j*5)) (fun q hq=>h1 q (acW hq)) (by omega) (by omega)
 obtain⟨dg,w5⟩:∃dg:Array Value,dg=(cur1.toList.take ((i+(n-j))*5)++(Builtin.zeroCells z1.cells (j-i)).toList++cur1.toList.drop ((i+(n-j))*5+(Builtin.zeroCells z1.cells (j-i)).toList.length)).toArray:=⟨_,rfl⟩;have hzc:(Builtin.zeroCells z1.cells (j-i)).toList.length=(j-i)*5:=by simp[Builtin.zeroCells,Lr]
 have Px:dg.size=cur.size:=by rw[w5];simp[hzc];omega
 have uW:∀ty sc,(Builtin.clear_ #[24] ty #[.slice (some ⟨g,(i+(n-j))*5,none⟩) (n-(i+(n-j))) sc]).run Tryz.prog (w.drew.setRow g cur1)=.ok (.tuple #[]) ((w.drew.setRow g cur1).setRow g dg):=fun ty sc=>by have:=sf (P:=Tryz.prog) (w.drew.setRow g cur1) 24 ty 38 5 g ((i+(n-j))*5) (j-i) sc cur1 i1 z1 ht hi0 hz0 Lr zt (setRow_heap w.drew g cur _ 38 _ hg) (by omega) (by omega);rw[show n-(i+(n-j))=j-i by omega,this,w5]
 have iV:dg.toList.take ((i+(n-j))*5)=xs.take (i*5)++xs.drop (j*5):=Kf (cur1:=cur1.toList) lx (by simp;omega) (by omega) Rt (by rw[si]) (by rw[w5]);clear si w5 lx Kc;have h63:c≤9223372036854775807:=by grind [maxLen]
 have te:i≤n:=by omega
 have hic:¬(c=i):=by omega
 have hjc:j≤c:=by omega
 have bw:¬((i:Int)=(j:Int)):=by omega
 have qO:i≤j:=by omega
 have ajx:i≤c:=by omega
 have ajy:i+(n-j)≤n:=by omega
 have ajz:i+(n-j)≤c:=by omega
 have ajA:¬(c=i+(n-j)):=by omega
 have ajB:(i:Int)+((n-j:Nat):Int)≤(n:Int):=by omega
 have mixed:Tryz.prog.follows .mixedOrders=true:=by kernel_rfl
 by_cases T9:c=j
 ·rw[if_pos T9]at hX;subst hX;subst T9;obtain rfl:n=c:=by omega
  simp only[Nat.sub_self,Nat.add_zero]at Xp uW iV ⊢
  go_enter Tryz.func154,Tryz.ntmps154
  go_wp2_with fail
  go_region_law (go_loud (refine iJ rfl _ _ 24 24 rfl (.slice (some ⟨g,0,none⟩) i n) (.slice (some ⟨g,0,none⟩) 0 0) (by simp[Act.eval,Act.put]) (by simp[Act.eval,Act.put]) (Xp 24 0) ?_))
  go_wp2_with (simp only[uW])
  go_ret
  refine⟨rfl,dg,setRow_heap _ g cur1 _ 38 _ (setRow_heap w.drew g cur _ 38 _ hg),Px,iV,⟨rfl,rfl,rfl,by simp_all,fun k hk Qm=>?_⟩⟩;have vu:k≠g:=fun e=>Qm (by rw[e]);rw[_root_.Go.setRow_other _ g k _ vu,_root_.Go.setRow_other _ g k _ vu];rfl
 ·rw[if_neg T9]at hX;subst hX
  go_enter Tryz.func154,Tryz.ntmps154
  go_wp2_with fail
  go_region_law (go_loud (refine iJ rfl _ _ 24 24 rfl (.slice (some ⟨g,0,none⟩) i c) (.slice (some ⟨g,j*5,none⟩) (n-j) (c-j)) (by simp[Act.eval,Act.put]) (by simp[Act.eval,Act.put]) (Xp 24 (c-j)) ?_))
  go_wp2_with (simp only[uW])
  go_ret
  refine⟨rfl,dg,setRow_heap _ g cur1 _ 38 _ (setRow_heap w.drew g cur _ 38 _ hg),Px,iV,⟨rfl,rfl,rfl,by simp_all,fun k hk Qm=>?_⟩⟩;have vu:k≠g:=fun e=>Qm (by rw[e]);rw[_root_.Go.setRow_other _ g k _ vu,_root_.Go.setRow_other _ g k _ vu];rfl
theorem aaE:Mo Tryz.prog 154 38 5:=fun w v n i j xs hv Fu Rt hm h1=>by
 rcases hv.2 with⟨h0,_⟩|⟨g,c,cur,rfl,Zd,hg,zq,Wt,iH,lx⟩
 ·omega
 have oa:ob (.slice (some ⟨g,0,none⟩) n c)=some g:=by simp only[ob];grind
 refine(Kg w g c n i j (if c=j then 0 else j*5) xs cur hg iH lx hv.1 Fu Rt zq Wt (by split<;>rfl) h1).mono fun en w' ⟨e1,gk,e2,e3,e4,e5⟩=>?_;refine⟨_,e1,⟨?_,.inr ⟨g,c,gk,rfl,Zd,e2,by omega,Wt,by rw[e3,iH],e4⟩⟩,by simp_all,?_⟩
 ·grind
 rfl
end Go.Vs
namespace Go.Vs
open Go.Proofs
variable {P:Program}
theorem C8{Z:Nat→Prop}{w:World}{k:K}{xs:List k.T}{vs:List Value}(hv:kL Z w k xs vs)(hl:vs.length=xs.length*k.sz):∀q∈vs,q.oneCell'=true:=fun q hq=>by
 obtain⟨p,hp⟩:=acx hq;have aK:p<vs.length:=(aby.1 hp).1;have hs:=k.gu;have hd:p / k.sz<xs.length:=Nat.div_lt_of_lt_mul (by grind);have hr:=hv (p / k.sz) _ (abk hd);refine hr.one q ?_;have hm:=Nat.mod_add_div p k.sz;have hml:=acV p hs;have:((vs.drop (p / k.sz*k.sz)).take k.sz)[p%k.sz]? = some q:=by
  grind
 grind
theorem F8{Z:Nat→Prop}{w:World}{k:K}{xs:List k.T}{vs:List Value}(hv:kL Z w k xs vs)(n:Nat):kL Z w k (xs.take n) (vs.take (n*k.sz)):=fun i x hx=>by
 rw[List.getElem?_take]at hx
 split at hx
 ·rename_i hi;have:=hv i x hx;have e:((vs.take (n*k.sz)).drop (i*k.sz)).take k.sz=(vs.drop (i*k.sz)).take k.sz:=by
   rw[List.drop_take,List.take_take];congr 1;have:(i+1)*k.sz≤n*k.sz:=abV _ hi
   grind
  simp_all
 ·cases hx
theorem F9{Z:Nat→Prop}{w:World}{k:K}{xs:List k.T}{vs:List Value}(hv:kL Z w k xs vs)(n:Nat):kL Z w k (xs.drop n) (vs.drop (n*k.sz)):=fun i x hx=>by
 rw[List.getElem?_drop]at hx;have:=hv (n+i) x hx
 grind [List.drop_drop,Nat.add_mul]
theorem vv{f:FuncId}{ty:TypeId}{k:K}(hr:C7 P f ty k.sz):gY P f (RJ ty k):=by
 intro Z ψ h w B0 O N hh id e vs us g hB bz hN bm mX sS BR he;unfold RJ at he
 split at he
 rotate_left
 ·cases he
 rename_i o i j
 split at he
 rotate_left
 ·cases he
 rename_i xs ys BC Py
 split at he
 ·cases he
 rename_i hoj;simp only[Option.some.injEq,Prod.mk.injEq]at he;obtain⟨kG,rfl⟩:=he;have hhg:hh.get=h:=mX _ _ rfl;have Wv:hh.get o=some (.own (.row ty k) xs):=kc BC;have hgj:hh.get j=some (.own (.row ty k) ys):=kc Py;simp only[ar,az]at sS;obtain⟨v,_,rfl,⟨_,hv⟩,n,_,rfl,rfl,u,_,rfl,⟨_,hu⟩,rfl⟩:=sS;simp only[rB,Bool.and_eq_true,decide_eq_true_eq,aL]at kG;obtain⟨h0,h1,h2,h3⟩:=kG;obtain⟨m,rfl⟩:∃m:Nat,i=m:=⟨i.toNat,by omega⟩;subst hhg;have hvo:v=ψ o:=hv (by rw[Wv];simp);have huj:u=ψ j:=hu (by rw[hgj];simp);obtain⟨vs,Wq,xY⟩:=g.row o (.row ty k) xs Wv;obtain⟨jh,ho2,AJ⟩:=g.row j (.row ty k) ys hgj;simp only[aA,aI]at BR;have bL:N id:=hN 0 (by omega);have bw:o≠id:=fun e=>BR.1 (e▸bL);rw[h2]at ho2;subst hvo;subst huj;refine(hr w _ _ xs.length m vs jh Wq ho2 (by omega) (by omega) (fun b hb Eo=>hoj (g.apart o j b (by rw[Wv];simp) (by rw[hgj];simp) hb Eo)) (C8 xY Wq.1) (C8 AJ (by rw[ho2.1,h2]))).mono fun en w' ⟨v',e1,e2,e3,e4⟩=>?_;have kk:cO ψ hh.get w w':=cO.grown e3 (fun b e=>⟨o,by rw[Wv];simp,e⟩);have sm:=kk.same g;have hlen:(iO xs (m:Int) ys).length=xs.length+1:=by
  grind [iO,Int.toNat_natCast,List.length_append,List.length_take,List.length_drop]
 have htl:(vs.take (m*k.sz)).length=(xs.take m).length*k.sz:=by have:m*k.sz≤xs.length*k.sz:=abV _ (by omega);rw[List.length_take,List.length_take,Wq.1,Nat.min_eq_left this,Nat.min_eq_left (by omega)]
 have oz:kL Z w k (iO xs (m:Int) ys) (vs.take (m*k.sz)++(jh++vs.drop (m*k.sz))):=(F8 xY m).append (AJ.append (F9 xY m) (by rw[ho2.1,h2])) htl;have PX:=nk (N:=N) g hB id o bL Wv bw e3 (v:=v') (ok:=.row ty k) (y:=iO xs m ys) ⟨_,by simp_all,oz.BB sm⟩ e4 (fun i ty cs hb=>aA.imp (p:=fun i=>¬N i) (q:=fun i=>i≠id) (fun a ha e=>ha (by simp_all)) (bm i ty cs hb));have hhp:Heap.get ((id,Ob.own (.row ty k) (iO xs (m:Int) ys))::hh.del o)=dS (dS hh.get o none) id (some (.own (.row ty k) (iO xs m ys))):=by rw[BI,sV]
 refine⟨v',Z,dS ψ id v',e1,?_,?_⟩
 ·show Next Z ψ hh.get w B0 O N Z (dS ψ id v') (Heap.get ((id,Ob.own (.row ty k) (iO xs (m:Int) ys))::hh.del o)) w';simp_all
 ·simp only[bD.v,az];exact⟨e2.one,fun _=>(ba _ _ _).symm⟩
theorem C9{f:FuncId}{ty:TypeId}{k:K}(hr:Mo P f ty k.sz):gY P f (WE ty k):=by
 intro Z ψ h w B0 O N hh id e vs us g hB bz hN bm mX sS BR he;unfold WE at he
 split at he
 rotate_left
 ·cases he
 rename_i o i j
 split at he
 rotate_left
 ·cases he
 rename_i xs BC;simp only[Option.some.injEq,Prod.mk.injEq]at he;obtain⟨kG,rfl⟩:=he;have hhg:hh.get=h:=mX _ _ rfl;have Wv:hh.get o=some (.own (.row ty k) xs):=kc BC;simp only[ar,az]at sS;obtain⟨v,_,rfl,⟨_,hv⟩,n,_,rfl,rfl,u,_,rfl,rfl,rfl⟩:=sS;simp only[jX,Bool.and_eq_true,decide_eq_true_eq,aL]at kG;obtain⟨h0,h1,h2,h3⟩:=kG;obtain⟨m,rfl⟩:∃m:Nat,i=m:=⟨i.toNat,by omega⟩;obtain⟨q,rfl⟩:∃m:Nat,j=m:=⟨j.toNat,by omega⟩;subst hhg;have hvo:v=ψ o:=hv (by rw[Wv];simp);obtain⟨vs,Wq,xY⟩:=g.row o (.row ty k) xs Wv;simp only[aA,aI]at BR;have bL:N id:=hN 0 (by omega);have bw:o≠id:=fun e=>BR.1 (e▸bL);subst hvo;refine(hr w _ xs.length m q vs Wq (by omega) (by omega) (by omega) (C8 xY Wq.1)).mono fun en w' ⟨v',e1,e2,e3,e4⟩=>?_;have kk:cO ψ hh.get w w':=cO.grown e3 (fun b e=>⟨o,by rw[Wv];simp,e⟩);have sm:=kk.same g;have hlen:(du xs (m:Int) q).length=m+(xs.length-q):=by
  grind [du,Int.toNat_natCast,List.length_append,List.length_take,List.length_drop]
 have htl:(vs.take (m*k.sz)).length=(xs.take m).length*k.sz:=by have:m*k.sz≤xs.length*k.sz:=abV _ (by omega);rw[List.length_take,List.length_take,Wq.1,Nat.min_eq_left this,Nat.min_eq_left (by omega)]
 have oz:kL Z w k (du xs (m:Int) q) (vs.take (m*k.sz)++vs.drop (q*k.sz)):=(F8 xY m).append (F9 xY q) htl;have PX:=nk (N:=N) g hB id o bL Wv bw e3 (v:=v') (ok:=.row ty k) (y:=du xs m q) ⟨_,by simp_all,oz.BB sm⟩ (.inl e4) (fun i ty cs hb=>aA.imp (p:=fun i=>¬N i) (q:=fun i=>i≠id) (fun a ha e=>ha (by simp_all)) (bm i ty cs hb));have hhp:Heap.get ((id,Ob.own (.row ty k) (du xs (m:Int) q))::hh.del o)=dS (dS hh.get o none) id (some (.own (.row ty k) (du xs m q))):=by rw[BI,sV]
 refine⟨v',Z,dS ψ id v',e1,?_,?_⟩
 ·show Next Z ψ hh.get w B0 O N Z (dS ψ id v') (Heap.get ((id,Ob.own (.row ty k) (du xs (m:Int) q))::hh.del o)) w';simp_all
 ·simp only[bD.v,az];exact⟨e2.one,fun _=>(ba _ _ _).symm⟩
end Go.Vs
namespace Go.Vs
open Go.Proofs Go.RowKit
set_option maxHeartbeats 4000000 in
set_option maxRecDepth 100000 in
theorem Mp:HF Tryz.prog 191 84 4:=fun w v u n xs ys hv hu hm h1=>by
 have ht:Tryz.prog.underlying 25=some (.slice 84):=by kernel_rfl
 obtain⟨i0,z0,he⟩:=cd (P:=Tryz.prog) (e:=84) (k:=.pair (.pair (.int .i64) (.int .i64)) (.pair .str (.int .i64))) (by kernel_rfl);have xT:=HH hu h1;obtain⟨v',w',c9,h4,h5,h6⟩:=dL (P:=Tryz.prog) (ty:=25) ht he hv xT hm;obtain⟨A,c,rfl⟩:=hv.slice;have zq:n≤c:=by
  rcases hv.2 with⟨h0,A,e⟩|⟨g,cap,cur,e,hc,h2,h3,_⟩
  ·omega
  simp_all
 obtain⟨B,cu,rfl⟩:=hu.slice;have ad8:n≤1073741824:=by grind [eW]
 go_enter Tryz.func191,Tryz.ntmps191
 go_wp2_with (at_builtin;refine Lib.wpList_append_run _ rfl _ _ _ _ rfl _ _ rfl rfl _ _ c9 ?_)
 all_goals go_ret
 all_goals first|exact⟨_,rfl,h4,h5,h6⟩|(subst_vars;exact⟨_,rfl,h4,h5,h6⟩)
set_option maxHeartbeats 4000000 in
set_option maxRecDepth 100000 in
theorem HL:w4 Tryz.prog 191 84 4:=fun w g c g2 c2 n i xs ys cur dg hg iH lx zy vK oU oE lg EH bw hi dy hc h1 h2=>by
 have ht:Tryz.prog.underlying 25=some (.slice 84):=by kernel_rfl
 have hz:(Tryz.prog.info? 84).map (·.size)=some 4:=by kernel_rfl
 have Iu:∀w,(Go.sizeOf 84).run Tryz.prog w=.ok 4 w:=fun w=>by rfl
 have Wu:∀a2 lb cb,(callFunc 213 #[.slice (some ⟨g2,0,none⟩) 1 c2,.slice (some ⟨g,a2,none⟩) lb cb]).run Tryz.prog w=.ok (.value (.bool false)) w:=fun a2 lb cb=>by rw[run_callFunc_extern Tryz.func213 (by kernel_rfl) (by kernel_rfl) (by kernel_rfl) (e:=Extern.SlicesOverlaps.overlaps #[25,25] #[4]) (by kernel_rfl),Lib.run_overlaps_apart w 25 4 84 ht 4 Iu ⟨g2,0,none⟩ ⟨g,a2,none⟩ 1 c2 lb cb bw 84 84 dg.size cur.size (by simp[World.shape?,vK]) (by simp[World.shape?,hg]) (by omega) (by simp[World.frozen?,vK]) (by simp[World.frozen?,vK])];rfl
 obtain⟨cur1,cur3,Mi,Kd,RA,iV⟩:=vp ht hz w g c g2 c2 n i xs ys cur dg hg iH lx zy vK oU oE lg EH bw hi dy hc h1 h2;have h63:c≤9223372036854775807:=by grind [maxLen]
 obtain⟨Nw,Mn,Ze,te,htn,Eo,hb3,hb4,Ee,Ph⟩:=vq hi dy hc;clear lx lg;have mixed:Tryz.prog.follows .mixedOrders=true:=by kernel_rfl
 go_enter Tryz.func191,Tryz.ntmps191
 go_wp2_with (simp only[Wu])
 go_region_law (go_loud (refine step_copy_runI rfl _ _ 25 25 rfl (.slice (some ⟨g,(i+1)*4,none⟩) (n-i) (c-(i+1))) (.slice (some ⟨g,i*4,none⟩) (n+1-i) (c-i)) (by simp[Act.eval,Act.put]) (by simp[Act.eval,Act.put]) (Mi w.drew rfl 3 (c-(i+1)) (c-i)) ?_))
 go_wp2_with (simp only[Kd])
 go_ret
 refine⟨rfl,cur3,setRow_heap _ g cur1 _ 84 _ (setRow_heap w.drew g cur _ 84 _ hg),RA,iV,⟨rfl,rfl,rfl,by simp_all,fun k hk Qm=>?_⟩⟩;have vu:k≠g:=fun e=>Qm (by rw[e]);rw[_root_.Go.setRow_other _ g k _ vu,_root_.Go.setRow_other _ g k _ vu];rfl
set_option maxHeartbeats 4000000 in
set_option maxRecDepth 100000 in
theorem Kh:A3 Tryz.prog 191 84 4:=fun w g c g2 c2 n i xs ys cur dg hg iH lx zy vK oU oE lg EH bw hi zq dy hm h1 h2=>by
 have ht:Tryz.prog.underlying 25=some (.slice 84):=by kernel_rfl
 obtain⟨i0,z0,he⟩:=cd (P:=Tryz.prog) (e:=84) (k:=.pair (.pair (.int .i64) (.int .i64)) (.pair .str (.int .i64))) (by kernel_rfl);obtain⟨G,uc,row2,row3,W1,Ws,HJ,EI,ri,Mj,Mk,RA,Ql,HI,iV⟩:=yD (sz:=4) rfl (by decide) ht (by kernel_rfl) he w g c g2 c2 n i xs ys cur dg hg iH lx zy vK oU oE lg EH bw hi zq dy hm h1 h2;obtain⟨Nw,Mn,hw3,Ze,te,aeb,hGi,aec,hci,hb3,Ee,Ph⟩:=yE hi zq dy hm Ql;unfold eW at hm;clear lx lg;have mixed:Tryz.prog.follows .mixedOrders=true:=by kernel_rfl
 go_enter Tryz.func191,Tryz.ntmps191
 go_wp2_with (first
  |(at_builtin;refine Lib.wpList_append_run _ rfl _ _ _ _ rfl _ _ rfl rfl _ _ (Ws _) ?_)
  |(at_builtin;refine wpList_copy_runI _ rfl _ _ 25 25 rfl _ _ rfl rfl (Mj _ (by rfl) _ _ _) ?_))
 go_region_law (go_loud (refine step_copy_runI rfl _ _ 25 25 rfl (.slice (some ⟨w.heap.size,(i+1)*4,none⟩) (n-i) (G-(i+1))) (.slice (some ⟨g,i*4,none⟩) (n-i) (c-i)) (by simp[Act.eval,Act.put]) (by simp[Act.eval,Act.put]) (Mk (W1.setRow w.heap.size row2).drew rfl 3 (G-(i+1)) (c-i)) ?_))
 go_wp2
 go_ret
 refine⟨G,rfl,row3,setRow_heap _ w.heap.size row2 _ 84 _ (setRow_heap W1 w.heap.size uc _ 84 _ HJ),by omega,Ql,HI,iV,⟨ri.os,ri.tape,ri.output,by have:=ri.size;simp_all,fun k hk _=>?_⟩⟩;rw[_root_.Go.setRow_other _ w.heap.size k _ (Nat.ne_of_lt hk)];exact(_root_.Go.setRow_other W1 w.heap.size k _ (Nat.ne_of_lt hk)).trans (EI k hk)
theorem aaF:C7 Tryz.prog 191 84 4:=Ml Mp HL Kh
set_option maxHeartbeats 4000000 in
set_option maxRecDepth 100000 in
theorem Ki(w:World)(g c n i j X:Nat)(xs:List Value)(cur:Array Value)(hg:w.heap[g]? = some (.cells cur 84 (0,0)))(iH:cur.size=c*4)(lx:cur.toList.take (n*4)=xs)(zy:xs.length=n*4) (Fu:i<j) (Rt:j≤n) (zq:n≤c) (hc:c≤maxLen) (hX:if c=j then X=0 else X=j*4)
  (h1:∀q∈xs,q.oneCell'=true) :
  Calls Tryz.prog 164 #[.slice (some ⟨g,0,none⟩) n c,.int .i64 i,.int .i64 j] w fun en w'=>en=.returned (.slice (some ⟨g,0,none⟩) (i+(n-j)) c) ∧ ∃gk:Array Value,w'.heap[g]? = some (.cells gk 84 (0,0))∧gk.size=cur.size∧gk.toList.take ((i+(n-j))*4)=xs.take (i*4)++xs.drop (j*4)∧w.grownBy w' (some g):=by
 have ht:Tryz.prog.underlying 25=some (.slice 84):=by kernel_rfl
 have hz:(Tryz.prog.info? 84).map (·.size)=some 4:=by kernel_rfl
 obtain⟨zs,Iu⟩:∃zs,Bi Tryz.prog 84=some zs:=abY.1 (by kernel_rfl);obtain⟨i0,z0,hi0,hz0,rfl,zt⟩:=pT Iu;obtain⟨i1,z1,he⟩:=cd (P:=Tryz.prog) (e:=84) (k:=.pair (.pair (.int .i64) (.int .i64)) (.pair .str (.int .i64))) (by kernel_rfl);have ei:i1=i0:=by have:=he.info;simp_all
 subst ei;have ez:z1=z0:=by have:=he.zero;simp_all
 subst ez;have Lr:z1.cells.size=4:=he.vW;clear he Iu;have Kc:(xs.drop (j*4)).length=(n-j)*4:=by grind
 obtain⟨cur1,si⟩:∃cur1:Array Value,cur1=(cur.toList.take (i*4)++xs.drop (j*4)++cur.toList.drop (i*4+(xs.drop (j*4)).length)).toArray:=⟨_,rfl⟩;have Ma:cur1.size=cur.size:=by grind
 have Xp:∀ty sc,(Builtin.append_ #[25,25] ty #[.slice (some ⟨g,0,none⟩) i c,.slice (some ⟨g,X,none⟩) (n-j) sc]).run Tryz.prog w.drew=.ok (.slice (some ⟨g,0,none⟩) (i+(n-j)) c) (w.drew.setRow g cur1):=fun ty sc=>by
  by_cases T9:c=j
  ·have hnj:n=j:=by omega
   have:n-j=0:=by omega
   rw[this]at Kc ⊢;have LF:xs.drop (j*4)=[]:=abS (by omega);rw[fB ht hi0 _ _ _ (by omega) _ _,si,LF];simp only[List.append_nil,List.length_nil,Nat.add_zero,List.take_append_drop,Array.toArray_toList];rw[setRow_self w.drew g cur 84 (0,0) hg]
  ·rw[if_neg T9]at hX;subst hX;rw[si];exact oT (P:=Tryz.prog) w.drew 25 ty 84 4 g i c ⟨g,j*4,none⟩ (n-j) sc cur (xs.drop (j*4)) ht hz hg Kc (vo (size:=4) (n:=n) (w:=w.drew) hg lx (j*4)) (fun q hq=>h1 q (acW hq)) (by omega) (by omega)
 obtain⟨dg,w5⟩:∃dg:Array Value,dg=(cur1.toList.take ((i+(n-j))*4)++(Builtin.zeroCells z1.cells (j-i)).toList++cur1.toList.drop ((i+(n-j))*4+(Builtin.zeroCells z1.cells (j-i)).toList.length)).toArray:=⟨_,rfl⟩;have hzc:(Builtin.zeroCells z1.cells (j-i)).toList.length=(j-i)*4:=by simp[Builtin.zeroCells,Lr]
 have Px:dg.size=cur.size:=by rw[w5];simp[hzc];omega
 have uW:∀ty sc,(Builtin.clear_ #[25] ty #[.slice (some ⟨g,(i+(n-j))*4,none⟩) (n-(i+(n-j))) sc]).run Tryz.prog (w.drew.setRow g cur1)=.ok (.tuple #[]) ((w.drew.setRow g cur1).setRow g dg):=fun ty sc=>by have:=sf (P:=Tryz.prog) (w.drew.setRow g cur1) 25 ty 84 4 g ((i+(n-j))*4) (j-i) sc cur1 i1 z1 ht hi0 hz0 Lr zt (setRow_heap w.drew g cur _ 84 _ hg) (by omega) (by omega);rw[show n-(i+(n-j))=j-i by omega,this,w5]
 have iV:dg.toList.take ((i+(n-j))*4)=xs.take (i*4)++xs.drop (j*4):=Kf (cur1:=cur1.toList) lx (by simp;omega) (by omega) Rt (by rw[si]) (by rw[w5]);clear si w5 lx Kc;have h63:c≤9223372036854775807:=by grind [maxLen]
 have te:i≤n:=by omega
 have hic:¬(c=i):=by omega
 have hjc:j≤c:=by omega
 have bw:¬((i:Int)=(j:Int)):=by omega
 have qO:i≤j:=by omega
 have ajx:i≤c:=by omega
 have ajy:i+(n-j)≤n:=by omega
 have ajz:i+(n-j)≤c:=by omega
 have ajA:¬(c=i+(n-j)):=by omega
 have ajB:(i:Int)+((n-j:Nat):Int)≤(n:Int):=by omega
 have mixed:Tryz.prog.follows .mixedOrders=true:=by kernel_rfl
 by_cases T9:c=j
 ·rw[if_pos T9]at hX;subst hX;subst T9;obtain rfl:n=c:=by omega
  simp only[Nat.sub_self,Nat.add_zero]at Xp uW iV ⊢
  go_enter Tryz.func164,Tryz.ntmps164
  go_wp2_with fail
  go_region_law (go_loud (refine iJ rfl _ _ 25 25 rfl (.slice (some ⟨g,0,none⟩) i n) (.slice (some ⟨g,0,none⟩) 0 0) (by simp[Act.eval,Act.put]) (by simp[Act.eval,Act.put]) (Xp 25 0) ?_))
  go_wp2_with (simp only[uW])
  go_ret
  refine⟨rfl,dg,setRow_heap _ g cur1 _ 84 _ (setRow_heap w.drew g cur _ 84 _ hg),Px,iV,⟨rfl,rfl,rfl,by simp_all,fun k hk Qm=>?_⟩⟩;have vu:k≠g:=fun e=>Qm (by rw[e]);rw[_root_.Go.setRow_other _ g k _ vu,_root_.Go.setRow_other _ g k _ vu];rfl
 ·rw[if_neg T9]at hX;subst hX
  go_enter Tryz.func164,Tryz.ntmps164
  go_wp2_with fail
  go_region_law (go_loud (refine iJ rfl _ _ 25 25 rfl (.slice (some ⟨g,0,none⟩) i c) (.slice (some ⟨g,j*4,none⟩) (n-j) (c-j)) (by simp[Act.eval,Act.put]) (by simp[Act.eval,Act.put]) (Xp 25 (c-j)) ?_))
  go_wp2_with (simp only[uW])
  go_ret
  refine⟨rfl,dg,setRow_heap _ g cur1 _ 84 _ (setRow_heap w.drew g cur _ 84 _ hg),Px,iV,⟨rfl,rfl,rfl,by simp_all,fun k hk Qm=>?_⟩⟩;have vu:k≠g:=fun e=>Qm (by rw[e]);rw[_root_.Go.setRow_other _ g k _ vu,_root_.Go.setRow_other _ g k _ vu];rfl
theorem aaG:Mo Tryz.prog 164 84 4:=fun w v n i j xs hv Fu Rt hm h1=>by
 rcases hv.2 with⟨h0,_⟩|⟨g,c,cur,rfl,Zd,hg,zq,Wt,iH,lx⟩
 ·omega
 have oa:ob (.slice (some ⟨g,0,none⟩) n c)=some g:=by simp only[ob];grind
 refine(Ki w g c n i j (if c=j then 0 else j*4) xs cur hg iH lx hv.1 Fu Rt zq Wt (by split<;>rfl) h1).mono fun en w' ⟨e1,gk,e2,e3,e4,e5⟩=>?_;refine⟨_,e1,⟨?_,.inr ⟨g,c,gk,rfl,Zd,e2,by omega,Wt,by rw[e3,iH],e4⟩⟩,by simp_all,?_⟩
 ·grind
 rfl
set_option maxHeartbeats 4000000 in
set_option maxRecDepth 100000 in
theorem Mq:HF Tryz.prog 220 42 6:=fun w v u n xs ys hv hu hm h1=>by
 have ht:Tryz.prog.underlying 28=some (.slice 42):=by kernel_rfl
 obtain⟨i0,z0,he⟩:=cd (P:=Tryz.prog) (e:=42) (k:=.pair (.pair (.pair (.int .i64) (.int .i64)) (.int .i64)) (.pair (.pair (.int .i64) (.int .i64)) (.int .i64))) (by kernel_rfl);have xT:=HH hu h1;obtain⟨v',w',c9,h4,h5,h6⟩:=dL (P:=Tryz.prog) (ty:=28) ht he hv xT hm;obtain⟨A,c,rfl⟩:=hv.slice;have zq:n≤c:=by
  rcases hv.2 with⟨h0,A,e⟩|⟨g,cap,cur,e,hc,h2,h3,_⟩
  ·omega
  simp_all
 obtain⟨B,cu,rfl⟩:=hu.slice;have ad8:n≤1073741824:=by grind [eW]
 go_enter Tryz.func220,Tryz.ntmps220
 go_wp2_with (at_builtin;refine Lib.wpList_append_run _ rfl _ _ _ _ rfl _ _ rfl rfl _ _ c9 ?_)
 all_goals go_ret
 all_goals first|exact⟨_,rfl,h4,h5,h6⟩|(subst_vars;exact⟨_,rfl,h4,h5,h6⟩)
set_option maxHeartbeats 4000000 in
set_option maxRecDepth 100000 in
theorem HM:w4 Tryz.prog 220 42 6:=fun w g c g2 c2 n i xs ys cur dg hg iH lx zy vK oU oE lg EH bw hi dy hc h1 h2=>by
 have ht:Tryz.prog.underlying 28=some (.slice 42):=by kernel_rfl
 have hz:(Tryz.prog.info? 42).map (·.size)=some 6:=by kernel_rfl
 have Iu:∀w,(Go.sizeOf 42).run Tryz.prog w=.ok 6 w:=fun w=>by rfl
 have Wu:∀a2 lb cb,(callFunc 232 #[.slice (some ⟨g2,0,none⟩) 1 c2,.slice (some ⟨g,a2,none⟩) lb cb]).run Tryz.prog w=.ok (.value (.bool false)) w:=fun a2 lb cb=>by rw[run_callFunc_extern Tryz.func232 (by kernel_rfl) (by kernel_rfl) (by kernel_rfl) (e:=Extern.SlicesOverlaps.overlaps #[28,28] #[4]) (by kernel_rfl),Lib.run_overlaps_apart w 28 4 42 ht 6 Iu ⟨g2,0,none⟩ ⟨g,a2,none⟩ 1 c2 lb cb bw 42 42 dg.size cur.size (by simp[World.shape?,vK]) (by simp[World.shape?,hg]) (by omega) (by simp[World.frozen?,vK]) (by simp[World.frozen?,vK])];rfl
 obtain⟨cur1,cur3,Mi,Kd,RA,iV⟩:=vp ht hz w g c g2 c2 n i xs ys cur dg hg iH lx zy vK oU oE lg EH bw hi dy hc h1 h2;have h63:c≤9223372036854775807:=by grind [maxLen]
 obtain⟨Nw,Mn,Ze,te,htn,Eo,hb3,hb4,Ee,Ph⟩:=vq hi dy hc;clear lx lg;have mixed:Tryz.prog.follows .mixedOrders=true:=by kernel_rfl
 go_enter Tryz.func220,Tryz.ntmps220
 go_wp2_with (simp only[Wu])
 go_region_law (go_loud (refine step_copy_runI rfl _ _ 28 28 rfl (.slice (some ⟨g,(i+1)*6,none⟩) (n-i) (c-(i+1))) (.slice (some ⟨g,i*6,none⟩) (n+1-i) (c-i)) (by simp[Act.eval,Act.put]) (by simp[Act.eval,Act.put]) (Mi w.drew rfl 3 (c-(i+1)) (c-i)) ?_))
 go_wp2_with (simp only[Kd])
 go_ret
 refine⟨rfl,cur3,setRow_heap _ g cur1 _ 42 _ (setRow_heap w.drew g cur _ 42 _ hg),RA,iV,⟨rfl,rfl,rfl,by simp_all,fun k hk Qm=>?_⟩⟩;have vu:k≠g:=fun e=>Qm (by rw[e]);rw[_root_.Go.setRow_other _ g k _ vu,_root_.Go.setRow_other _ g k _ vu];rfl
set_option maxHeartbeats 4000000 in
set_option maxRecDepth 100000 in
theorem Kj:A3 Tryz.prog 220 42 6:=fun w g c g2 c2 n i xs ys cur dg hg iH lx zy vK oU oE lg EH bw hi zq dy hm h1 h2=>by
 have ht:Tryz.prog.underlying 28=some (.slice 42):=by kernel_rfl
 obtain⟨i0,z0,he⟩:=cd (P:=Tryz.prog) (e:=42) (k:=.pair (.pair (.pair (.int .i64) (.int .i64)) (.int .i64)) (.pair (.pair (.int .i64) (.int .i64)) (.int .i64))) (by kernel_rfl);obtain⟨G,uc,row2,row3,W1,Ws,HJ,EI,ri,Mj,Mk,RA,Ql,HI,iV⟩:=yD (sz:=6) rfl (by decide) ht (by kernel_rfl) he w g c g2 c2 n i xs ys cur dg hg iH lx zy vK oU oE lg EH bw hi zq dy hm h1 h2;obtain⟨Nw,Mn,hw3,Ze,te,aeb,hGi,aec,hci,hb3,Ee,Ph⟩:=yE hi zq dy hm Ql;unfold eW at hm;clear lx lg;have mixed:Tryz.prog.follows .mixedOrders=true:=by kernel_rfl
 go_enter Tryz.func220,Tryz.ntmps220
 go_wp2_with (first
  |(at_builtin;refine Lib.wpList_append_run _ rfl _ _ _ _ rfl _ _ rfl rfl _ _ (Ws _) ?_)
  |(at_builtin;refine wpList_copy_runI _ rfl _ _ 28 28 rfl _ _ rfl rfl (Mj _ (by rfl) _ _ _) ?_))
 go_region_law (go_loud (refine step_copy_runI rfl _ _ 28 28 rfl (.slice (some ⟨w.heap.size,(i+1)*6,none⟩) (n-i) (G-(i+1))) (.slice (some ⟨g,i*6,none⟩) (n-i) (c-i)) (by simp[Act.eval,Act.put]) (by simp[Act.eval,Act.put]) (Mk (W1.setRow w.heap.size row2).drew rfl 3 (G-(i+1)) (c-i)) ?_))
 go_wp2
 go_ret
 refine⟨G,rfl,row3,setRow_heap _ w.heap.size row2 _ 42 _ (setRow_heap W1 w.heap.size uc _ 42 _ HJ),by omega,Ql,HI,iV,⟨ri.os,ri.tape,ri.output,by have:=ri.size;simp_all,fun k hk _=>?_⟩⟩;rw[_root_.Go.setRow_other _ w.heap.size k _ (Nat.ne_of_lt hk)];exact(_root_.Go.setRow_other W1 w.heap.size k _ (Nat.ne_of_lt hk)).trans (EI k hk)
theorem aaH:C7 Tryz.prog 220 42 6:=Ml Mq HM Kj
def NY(P:Program)(f:FuncId)(e:TypeId)(size:Nat):Prop :=∀(w:World) (n:Nat),n≤eW→Calls P f #[.slice none 0 0,.int .i64 n] w fun en w'=>∃v',en=.returned v'∧dI w' e size v' 0 []∧w.grownBy w' none∧∀b,ob v'=some b→w.heap.size≤b
set_option maxHeartbeats 4000000 in
set_option maxRecDepth 100000 in
theorem Xq:NY Tryz.prog 222 40 3:=fun w n hm=>by
 have ht:Tryz.prog.underlying 36=some (.slice 40):=by kernel_rfl
 have htn:Tryz.prog.underlying 3=some (.int .i64):=by kernel_rfl
 obtain⟨i0,z0,he⟩:=cd (P:=Tryz.prog) (e:=40) (k:=.pair (.pair (.int .i64) (.int .i64)) (.int .i64)) (by kernel_rfl);have Lr:z0.cells.size=3:=he.vW;have Iu:i0.size=3:=he.size;have Ls:=he.bytes;unfold eW at hm;by_cases hn:n=0
 ·subst hn;have oa:ob (.slice none 0 0)=none:=rfl
  go_enter Tryz.func222,Tryz.ntmps222
  go_wp2
  go_ret
  exact⟨_,rfl,⟨by simp,.inl ⟨rfl,none,rfl⟩⟩,World.grownBy.refl w _,fun b hb=>by simp_all⟩
 ·have rI:n*i0.bytes≤281474976710656:=ab0 (aeg hm Ls) (by decide);obtain⟨G,hG⟩:∃G,G=grownCap w n 0 40:=⟨_,rfl⟩;obtain⟨uc,aaB⟩:∃uc,uc=Builtin.zeroCells z0.cells n++Builtin.zeroCells z0.cells (G-n):=⟨_,rfl⟩;obtain⟨W1,F7⟩:∃W1,W1=w.drew.alloc (.cells uc 40):=⟨_,rfl⟩;have Ws:∀ty,(Builtin.append_ #[36,3] ty #[.slice none 0 0,.int .i64 n]).run Tryz.prog w=.ok (.slice (some ⟨w.heap.size,0,none⟩) n G) W1:=fun ty=>by rw[F7,aaB,hG];exact Lib.run_append_nil_zeros w 36 3 ty 40 i0 z0 .i64 .i64 ht htn he.info he.zero n (by omega) (by omega) (by omega) rI
  have Ql:n≤G:=by grind [grownCap_ge]
  have HI:G≤9223372036854775807:=by
   grind [grownCap_le_maxLen,maxLen]
  have hRs:uc.size=G*3:=by
   grind [Builtin.zeroCells]
  have HJ:W1.heap[w.heap.size]? = some (.cells uc 40 (0,0)):=by rw[F7];exact(MapKept.heap_alloc w.drew (.cells uc 40)).1
  have EI:∀b,b<w.heap.size→W1.heap[b]? = w.heap[b]? := fun b hb=>by rw[F7];exact(Below.heap_alloc w.drew (.cells uc 40) b hb).trans rfl
  have ri:w.grownBy W1 none:=⟨by rw[F7];rfl,by rw[F7];rfl,by rw[F7];rfl,by simp_all,fun k hk _=>EI k hk⟩;clear aaB F7 hG;have hn0:¬((n:Int)<0):=by omega
  have hn1:0<(n:Int):=by omega
  have hn2:IntKind.i64.wrap (n:Int)=n:=by rw[IntKind.wrap_i64];omega
  have hG0:¬(G=0):=by omega
  go_enter Tryz.func222,Tryz.ntmps222
  go_wp2_with (at_builtin;refine Lib.wpList_append_run _ rfl _ _ _ _ rfl _ _ rfl rfl _ _ (Ws _) ?_)
  go_ret
  refine⟨.slice (some ⟨w.heap.size,0,none⟩) 0 G,rfl,⟨by simp,.inr ⟨w.heap.size,G,uc,rfl,by omega,HJ,by omega,HI,hRs,by simp⟩⟩,ri,fun b hb=>?_⟩;simp_all [ob,if_neg]
theorem Kk{P:Program}{f:FuncId}{ty:TypeId}{k:K}(hr:NY P f ty k.sz):gY P f (RL ty k):=by
 intro Z ψ h w B0 O N hh id e vs us g hB bz hN bm mX sS BR he;unfold RL at he
 split at he
 rotate_left
 ·cases he
 rename_i n;simp only[Option.some.injEq,Prod.mk.injEq]at he;obtain⟨kG,rfl⟩:=he;simp only[Bo,Bool.and_eq_true,decide_eq_true_eq]at kG;obtain⟨h0,h1⟩:=kG;obtain⟨m,rfl⟩:∃m:Nat,n=m:=⟨n.toNat,by omega⟩;simp only[ar,az]at sS;obtain⟨v,_,rfl,rfl,u,_,rfl,rfl,rfl⟩:=sS;have bL:N id:=hN 0 (by omega);refine(hr w m (by omega)).mono fun en w' ⟨v',e1,e2,e3,e4⟩=>?_;have kk:cO ψ h w w':=cO.grown e3 (fun b e=>by cases e);have PX:=oD (N:=N) g hB id ty bL (k:=k) (xs:=[]) (vs:=[]) kk (fun b hb=>e3.block b (g.bO hb) (by simp)) e2 (fun i x hx=>by simp at hx) e4 (fun i ty cs hb=>aA.imp (p:=fun i=>¬N i) (q:=fun i=>i≠id) (fun a ha e=>ha (by simp_all)) (bm i ty cs hb));refine⟨v',Z,dS ψ id v',e1,?_,?_⟩
 ·have hhp:(bD.new (.bI id) [(id,Ob.own (.row ty k) [])]).hp h=dS h id (some (.own (.row ty k) [])):=gy id _ h;simp_all
 ·simp only[bD.v,az];exact⟨e2.one,fun _=>(ba _ _ _).symm⟩
end Go.Vs
namespace Go.Vs
variable {P:Program}
def AA(P:Program)(g:TypeId→K→Bool):List Field→Nat→K→Bool
 |[],_,_=>false
 |[f],off,k=>(f.name != "_")&&(decide (f.offset=off)&&(decide (P.cellsOf f.type=k.sz)&&g f.type k))
 |f::f'::r,off,.pair a b=>(f.name != "_")&&(decide (f.offset=off)&&(decide (P.cellsOf f.type=a.sz)&&(g f.type a&&AA P g (f'::r) (off+a.sz) b)))
 |_,_,_=>false
def Ua(P:Program):Nat→TypeId→K→Bool
 |0,_,_=>false
 |d+1,t,k =>
  match P.underlying t,k with
  |some (.int a),.int b=>decide (a=b)
  |some .bool,.bool=>true
  |some .string,.str=>true
  |some (.struct fs),.pair a b => !P.stoodInHeld t&&AA P (Ua P d) fs.toList 0 (.pair a b)
  |_,_=>false
def VK(w:World)(Z:Nat→Prop):(k:K)→k.T→Value→Prop
 |.pair a b,x,v=>∃cs:Array Value,v=.agg cs∧aH Z w (.pair a b) x cs.toList
 |.one k,x,v=>False
 |k,x,v=>aH Z w k x [v]
theorem A4{Z:Nat→Prop}{w:World}{d:Nat}{t:TypeId}{k:K}(hk:Ua P d t k=true)(hc:P.cellsOf t=k.sz){cs:Array Value}{off:Nat}{x:k.T}(hr:aH Z w k x ((cs.toList.drop off).take k.sz)) :
  ∃v,(part t cs off).run P w=.ok v w∧VK w Z k x v:=by
 cases d with
 |zero=>simp[Ua]at hk
 |succ d =>
  have plain:k.sz=1→(P.underlying t).map Lu=some false→∃v,(part t cs off).run P w=.ok v w∧aH Z w k x [v]:=fun h1 h2=>by
   rw[h1]at hr;have hl:=hr.len;rw[h1,List.length_take,List.length_drop,Array.length_toList]at hl;have aK:off<cs.size:=by omega
   refine⟨cs[off],?_,?_⟩
   ·simp[part,gx h2,aK]
   grind [List.drop_eq_getElem_cons]
  unfold Ua at hk
  split at hk
  ·rename_i a b hu;exact plain rfl (by rw[hu];rfl)
  ·rename_i hu;exact plain rfl (by rw[hu];rfl)
  ·rename_i hu;exact plain rfl (by rw[hu];rfl)
  ·rename_i fs a b hu;obtain⟨i,hi⟩:=ug hu;refine⟨.agg (cs.extract off (off+P.cellsOf t)),?_,_,rfl,?_⟩
   ·have h2:(P.underlying t).map Lu=some true:=by rw[hu];rfl
    simp[part,gx h2,dx hi]
   simp_all
  ·cases hk
def ki(em:Bool)(d:Nat)(cs:Array Value):List Field→Sem Unit
 |[]=>pure ()
 |f::fs =>
  if f.name≠ "_" then do
   let a ←part f.type cs f.offset
   Instr.checkKey em d f.type a
   ki em d cs fs
  else ki em d cs fs
theorem ud(em:Bool)(w:World)(d:Nat)(t:TypeId)(cs:Array Value)(fs:Array Field)(ht:P.underlying t=some (.struct fs)) :
  (Instr.checkKey em (d+1) t (.agg cs)).run P w=(ki em d cs fs.toList).run P w:=by
 simp only[Instr.checkKey,Sem.run_bind,run_underlying ht,Result.andThen_ok];rw[←Array.forIn_toList];generalize fs.toList=l;clear ht
 induction l generalizing w with
 |nil=>rfl
 |cons f fs ih =>
  simp only[List.forIn_cons,ki,Sem.run_bind,Sem.run_ite]
  split
  ·generalize (part f.type cs f.offset).run P w=r1
   cases r1 with
   |ok a w1 =>
    simp only[Result.andThen_ok];generalize (Instr.checkKey em d f.type a).run P w1=r2
    cases r2 with
    |ok b w2 =>simp_all
    |halt x w2=>rfl
   |halt x w1=>rfl
  simp_all
theorem Kl{Z:Nat→Prop}{D d:Nat}(em:Bool)(hg:∀t k,Ua P d t k=true→∀(w:World) (x y:k.T) (u v:Value),VK w Z k x u→VK w Z k y v→(Op.equalIn (D+d) t u v).run P w=.ok (sH k x y) w∧(Instr.checkKey em (D+d) t u).run P w=.ok () w)(w:World)(xs ys:Array Value) :
  ∀(fs:List Field) (off:Nat) (k:K),AA P (Ua P d) fs off k=true→∀(x y:k.T),aH Z w k x ((xs.toList.drop off).take k.sz)→aH Z w k y ((ys.toList.drop off).take k.sz) →(Op.eqFields (D+d) xs ys fs).run P w=.ok (sH k x y) w∧(ki em (D+d) xs fs).run P w=.ok () w
 |[],_,_,h,_,_,_,_=>by simp[AA]at h
 |[f],off,k,h,x,y,hx,hy=>by
  have h':f.name≠ "_"∧f.offset=off∧P.cellsOf f.type=k.sz∧Ua P d f.type k=true:=by
   grind [AA]
  obtain⟨h0,h1,h2,h3⟩:=h';subst h1;obtain⟨u,hu,hu'⟩:=A4 h3 h2 hx;obtain⟨v,hv,AK⟩:=A4 h3 h2 hy;obtain⟨e1,e2⟩:=hg _ _ h3 w x y u v hu' AK;constructor
  ·simp only[Op.eqFields,if_pos h0,Sem.run_bind,hu,hv,e1,Result.andThen_ok]
   cases sH k x y<;>simp
  simp_all [ki]
 |f::f'::r,off,.pair a b,h,x,y,hx,hy=>by
  simp only[AA,Bool.and_eq_true,decide_eq_true_eq,bne_iff_ne,ne_eq]at h;obtain⟨h0,h1,h2,h3,h4⟩:=h;subst h1;simp only[aH,K.sz]at hx hy;obtain⟨us,ws,ex,Ub,hx2⟩:=hx;obtain⟨jh,ws',ey,Zg,Zh⟩:=hy;have sp:∀(zs:Array Value) (us ws:List Value),us.length=a.sz→ws.length=b.sz→(zs.toList.drop f.offset).take (a.sz+b.sz)=us++ws→us=(zs.toList.drop f.offset).take a.sz∧ws=(zs.toList.drop (f.offset+a.sz)).take b.sz:=fun zs us ws l1 l2 e=>by
   rw[List.take_add,]at e;have hl:((zs.toList.drop f.offset).take a.sz).length=us.length:=by
    have:=congrArg List.length e
    grind
   grind [List.append_inj,List.drop_drop]
  obtain⟨rfl,rfl⟩:=sp xs us ws Ub.len hx2.len ex;obtain⟨rfl,rfl⟩:=sp ys jh ws' Zg.len Zh.len ey;obtain⟨u,hu,hu'⟩:=A4 h3 h2 Ub;obtain⟨v,hv,AK⟩:=A4 h3 h2 Zg;obtain⟨e1,e2⟩:=hg _ _ h3 w x.1 y.1 u v hu' AK;obtain⟨e3,e4⟩:=Kl em hg w xs ys (f'::r) (f.offset+a.sz) b h4 x.2 y.2 hx2 Zh;constructor
  ·rw[Op.eqFields,if_pos h0];simp only[Sem.run_bind,hu,hv,e1,Result.andThen_ok,Sem.run_ite,e3,sH]
   cases sH a x.1 y.1<;>simp
  ·rw[ki,if_pos h0];simp only[Sem.run_bind,hu,e2,Result.andThen_ok];exact e4
 |f::f'::r,off,.int _,h,_,_,_,_=>by simp[AA]at h
 |f::f'::r,off,.bool,h,_,_,_,_=>by simp[AA]at h
 |f::f'::r,off,.str,h,_,_,_,_=>by simp[AA]at h
 |f::f'::r,off,.sl _,h,_,_,_,_=>by simp[AA]at h
 |f::f'::r,off,.one _,h,_,_,_,_=>by simp[AA]at h
 |f::f'::r,off,.mp _ _,h,_,_,_,_=>by simp[AA]at h
theorem NZ{Z:Nat→Prop}(D:Nat)(em:Bool):∀(d:Nat) (t:TypeId) (k:K),Ua P d t k=true→∀(w:World) (x y:k.T) (u v:Value),VK w Z k x u→VK w Z k y v →(Op.equalIn (D+d) t u v).run P w=.ok (sH k x y) w∧(Instr.checkKey em (D+d) t u).run P w=.ok () w
 |0,_,_,h,_,_,_,_,_,_,_=>by simp[Ua]at h
 |d+1,t,k,h,w,x,y,u,v,hu,hv=>by
  rw[←Nat.add_assoc];unfold Ua at h
  split at h
  ·rename_i a b ht;simp only[decide_eq_true_eq]at h;subst h;simp only[VK,aH,List.cons.injEq,and_true]at hu hv;subst hu;subst hv;exact⟨run_equalIn_int w _ _ _ _ _ _ ht,by simp[Instr.checkKey,run_underlying ht]⟩
  ·rename_i ht;simp only[VK,aH,List.cons.injEq,and_true]at hu hv;subst hu;subst hv;exact⟨run_equalIn_bool' w _ _ _ _ ht,by simp[Instr.checkKey,run_underlying ht]⟩
  ·rename_i ht;simp only[VK,aH,List.cons.injEq,and_true]at hu hv;subst hu;subst hv;exact⟨(run_equalIn_string w _ _ _ _ ht).trans (congrArg (fun b=>Result.ok b w) (beq_toListBytes (show ByteArray from x) (show ByteArray from y)).symm),by simp[Instr.checkKey,run_underlying ht]⟩
  ·rename_i fs a b ht;simp only[Bool.and_eq_true,Bool.not_eq_true']at h;obtain⟨hs,hf⟩:=h;obtain⟨xs,rfl,hx⟩:=hu;obtain⟨ys,rfl,hy⟩:=hv;have hfo:P.fieldsOf t=fs:=by simp[Program.fieldsOf,ht]
   have zy:=hx.len;have EH:=hy.len;obtain⟨e1,e2⟩:=Kl (D:=D) (Z:=Z) em (fun t k hk w x y u v hu hv=>NZ D em d t k hk w x y u v hu hv) w xs ys fs.toList 0 (.pair a b) hf x y (by grind) (by grind)
   grind [run_equalIn_struct,ud]
  ·cases h
theorem Qn{d:Nat}{t:TypeId}{a b:K}(hd:d≤10000)(hk:Ua P d t (.pair a b)=true)(hg:P.eqGuardType P.depth t=false):mn P t (.pair a b):=fun Z w x y xs ys hx hy=>by
 have e:10000-d+d=10000:=by omega
 have key:=fun em=>NZ (Z:=Z) (10000-d) em d t (.pair a b) hk w x y (.agg xs) (.agg ys) ⟨xs,rfl,hx⟩ ⟨ys,rfl,hy⟩;rw[e]at key;exact⟨(key true).1,fun op p q=>run_eqGuard_agg w op t p q xs ys hg,fun em=>(key em).2⟩
end Go.Vs
namespace Go.Vs
open Go.Proofs
theorem Uc{f:FuncId}{g:aO}(h:Sg f=some g):(f,g)∈sgs:=by
 unfold Sg at h;obtain⟨p,hp,rfl⟩:=ab5.1 h
 grind
theorem lM:∀f g,Sg f=some g→jD Tryz.prog (f%1000):=fun f g h=>by
 have hm:=Uc h;have key:(sgs.all fun p=>match Tryz.prog.funcs[p.1%1000]? with|some fn => !(fn.name== "runtime.NumGoroutine")&&fn.body.isSome|none=>false)=true:=by kernel_rfl
 have:=ab7.1 key _ hm;simp only at this
 split at this
 ·rename_i fn hf;simp only[Bool.and_eq_true,Bool.not_eq_true']at this;exact⟨fn,hf,this.1,this.2⟩
 ·cases this
theorem tD:Tryz.prog.follows .mixedOrders=true:=by kernel_rfl
theorem Da:∀t k,Eqs t=some k→mn Tryz.prog t k:=fun t k h=>by
 unfold Eqs at h;obtain⟨p,hp,rfl⟩:=ab5.1 h;have h1:=ab8 hp;have h2:=acR hp;have e:p.1=t:=by simpa using h2
 subst e;simp only[eqs,List.mem_cons,List.not_mem_nil,or_false]at h1;rcases h1 with rfl|rfl|rfl|rfl|rfl|rfl
 all_goals exact Qn (d:=5) (by omega) (by kernel_rfl) (by kernel_rfl)
end Go.Vs
set_option maxRecDepth 1000000
set_option maxHeartbeats 0
namespace Go.Vs
open Go.Proofs
def Xr:aO:={ ps:=[.own],bs:=[.own (.row 38 cX)],rs:=[.own (.row 38 cX)] }
def Xs:aO:={ ps:=[.own],bs:=[.own (.row 84 dz)],rs:=[.own (.row 84 dz)] }
def lN:aO:={ ps:=[.agg 2],bs:=[.own (.row 38 cX),.own (.row 84 dz)],rs:=[.agg [.own (.row 38 cX),.own (.row 84 dz)]] }
def tE(ty:TypeId)(k:K)(h:Heap)(id:Nat):List AV→Option (Bool×bD)
 |[.bI a]=>match dZ h (.row ty k) (.bI a) with
  |some xs=>some (aL 0 xs.length,.new (.bI (id+128)) [(id+128,.own (.row ty k) xs)])
  |_=>none
 |_=>none
def ajF:aO:={ ps:=[],bs:=[],rs:=[],x:=some (tE 38 cX) }
def ajG:aO:={ ps:=[],bs:=[],rs:=[],x:=some (tE 84 dz) }
def aaI:List (Nat×aO):=[(500109,Xr),(500110,Xs)]
def Zi(f:FuncId):Option aO:=(aaI.find? (fun p=>p.1==f)).map (fun p=>p.2)
def aaJ:List (Nat×aO):=[(111,Ay),(500083,lN),(500109,ajF),(500110,ajG)]
def Ww(f:FuncId):Option aO:=(aaJ.find? (fun p=>p.1==f)).map (fun p=>p.2)
def Km:Shape:=⟨[(14,.int .i64),(15,.int .i64)],[(.slot 2,20000,.box 27 [.own (.row 38 cX),.own (.row 84 dz)]),(.slot 3,20001,.box 27 [.own (.row 38 cX),.own (.row 84 dz)])],[(6,1000,(.row 38 (.pair (.pair (.int .i64) (.int .i64)) (.pair (.sl (.pair (.pair (.int .i64) (.int .i64)) (.int .i64))) (.pair .str (.int .i64)))))),(9,1020,(.row 84 (.pair (.pair (.int .i64) (.int .i64)) (.pair .str (.int .i64)))))],[]⟩
def An0(f:FuncId)(key:Nat):Option Shape:=none
def An1(f:FuncId)(key:Nat):Option Shape:=if f=500083 then(if key=3 then some Km else none) else none
noncomputable def Ud(SG:FuncId→Option aO)(AN:FuncId→Nat→Option Shape)(f:FuncId)(g:aO)(fn:Func)(F:FT)(J:JT g)(x:g.A):Option g.B:=aD Tryz.prog Eqs SG F fn.ntmps (AN f) J (rG Tryz.prog g fn) fuel [.code (fn.body.getD .skip)] (entry g x)
noncomputable def aaL(SG:FuncId→Option aO)(AN:FuncId→Nat→Option Shape)(f j:Nat)(g:aO)(fn:Func)(sh:Shape)(F:FT)(J:JT g)(x:sh.T):Option g.B:=aD Tryz.prog Eqs SG F fn.ntmps (AN f) J (rG Tryz.prog g fn) fuel (round (aM Tryz.prog (f%1000) j)) (av sh x)
theorem aeh(F:FT)(J:JT Xr)(x:(Unit×((List ai)×Unit))):Ud Zi An0 500109 Xr Tryz.f109 F J x = cond (List.isEmpty x.2.1) (tY 2 fun(j1:Nat) =>cond ((j1==0)==true) (some ((([]:List ai),()),x.2)) (cond (aL (List.length ([]:List ai)) (List.length x.2.1)) (some (((([]:List ai)++x.2.1),()),x.2)) (none))) (cond (aL (List.length ([]:List ai)) (List.length x.2.1)) (some (((([]:List ai)++x.2.1),()),x.2)) (none)):=by kernel_rfl
theorem aei(F:FT)(J:JT Xs)(x:(Unit×((List aj)×Unit))):Ud Zi An0 500110 Xs Tryz.f110 F J x = cond (List.isEmpty x.2.1) (tY 2 fun(j1:Nat) =>cond ((j1==0)==true) (some ((([]:List aj),()),x.2)) (cond (aL (List.length ([]:List aj)) (List.length x.2.1)) (some (((([]:List aj)++x.2.1),()),x.2)) (none))) (cond (aL (List.length ([]:List aj)) (List.length x.2.1)) (some (((([]:List aj)++x.2.1),()),x.2)) (none)):=by kernel_rfl
theorem aej(F:FT)(J:JT Ay)(x:(((List ab)×Unit)×Unit)):Ud Ww An1 111 Ay Tryz.f111 F J x = cond (List.isEmpty x.1.1) (tY 2 fun(j1:Nat) =>cond ((j1==0)==true) (some ((([]:List ab),()),())) (cond (aL (List.length ([]:List ab)) (List.length x.1.1)) (some (((([]:List ab)++x.1.1),()),())) (none))) (cond (aL (List.length ([]:List ab)) (List.length x.1.1)) (some (((([]:List ab)++x.1.1),()),())) (none)):=by kernel_rfl
theorem aek(F:FT)(J:JT lN)(x:(Unit×((List ai)×((List aj)×Unit)))):Ud Ww An1 500083 lN Tryz.f83 F J x = cond (aL 0 (List.length x.2.1)) (cond (aL 0 (List.length x.2.2.1)) (J Km (aM Tryz.prog 83 0) (((((List.length x.2.1):Nat):Int),((0:Int),())),(((([]:List ai),(([]:List aj),())),((x.2.1,x.2.2),())),(x.2.1,x.2.2)))) (none)) (none):=by kernel_rfl
theorem N0(F:FT)(J:JT lN)(x:((Int×(Int×Unit))×((((List ai)×((List aj)×Unit))×(((List ai)×((List aj)×Unit))×Unit))×((List ai)×((List aj)×Unit))))):aaL Ww An1 500083 0 lN Tryz.f83 Km F J x = cond (decide (x.1.2.1<x.1.1)) (cond ((decide ((0:Int)≤x.1.2.1))&&(decide (x.1.2.1<(((List.length x.2.1.2.1.1):Nat):Int)))) (((x.2.1.2.1.1)[(Int.toNat x.1.2.1)]?).bind fun(y1:ai) =>(F 111 Ay ((y1.2.1,()),())).bind fun(y2:(((List ab)×Unit)×Unit)) =>cond ((decide ((0:Int)≤x.1.2.1))&&(decide (x.1.2.1<(((List.length x.2.1.2.1.1):Nat):Int)))) (((x.2.1.2.1.1)[(Int.toNat x.1.2.1)]?).bind fun(y3:ai) =>J Km (aM Tryz.prog 83 0) ((x.1.1,((IntKind.wrap .i64 (x.1.2.1+(1:Int))),())),(((x.2.1.1.1,x.2.1.1.2),(((List.set x.2.1.2.1.1 (Int.toNat x.1.2.1) (y3.1,(y2.1.1,y3.2.2))),x.2.1.2.1.2),())),(x.2.2.1,x.2.2.2)))) (none)) (none)) (some (((x.2.1.2.1.1,x.2.1.2.1.2),()),(x.2.2.1,x.2.2.2))):=by kernel_rfl
end Go.Vs
namespace Go.Vs
open Go.Proofs
variable {P:Program}
theorem uG{f:FuncId}{ty:TypeId}{k:K}(hf:f%1000=f)(hc:∀(xs:List k.T),aL 0 xs.length=true→FC P f ⟨[.own],[.own (.row ty k)],[.own (.row ty k)],none⟩ ((),(xs,())) ((xs,()),(xs,()))):gY P f (tE ty k):=by
 intro Z ψ h w B0 O N hh id e vs us g hB bz hN bm mX sS BR he;unfold tE at he
 split at he
 rotate_left
 ·cases he
 rename_i a
 split at he
 rotate_left
 ·cases he
 rename_i xs BC;simp only[Option.some.injEq,Prod.mk.injEq]at he;obtain⟨kG,rfl⟩:=he;have ha:h a=some (.own (.row ty k) xs):=bz _ _ (kc BC);have N1:h a≠none:=by rw[ha];simp
 simp only[ar,az]at sS;obtain⟨v1,_,rfl,⟨_,xY⟩,rfl⟩:=sS;have xY:=xY N1;subst xY;simp only[aA,aI]at BR;have nR0:N (id+128):=hN 128 (by omega);have na:¬N a:=BR.1;have a0:a≠id+128:=fun e=>na (e▸nR0)
 let ψ0:Nat→Value:=fun i=>if i=1000 then ψ a else ψ i
 have p0:ψ0 1000=ψ a:=if_pos rfl
 let g0:aO:=⟨[.own],[.own (.row ty k)],[.own (.row ty k)],none⟩
 have te:qM g0 ((),(xs,()))=Heap.get [(1000,.own (.row ty k) xs)]:=rfl;have i0:qM g0 ((),(xs,())) 1000=some (.own (.row ty k) xs):=rfl;have iN:∀i,qM g0 ((),(xs,())) i≠none→i=1000:=fun i hi=>by simp_all [Heap.get,Ne.symm]
 have oin:∀q,Own ψ0 (qM g0 ((),(xs,()))) q→ob (ψ a)=some q:=fun q ⟨i,h1,h2⟩=>by simp_all
 have oh:∀q,Own ψ0 (qM g0 ((),(xs,()))) q→Own ψ h q:=fun q hq=>⟨a,N1,oin q hq⟩;have G0:Good Z ψ0 (qM g0 ((),(xs,()))) w w.heap.size (Own ψ0 (qM g0 ((),(xs,())))):=by
  refine⟨fun i ty cs k=>?_,fun i ok x k=>?_,fun i q h1 h2=>⟨fun hz=>?_,.inr ⟨i,h1,h2⟩⟩,fun i j q h1 h2 h3 h4=>?_,g.j7⟩
  ·grind
  ·have:=iN i (by rw[k];simp);subst this;rw[i0]at k;cases k;rw[p0];exact g.row a _ _ ha
  ·have:=iN i h1;subst this;rw[p0]at h2;exact(g.live a q N1 h2).1 hz
  grind
 have c0:(ψ a).cells=#[ψ a]∧(ψ a).oneCell'=true:=(g.row a _ _ ha).one;have R0:ar Z ψ0 (qM g0 ((),(xs,()))) w (G8 g0 ((),(xs,()))) [ψ a]:=by
  show ar Z ψ0 (qM g0 ((),(xs,()))) w [.bI 1000] [ψ a];simp only[ar,az]
  grind
 have R6:=hc xs kG Z ψ0 w [ψ a] G0 R0;rw[hf]at R6;refine R6.mono fun en w' ⟨V,Z',ψ',e1,zs,zf,kp,gd,bL,hr⟩=>?_;have q0:ψ' 1000=ψ a:=(bL 1000 (by show 1000∈[1000];simp)).trans p0;have o0:(kQ g0 ((xs,()),(xs,()))).get 1000=some (.own (.row ty k) xs):=rfl;have o2:(kQ g0 ((xs,()),(xs,()))).get 3000=some (.own (.row ty k) xs):=rfl;have gd:Good Z' ψ' (kQ g0 ((xs,()),(xs,()))).get w' w.heap.size (Own ψ0 (qM g0 ((),(xs,())))):=gd;have hr:az Z' ψ' (kQ g0 ((xs,()),(xs,()))).get w' (.bI 3000) V:=hr;generalize (kQ g0 ((xs,()),(xs,()))).get=out at *;have keep:cO ψ h w w':=⟨kp.os,kp.tape,kp.output,kp.size,fun q hq hn=>kp.block q hq fun ho=>hn (oh q ho)⟩;have sm:cm Z w w':=keep.same g;have cC:∀i q,i≠a→h i≠none→ob (ψ i)=some q→w'.heap[q]? = w.heap[q]? := fun i q k1 h1 h2 =>kp.block q (g.bO ⟨i,h1,h2⟩) fun ho=>k1 (g.apart i a q h1 N1 h2 (oin q ho))
 let eu:Nat→Value:=fun i=>if i=id+128 then ψ' 3000 else ψ i
 let H:Hp:=(bD.new (.bI (id+128)) [(id+128,.own (.row ty k) xs)]).hp h
 have s0:eu (id+128)=ψ' 3000:=if_pos rfl;have sn:∀i,i≠id+128→eu i=ψ i:=fun i k1=>if_neg k1;have H0:H (id+128)=some (.own (.row ty k) xs):=by grind [bD.hp,Heap.get]
 have Hn:∀i,i≠id+128→H i=h i:=fun i k1=>by show(bD.hp h _) _=_;simp[bD.hp,Heap.get,Ne.symm k1]
 have two:∀q,ob (ψ' 3000)=some q→¬Z' q∧(w.heap.size≤q∨ob (ψ a)=some q):=fun q h2=>by
  obtain⟨h3,h4⟩:=gd.live 3000 q (by rw[o2];simp) h2
  grind
 have one:∀q,ob (ψ a)=some q→¬Z' q:=fun q h2=>(gd.live 1000 q (by rw[o0];simp) (by grind)).1;have Xt:∀q,ob (ψ' 3000)=some q→ob (ψ a)=some q→False:=fun q h2 h3=>by have:=gd.apart 3000 1000 q (by rw[o2];simp) (by rw[o0];simp) h2 (by grind);omega
 have fresh:∀q,ob (ψ' 3000)=some q→w.heap.size≤q:=fun q h2=>(two q h2).2.resolve_right (Xt q h2);have ids:∀i,H i≠none→(h i≠none∧eu i=ψ i)∨N i:=fun i hi=>by
  grind
 have live:∀i q,i≠id+128→h i≠none→ob (ψ i)=some q→¬Z' q:=fun i q k1 h1 h2 hz=>by
  by_cases k3:i=a
  ·grind
  rcases zf q hz with k|k|k
  ·exact(g.live i q h1 h2).1 k
  ·grind
  ·have:=g.bO ⟨i,h1,h2⟩;omega
 refine⟨V,Z',eu,e1,⟨zs,fun q hq=>(zf q hq).imp (fun h=>h) fun k=>k.imp (oh q) fun h=>h,keep,ids,⟨fun i It cs k=>?_,fun i ok x k=>?_,fun i q h1 h2=>?_,fun i j q h1 h2 h3 h4=>?_,gd.j7⟩⟩,?_⟩
 ·have k1:i≠id+128:=fun e=>by grind
  have k3:i≠a:=fun e=>by grind
  have q7:h i=some (.box It cs):=(Hn i k1).symm.trans k;obtain⟨gg,vs,f1,f2,f3,f4⟩:=g.box i It cs q7;exact⟨gg,vs,(sn i k1).trans f1,(cC i gg k3 (by rw[q7];simp) (by rw[f1];rfl)).trans f2,f3.move zs sm (fun j hj bw=>(ids j bw).resolve_right hj) (bm i It cs q7),f4⟩
 ·by_cases k1:i=id+128
  ·subst k1;have k:H (id+128)=some (.own ok x):=k;rw[H0]at k;cases k;rw[s0];exact gd.row 3000 _ _ o2
  have q7:h i=some (.own ok x):=(Hn i k1).symm.trans k;rw[sn i k1];by_cases k3:i=a
  ·subst k3;rw[ha]at q7;cases q7;rw[←q0];exact gd.row 1000 _ _ o0
  exact(g.row i ok x q7).kept zs sm fun q hq=>cC i q k3 (by rw[q7];simp) hq
 ·by_cases k1:i=id+128
  ·grind
  ·have h1:h i≠none:=by grind
   rw[sn i k1]at h2;exact⟨live i q k1 h1 h2,(g.live i q h1 h2).2⟩
 ·have lt:∀j,j≠id+128→H j≠none→ob (eu j)=some q→q<w.heap.size:=fun j k1 k2 k3=>by rw[Hn j k1]at k2;rw[sn j k1]at k3;exact g.bO ⟨j,k2,k3⟩
  by_cases k1:i=id+128<;>by_cases k2:j=id+128
  ·omega
  ·grind
  ·grind
  ·rw[sn i k1]at h3;rw[sn j k2]at h4;exact g.apart i j q (by grind) (by grind) h3 h4
 ·simp only[az]at hr;show az Z' eu H w' (.bI (id+128)) V
  grind [az,trans]
theorem HN(hc:∀(xs:List cX.T) (ys:List dz.T),qi xs ys=true→FC P 83 lN ((),(xs,(ys,()))) (((xs,(ys,())),()),(xs,(ys,())))):gY P 83 Hr:=by
 intro Z ψ h w B0 O N hh id e vs us g hB bz hN bm mX sS BR he;unfold Hr at he
 split at he
 rotate_left
 ·cases he
 rename_i a b
 split at he
 rotate_left
 ·cases he
 rename_i xs ys BC Py
 split at he
 ·cases he
 rename_i z8;simp only[Option.some.injEq,Prod.mk.injEq]at he;obtain⟨kG,rfl⟩:=he;have ha:h a=some (.own (.row 38 cX) xs):=bz _ _ (kc BC);have hb:h b=some (.own (.row 84 dz) ys):=bz _ _ (kc Py);have N1:h a≠none:=by rw[ha];simp
 have Ls:h b≠none:=by rw[hb];simp
 simp only[ar,az]at sS;obtain⟨v,_,rfl,⟨cs,rfl,v1,_,LH,⟨_,xY⟩,v2,_,rfl,⟨_,AJ⟩,rfl⟩,rfl⟩:=sS;have xY:=xY N1;have AJ:=AJ Ls;subst xY AJ;simp only[aA,aI]at BR;have nR0:N (id+128):=hN 128 (by omega);have nR1:N (id+129):=hN 129 (by omega);have na:¬N a:=BR.1.1;have nb:¬N b:=BR.1.2.1;have a0:a≠id+128:=fun e=>na (e▸nR0);have a1:a≠id+129:=fun e=>na (e▸nR1);have b0:b≠id+128:=fun e=>nb (e▸nR0);have b1:b≠id+129:=fun e=>nb (e▸nR1)
 let ψ0:Nat→Value:=fun i=>if i=1000 then ψ a else if i=1020 then ψ b else ψ i
 have p0:ψ0 1000=ψ a:=if_pos rfl;have p1:ψ0 1020=ψ b:=(if_neg (by decide)).trans (if_pos rfl);have te:qM lN ((),(xs,(ys,())))=Heap.get [(1000,.own (.row 38 cX) xs),(1020,.own (.row 84 dz) ys)]:=rfl;have i0:qM lN ((),(xs,(ys,()))) 1000=some (.own (.row 38 cX) xs):=rfl;have i1:qM lN ((),(xs,(ys,()))) 1020=some (.own (.row 84 dz) ys):=rfl;have iN:∀i,qM lN ((),(xs,(ys,()))) i≠none→i=1000∨i=1020:=fun i hi=>by
  by_cases e0:i=1000
  ·exact .inl e0
  by_cases e1:i=1020
  ·exact .inr e1
  rw[te]at hi;simp[Heap.get,Ne.symm e0,Ne.symm e1]at hi
 have oin:∀q,Own ψ0 (qM lN ((),(xs,(ys,())))) q→ob (ψ a)=some q∨ob (ψ b)=some q:=fun q ⟨i,h1,h2⟩=>by
  rcases iN i h1 with rfl|rfl
  ·exact .inl (by rw[←p0];exact h2)
  ·exact .inr (by rw[←p1];exact h2)
 have oh:∀q,Own ψ0 (qM lN ((),(xs,(ys,())))) q→Own ψ h q:=fun q hq=>(oin q hq).elim (fun k=>⟨a,N1,k⟩) fun k=>⟨b,Ls,k⟩;have G0:Good Z ψ0 (qM lN ((),(xs,(ys,())))) w w.heap.size (Own ψ0 (qM lN ((),(xs,(ys,()))))):=by
  refine⟨fun i ty cs k=>?_,fun i ok x k=>?_,fun i q h1 h2=>⟨fun hz=>?_,.inr ⟨i,h1,h2⟩⟩,fun i j q h1 h2 h3 h4=>?_,g.j7⟩
  ·rcases iN i (by rw[k];simp) with rfl|rfl
   ·rw[i0]at k;cases k
   ·rw[i1]at k;cases k
  ·rcases iN i (by rw[k];simp) with rfl|rfl
   ·rw[i0]at k;cases k;rw[p0];exact g.row a _ _ ha
   ·rw[i1]at k;cases k;rw[p1];exact g.row b _ _ hb
  ·rcases iN i h1 with rfl|rfl
   ·rw[p0]at h2;exact(g.live a q N1 h2).1 hz
   ·rw[p1]at h2;exact(g.live b q Ls h2).1 hz
  ·rcases iN i h1 with rfl|rfl<;>rcases iN j h2 with rfl|rfl
   ·rfl
   ·rw[p0]at h3;rw[p1]at h4;exact absurd (g.apart a b q N1 Ls h3 h4) z8
   ·rw[p1]at h3;rw[p0]at h4;exact absurd (g.apart a b q N1 Ls h4 h3) z8
   ·rfl
 have c0:(ψ a).cells=#[ψ a]∧(ψ a).oneCell'=true:=(g.row a _ _ ha).one;have c1:(ψ b).cells=#[ψ b]∧(ψ b).oneCell'=true:=(g.row b _ _ hb).one;have R0:ar Z ψ0 (qM lN ((),(xs,(ys,())))) w (G8 lN ((),(xs,(ys,())))) [.agg cs]:=by show ar Z ψ0 (qM lN ((),(xs,(ys,())))) w [.agg [.bI 1000,.bI 1020]] [.agg cs];simp only[ar,az];exact⟨.agg cs,[],rfl,⟨cs,rfl,ψ a,[ψ b],LH,⟨c0,fun _=>p0.symm⟩,ψ b,[],rfl,⟨c1,fun _=>p1.symm⟩,rfl⟩,rfl⟩
 refine(hc xs ys kG Z ψ0 w [.agg cs] G0 R0).mono fun en w' ⟨V,Z',ψ',e1,zs,zf,kp,gd,bL,hr⟩=>?_;have q0:ψ' 1000=ψ a:=(bL 1000 (by show 1000∈[1000,1020];simp)).trans p0;have q1:ψ' 1020=ψ b:=(bL 1020 (by show 1020∈[1000,1020];simp)).trans p1;have o0:(kQ lN (((xs,(ys,())),()),(xs,(ys,())))).get 1000=some (.own (.row 38 cX) xs):=rfl;have o1:(kQ lN (((xs,(ys,())),()),(xs,(ys,())))).get 1020=some (.own (.row 84 dz) ys):=rfl;have o2:(kQ lN (((xs,(ys,())),()),(xs,(ys,())))).get 3000=some (.own (.row 38 cX) xs):=rfl;have o3:(kQ lN (((xs,(ys,())),()),(xs,(ys,())))).get 3001=some (.own (.row 84 dz) ys):=rfl;generalize (kQ lN (((xs,(ys,())),()),(xs,(ys,())))).get=out at *;have keep:cO ψ h w w':=⟨kp.os,kp.tape,kp.output,kp.size,fun q hq hn=>kp.block q hq fun ho=>hn (oh q ho)⟩;have sm:cm Z w w':=keep.same g;have cC:∀i q,i≠a→i≠b→h i≠none→ob (ψ i)=some q→w'.heap[q]? = w.heap[q]? := fun i q k1 k2 h1 h2 =>kp.block q (g.bO ⟨i,h1,h2⟩) fun ho=>(oin q ho).elim (fun k=>k1 (g.apart i a q h1 N1 h2 k)) fun k=>k2 (g.apart i b q h1 Ls h2 k)
 let κ:Nat→Nat:=fun i=>if i=id+128 then 3000 else if i=id+129 then 3001 else if i=a then 1000 else 1020
 let Wx:Nat→Prop:=fun i=>i=id+128∨i=id+129∨i=a∨i=b
 let eu:Nat→Value:=fun i=>if i=id+128 then ψ' 3000 else if i=id+129 then ψ' 3001 else ψ i
 let H:Hp:=(bD.new (.agg [.bI (id+128),.bI (id+129)]) [(id+128,.own (.row 38 cX) xs),(id+129,.own (.row 84 dz) ys)]).hp h
 have s0:eu (id+128)=ψ' 3000:=if_pos rfl;have s1:eu (id+129)=ψ' 3001:=(if_neg (by omega)).trans (if_pos rfl);have sn:∀i,i≠id+128→i≠id+129→eu i=ψ i:=fun i k1 k2=>(if_neg k1).trans (if_neg k2);have H0:H (id+128)=some (.own (.row 38 cX) xs):=by show(bD.hp h _) _=_;simp[bD.hp,Heap.get]
 have H1:H (id+129)=some (.own (.row 84 dz) ys):=by show(bD.hp h _) _=_;simp[bD.hp,Heap.get]
 have Hn:∀i,i≠id+128→i≠id+129→H i=h i:=fun i k1 k2=>by show(bD.hp h _) _=_;simp[bD.hp,Heap.get,Ne.symm k1,Ne.symm k2]
 have Ha:H a=some (.own (.row 38 cX) xs):=(Hn a a0 a1).trans ha;have Hb:H b=some (.own (.row 84 dz) ys):=(Hn b b0 b1).trans hb;have kap:∀i,Wx i→out (κ i)≠none∧ψ' (κ i)=eu i:=fun i hi=>by
  rcases hi with rfl|rfl|rfl|rfl
  ·have:κ (id+128)=3000:=if_pos rfl;rw[this,o2,s0];exact⟨by simp,rfl⟩
  ·have:κ (id+129)=3001:=(if_neg (by omega)).trans (if_pos rfl);rw[this,o3,s1];exact⟨by simp,rfl⟩
  ·have:κ i=1000:=(if_neg a0).trans ((if_neg a1).trans (if_pos rfl));rw[this,o0,q0,sn i a0 a1];exact⟨by simp,rfl⟩
  ·have:κ i=1020:=(if_neg b0).trans ((if_neg b1).trans (if_neg (fun k=>z8 k.symm)));rw[this,o1,q1,sn i b0 b1];exact⟨by simp,rfl⟩
 have ajJ:∀i j,Wx i→Wx j→κ i=κ j→i=j:=fun i j hi hj hk=>by have v1:κ (id+128)=3000:=if_pos rfl;have v2:κ (id+129)=3001:=(if_neg (by omega)).trans (if_pos rfl);have v3:κ a=1000:=(if_neg a0).trans ((if_neg a1).trans (if_pos rfl));have v4:κ b=1020:=(if_neg b0).trans ((if_neg b1).trans (if_neg (fun k=>z8 k.symm)));rcases hi with rfl|rfl|rfl|rfl<;>rcases hj with rfl|rfl|rfl|rfl<;>first|rfl|(rw[v1]at hk;first|(rw[v2]at hk;cases hk)|(rw[v3]at hk;cases hk)|(rw[v4]at hk;cases hk))|(rw[v2]at hk;first|(rw[v1]at hk;cases hk)|(rw[v3]at hk;cases hk)|(rw[v4]at hk;cases hk))|(rw[v3,v4]at hk;cases hk)|(rw[v4,v3]at hk;cases hk)
 have back:∀i q,Wx i→ob (eu i)=some q→¬Z' q∧(w.heap.size≤q∨ob (ψ a)=some q∨ob (ψ b)=some q):=fun i q hi h2=>by obtain⟨k1,k2⟩:=kap i hi;rw[←k2]at h2;obtain⟨h3,h4⟩:=gd.live (κ i) q k1 h2;exact⟨h3,h4.imp (fun h=>h) (oin q)⟩
 have rest:∀i,¬Wx i→i≠id+128∧i≠id+129∧i≠a∧i≠b:=fun i hi=>⟨fun k=>hi (.inl k),fun k=>hi (.inr (.inl k)),fun k=>hi (.inr (.inr (.inl k))),fun k=>hi (.inr (.inr (.inr k)))⟩;have mixed:∀i j q,Wx i→¬Wx j→h j≠none→ob (eu i)=some q→ob (ψ j)=some q→False:=fun i j q hi hj h2 h3 h4=>by
  obtain⟨_,_,k3,k4⟩:=rest j hj;rcases (back i q hi h3).2 with k|k|k
  ·have:=g.bO ⟨j,h2,h4⟩;omega
  ·exact k3 (g.apart j a q h2 N1 h4 k)
  ·exact k4 (g.apart j b q h2 Ls h4 k)
 have ids:∀i,H i≠none→(h i≠none∧eu i=ψ i)∨N i:=fun i hi=>by
  by_cases k1:i=id+128
  ·exact .inr (k1▸nR0)
  by_cases k2:i=id+129
  ·exact .inr (k2▸nR1)
  ·rw[Hn i k1 k2]at hi;exact .inl ⟨hi,sn i k1 k2⟩
 refine⟨V,Z',eu,e1,⟨zs,fun q hq=>(zf q hq).imp (fun h=>h) fun k=>k.imp (oh q) fun h=>h,keep,ids,⟨fun i ty cs k=>?_,fun i ok x k=>?_,fun i q h1 h2=>?_,fun i j q h1 h2 h3 h4=>?_,gd.j7⟩⟩,?_⟩
 ·have k1:i≠id+128:=fun e=>by rw[e]at k;have k:H (id+128)=some (.box ty cs):=k;rw[H0]at k;cases k
  have k2:i≠id+129:=fun e=>by rw[e]at k;have k:H (id+129)=some (.box ty cs):=k;rw[H1]at k;cases k
  have k3:i≠a:=fun e=>by rw[e]at k;have k:H a=some (.box ty cs):=k;rw[Ha]at k;cases k
  have k4:i≠b:=fun e=>by rw[e]at k;have k:H b=some (.box ty cs):=k;rw[Hb]at k;cases k
  have q7:h i=some (.box ty cs):=(Hn i k1 k2).symm.trans k;obtain⟨gg,vs,f1,f2,f3,f4⟩:=g.box i ty cs q7;exact⟨gg,vs,(sn i k1 k2).trans f1,(cC i gg k3 k4 (by rw[q7];simp) (by rw[f1];rfl)).trans f2,f3.move zs sm (fun j hj bw=>(ids j bw).resolve_right hj) (bm i ty cs q7),f4⟩
 ·by_cases k1:i=id+128
  ·subst k1;have k:H (id+128)=some (.own ok x):=k;rw[H0]at k;cases k;rw[s0];exact gd.row 3000 _ _ o2
  by_cases k2:i=id+129
  ·subst k2;have k:H (id+129)=some (.own ok x):=k;rw[H1]at k;cases k;rw[s1];exact gd.row 3001 _ _ o3
  have q7:h i=some (.own ok x):=(Hn i k1 k2).symm.trans k;rw[sn i k1 k2];by_cases k3:i=a
  ·subst k3;rw[ha]at q7;cases q7;rw[←q0];exact gd.row 1000 _ _ o0
  by_cases k4:i=b
  ·subst k4;rw[hb]at q7;cases q7;rw[←q1];exact gd.row 1020 _ _ o1
  exact(g.row i ok x q7).kept zs sm fun q hq=>cC i q k3 k4 (by rw[q7];simp) hq
 ·by_cases h4:Wx i
  ·obtain⟨k1,k2⟩:=back i q h4 h2;refine⟨k1,?_⟩;rcases k2 with k|k|k
   ·exact .inl (ab0 hB k)
   ·exact(g.live a q N1 k).2
   ·exact(g.live b q Ls k).2
  ·obtain⟨r1,r2,r3,r4⟩:=rest i h4;have h1:h i≠none:=by rw[←Hn i r1 r2];exact h1
   rw[sn i r1 r2]at h2;refine⟨fun hz=>?_,(g.live i q h1 h2).2⟩;rcases zf q hz with k|k|k
   ·exact(g.live i q h1 h2).1 k
   ·rcases oin q k with k|k
    ·exact r3 (g.apart i a q h1 N1 h2 k)
    ·exact r4 (g.apart i b q h1 Ls h2 k)
   ·have:=g.bO ⟨i,h1,h2⟩;omega
 ·by_cases hi:Wx i<;>by_cases hj:Wx j
  ·obtain⟨k1,k2⟩:=kap i hi;obtain⟨k3,k4⟩:=kap j hj;rw[←k2]at h3;rw[←k4]at h4;exact ajJ i j hi hj (gd.apart _ _ q k1 k3 h3 h4)
  ·obtain⟨r1,r2,r3,r4⟩:=rest j hj;rw[sn j r1 r2]at h4;exact(mixed i j q hi hj (by rw[←Hn j r1 r2];exact h2) h3 h4).elim
  ·obtain⟨r1,r2,r3,r4⟩:=rest i hi;rw[sn i r1 r2]at h3;exact(mixed j i q hj hi (by rw[←Hn i r1 r2];exact h1) h4 h3).elim
  ·obtain⟨r1,r2,_,_⟩:=rest i hi;obtain⟨t1,t2,_,_⟩:=rest j hj;rw[sn i r1 r2]at h3;rw[sn j t1 t2]at h4;exact g.apart i j q (by rw[←Hn i r1 r2];exact h1) (by rw[←Hn j t1 t2];exact h2) h3 h4
 ·have hr:az Z' ψ' out w' (.agg [.bI 3000,.bI 3001]) V:=hr;simp only[az,ar]at hr;obtain⟨vs,rfl,u1,_,sS,⟨d1,d2⟩,u2,_,rfl,⟨d3,d4⟩,rfl⟩:=hr;show az Z' eu H w' (.agg [.bI (id+128),.bI (id+129)]) (.agg vs);simp only[az,ar];exact⟨vs,rfl,u1,[u2],sS,⟨d1,fun _=>(d2 (by rw[o2];simp)).trans s0.symm⟩,u2,[],rfl,⟨d3,fun _=>(d4 (by rw[o3];simp)).trans s1.symm⟩,rfl⟩
end Go.Vs
namespace Go.Vs
open Go.Proofs
abbrev Xu:(f:FuncId)→(g:aO)→Option (g.A→Option g.B):=fun _ _=>none
section
variable (SG:FuncId→Option aO) (AN:FuncId→Nat→Option Shape)
noncomputable abbrev Xv:FT:=Fix Tryz.prog Eqs SG AN Xu
noncomputable abbrev LXG(f:FuncId)(g:aO)(fn:Func):JT g:=Lp Tryz.prog Eqs SG AN Xu f g fn
end
theorem HO{SG:FuncId→Option aO}{AN:FuncId→Nat→Option Shape}{f:FuncId}{g:aO}{fn:Func}{x:g.A}{y:g.B}(hb:body Tryz.prog (f%1000)=some (fn,fn.body.getD .skip))(hc:(decide (g.ps.length≤fn.ntmps)&&decide (g.bs.length≤8))=true) (h:Ud SG AN f g fn (Xv SG AN) (LXG SG AN f g fn) x=some y):Xv SG AN f g x=some y:=NC rfl hb hc h
theorem Ue{SG:FuncId→Option aO}{AN:FuncId→Nat→Option Shape}{f j:Nat}{g:aO}{fn:Func}{sh:Shape}{x:sh.T}{y:g.B}(hs:(match aM Tryz.prog (f%1000) j with | .inLoop _::_=>true|_=>false)=true)
  (h:aaL SG AN f j g fn sh (Xv SG AN) (LXG SG AN f g fn) x=some y):LXG SG AN f g fn sh (aM Tryz.prog (f%1000) j) x=some y:=by
 unfold aaL at h;generalize aM Tryz.prog (f%1000) j=s at hs h ⊢
 split at hs
 ·exact SS h
 ·cases hs
theorem Uf{α β:Type}{o:Option α}{f:α→Option β}{a:α}{r:Option β}(h:o=some a)(k:f a=r):o.bind f=r:=by simp_all
theorem Db{α:Type}{c:Bool}{x y r:α}(h:c=true)(k:x=r):cond c x y=r:=by simp_all
theorem Xw{α:Type}{c:Bool}{x y r:α}(h:c=false)(k:y=r):cond c x y=r:=by simp_all
theorem Ug{R:Type}{f:Nat→Option R}{r:R}(h0:f 0=some r)(h1:f 1=some r):tY 2 f=some r :=nE (by omega) fun j hj=>by
  grind
theorem aem(xs:List ai)(h:aL 0 xs.length=true):Xv Zi An0 500109 Xr ((),(xs,()))=some ((xs,()),(xs,())):=by
 refine HO (fn:=Tryz.f109) (by kernel_rfl) (by kernel_rfl) ((aeh _ _ _).trans ?_)
 cases xs with
 |nil=>exact Db rfl (Ug rfl rfl)
 |cons x r=>exact Xw rfl (Db h rfl)
theorem aen(xs:List aj)(h:aL 0 xs.length=true):Xv Zi An0 500110 Xs ((),(xs,()))=some ((xs,()),(xs,())):=by
 refine HO (fn:=Tryz.f110) (by kernel_rfl) (by kernel_rfl) ((aei _ _ _).trans ?_)
 cases xs with
 |nil=>exact Db rfl (Ug rfl rfl)
 |cons x r=>exact Xw rfl (Db h rfl)
theorem N2{f:FuncId}{g:aO}(h:Zi f=some g):(f,g)∈aaI:=by
 unfold Zi at h;obtain⟨p,hp,rfl⟩:=ab5.1 h
 grind
theorem N3{f:FuncId}{g:aO}(h:Ww f=some g):(f,g)∈aaJ:=by
 unfold Ww at h;obtain⟨p,hp,rfl⟩:=ab5.1 h
 grind
noncomputable def Uh(l:List (Nat×aO)):Bool:=l.all fun p=>match Tryz.prog.funcs[p.1%1000]? with|some fn => !(fn.name== "runtime.NumGoroutine")&&fn.body.isSome|none=>false
theorem HP{l:List (Nat×aO)}(key:Uh l=true){f:FuncId}{g:aO}(hm:(f,g)∈l):jD Tryz.prog (f%1000):=by
 have:=ab7.1 key _ hm;simp only at this
 split at this
 ·rename_i fn hf;simp only[Bool.and_eq_true,Bool.not_eq_true']at this;exact⟨fn,hf,this.1,this.2⟩
 ·cases this
theorem aeo{f:FuncId}{g:aO}{x:g.A}{y:g.B}(hs:Zi f=some g)(h:Xv Zi An0 f g x=some y):FC Tryz.prog f g x y :=AY (fun f g u hf hu=>by have hm:=N2 hf;simp only[aaI,List.mem_cons,List.not_mem_nil,or_false,Prod.mk.injEq]at hm;rcases hm with⟨_,rfl⟩|⟨_,rfl⟩<;>cases hu) Da (fun f g hf=>HP (by kernel_rfl) (N2 hf)) tD (fun f g u x y _ hu _=>by cases hu) hs h
theorem Xx:gY Tryz.prog 109 (tE 38 cX):=uG rfl fun xs h=>by have:=aeo (by kernel_rfl) (aem xs h);exact this
theorem Xy:gY Tryz.prog 110 (tE 84 dz):=uG rfl fun xs h=>by have:=aeo (by kernel_rfl) (aen xs h);exact this
theorem aep(l:List ab)(hl:l.length≤50000000):Xv Ww An1 111 Ay ((l,()),())=some ((l,()),()):=by
 refine HO (fn:=Tryz.f111) (by kernel_rfl) (by kernel_rfl) ((aej _ _ _).trans ?_)
 cases l with
 |nil=>exact Db rfl (Ug rfl rfl)
 |cons x r=>exact Xw rfl (Db (decide_eq_true (show 0+(x::r).length≤1073741824 by omega)) rfl)
theorem Ui{i n:Nat}(h:i<n)(hn:n≤50000000):IntKind.wrap .i64 ((i:Int)+1)=((i+1:Nat):Int):=by
 grind [IntKind.wrap,IntKind.bits,IntKind.signed]
theorem aeq(xs:List ai)(ys:List aj)(h:qi xs ys=true):Xv Ww An1 500083 lN ((),(xs,(ys,())))=some (((xs,(ys,())),()),(xs,(ys,()))):=by
 unfold qi at h;simp only[Bool.and_eq_true,decide_eq_true_eq,List.all_eq_true]at h;obtain⟨hx,hy,hr⟩:=h;refine HO (fn:=Tryz.f83) (by kernel_rfl) (by kernel_rfl) ((aek _ _ _).trans ?_);refine Db (decide_eq_true (show 0+xs.length≤1073741824 by omega)) (Db (decide_eq_true (show 0+ys.length≤1073741824 by omega)) ?_);have loop:∀(n i:Nat) (out:List ai),i+n=xs.length→out=xs→LXG Ww An1 500083 lN Tryz.f83 Km (aM Tryz.prog 83 0) ((((xs.length:Nat):Int),((i:Int),())),(((([]:List ai),(([]:List aj),())),((out,(ys,())),())),(xs,(ys,()))))=some (((xs,(ys,())),()),(xs,(ys,()))):=by
  intro n
  induction n with
  |zero =>intro i out hi ho;subst ho;refine Ue (j:=0) (by kernel_rfl) ((N0 _ _ _).trans ?_);exact Xw (decide_eq_false (show ¬((i:Int)<((out.length:Nat):Int)) by omega)) rfl
  |succ n ih =>
   intro i out hi ho;have aK:i<xs.length:=by omega
   have Ub:out[i]? = some xs[i]:=by simp_all
   have Zj:out.length=xs.length:=by rw[ho]
   have c1:(decide ((0:Int)≤(i:Int))&&decide ((i:Int)<((out.length:Nat):Int)))=true:=by simp_all
   refine Ue (j:=0) (by kernel_rfl) ((N0 _ _ _).trans ?_);refine Db (decide_eq_true (show((i:Int)<((xs.length:Nat):Int)) by omega)) (Db c1 (Uf Ub ?_));refine Uf (aep xs[i].2.1 (hr _ (ab4 aK))) ?_;refine Db c1 (Uf Ub ?_);have hs:out.set i (xs[i].1,(xs[i].2.1,xs[i].2.2))=xs:=by
    grind [List.set_getElem_self]
   have:=ih (i+1) (out.set i (xs[i].1,(xs[i].2.1,xs[i].2.2))) (by omega) hs;rw[←Ui aK hx]at this;exact this
 exact loop xs.length 0 xs (by omega) rfl
theorem ajK{f:FuncId}{g:aO}{x:g.A}{y:g.B}(hs:Ww f=some g)(h:Xv Ww An1 f g x=some y):FC Tryz.prog f g x y :=AY (fun f g u hf hu=>by
  have hm:=N3 hf;simp only[aaJ,List.mem_cons,List.not_mem_nil,or_false,Prod.mk.injEq]at hm;rcases hm with⟨_,rfl⟩|⟨_,rfl⟩|⟨rfl,rfl⟩|⟨rfl,rfl⟩
  ·cases hu
  ·cases hu
  ·cases hu;grind [id,Xx]
  ·cases hu;grind [id,Xy]) Da (fun f g hf=>HP (by kernel_rfl) (N3 hf)) tD (fun f g u x y _ hu _=>by cases hu) hs h
theorem Qo:gY Tryz.prog 83 Hr:=HN fun xs ys h=>by have:=ajK (by kernel_rfl) (aeq xs ys h);exact this
end Go.Vs
namespace Go.Vs
open Go.Proofs Go.RowKit
abbrev amr:Array Value:=#[.slice none 0 0,.slice none 0 0,.slice none 0 0,.int .i64 0,.slice none 0 0]
theorem N4(w:World)(a:Option Addr)(n c:Nat)(hn:n≤c):Calls Tryz.prog 145 #[.slice a n c] w fun e w'=>e=.returned (.slice (if n=0 then a else a) n n)∧w'=w:=by
 go_enter Tryz.func145,Tryz.ntmps145
 go_wp2_with (simp)
 go_ret
 exact⟨rfl,rfl⟩
theorem Xz:gY Tryz.prog 145 Tg:=by
 intro Z ψ h w B0 O N hh id e vs us g hB bz hN bm mX sS BR he;unfold Tg at he
 split at he
 ·rename_i ex k xs
  cases he
  simp only[ar,az,aH]at sS;obtain⟨v,jh,rfl,⟨⟨v',hv,A,c,rfl,hl,hc,hx⟩,_⟩,rfl⟩:=sS
  cases hv
  refine(N4 w A xs.length c hl).mono fun en w' ⟨e1,e2⟩=>?_;subst e2;refine⟨_,Z,ψ,e1,Next.refl g,?_⟩;simp only[bD.v,az,aH,ite_self];exact⟨⟨_,rfl,A,_,rfl,abX _,fun h0=>by have:=hc h0;omega,hx⟩,fun _=>⟨A,_,rfl⟩⟩
 ·cases he
  simp only[ar,az]at sS;obtain⟨v,jh,rfl,rfl,rfl⟩:=sS;refine(N4 w none 0 0 (abX _)).mono fun en w' ⟨e1,e2⟩=>?_;subst e2;exact⟨_,Z,ψ,e1,Next.refl g,by simp only[bD.v,az,ite_self]⟩
 ·cases he
end Go.Vs
namespace Go.Vs
open Go.Proofs
theorem Uj:∀f g u,Sg f=some g→g.x=some u→gY Tryz.prog (f%1000) u:=fun f g u h hu=>by
 have hm:=Uc h;have key:(sgs.all fun p=>(p.2.x.isNone || (p.1==153 || (p.1==191 || (p.1==220 || (p.1==154 || (p.1==164 || (p.1==222 || (p.1==500083 || (p.1==145))))))))))=true:=by kernel_rfl
 have:=ab7.1 key _ hm;simp only[hu,Option.isNone_some,Bool.false_or,Bool.or_eq_true,beq_iff_eq]at this;rcases this with rfl|rfl|rfl|rfl|rfl|rfl|rfl|rfl
 ·have e:Sg 153=some YV:=by kernel_rfl
  rw[e]at h;cases h;cases hu;intro Z ψ h w B0 O N hh id e vs us;exact vv (k:=cX) aaC
 ·have e:Sg 191=some YY:=by kernel_rfl
  rw[e]at h;cases h;cases hu;intro Z ψ h w B0 O N hh id e vs us;exact vv (k:=dz) aaF
 ·have e:Sg 220=some YZ:=by kernel_rfl
  rw[e]at h;cases h;cases hu;intro Z ψ h w B0 O N hh id e vs us;exact vv (k:=cJ) aaH
 ·have e:Sg 154=some YW:=by kernel_rfl
  rw[e]at h;cases h;cases hu;intro Z ψ h w B0 O N hh id e vs us;exact C9 (k:=cX) aaE
 ·have e:Sg 164=some YX:=by kernel_rfl
  rw[e]at h;cases h;cases hu;intro Z ψ h w B0 O N hh id e vs us;exact C9 (k:=dz) aaG
 ·have e:Sg 222=some Y0:=by kernel_rfl
  rw[e]at h;cases h;cases hu;intro Z ψ h w B0 O N hh id e vs us;exact Kk (k:=bf) Xq
 ·have e:Sg 500083=some J2:=by kernel_rfl
  rw[e]at h;cases h;cases hu;intro Z ψ h w B0 O N hh id e vs us;exact Qo
 ·have e:Sg 145=some Y4:=by kernel_rfl
  rw[e]at h;cases h;cases hu;intro Z ψ h w B0 O N hh id e vs us;exact Xz
end Go.Vs
