/- slices.Insert -/
import Derived.Test.YtoleelddkocpkaaGreatEngineD
import Derived.Lib.AppendZerosOnto
import Derived.Lib.Overlaps
import Derived.Lib.Walk
import Derived.Shelf.Spec.SlicesInsert
import Derived.Laws.NewBlocks
set_option linter.unusedVariables false
set_option linter.unusedSimpArgs false
namespace Go.Vs
variable {P:Program} {w:World}
theorem pN(w:World)(t ty e:TypeId)(sz g n c:Nat)(a:Addr)(m mc:Nat)(cur:Array Value)(news:List Value)(ht:P.underlying t=some (.slice e))(hs:(P.info? e).map (·.size)=some sz) (hg:w.heap[g]? = some (.cells cur e (0,0))) (hl:news.length=m*sz) (yK:∀(j:Nat) v,news[j]? = some v→w.cell? (a.add j)=some v) (h1:∀v∈news,v.oneCell'=true) (dK:n+m≤c) (iW:c*sz≤cur.size) :
  (Builtin.append_ #[t,t] ty #[.slice (some ⟨g,0,none⟩) n c,.slice (some a) m mc]).run P w=.ok (.slice (some ⟨g,0,none⟩) (n+m) c) (w.setRow g (cur.toList.take (n*sz)++news++cur.toList.drop (n*sz+news.length)).toArray):=by
 have hle:n*sz+m*sz≤c*sz:=by rw[←Nat.add_mul];exact ab5 _ dK
 have afq:=run_loadCells_list (P:=P) w a news yK;have Ak:=run_storeCells_at P g (n*sz) e news 0 cur w hg (by omega) h1;simp only[Nat.add_zero]at Ak;have ha:(⟨g,0,none⟩:Addr).add (n*sz)=⟨g,n*sz,none⟩:=by rw[cE,Nat.zero_add]
 cases hq:P.info? e with
 |none=>simp_all
 |some i =>
  have hi:i.size=sz:=by simp_all
  simp[Builtin.append_,run_underlying ht,Builtin.lenOf,Builtin.firstCells,sizeOf,typeInfo,hq,hi,←hl,afq,dK,ha,Ak]
theorem sY(w:World)(t ty e:TypeId)(sz g o k c:Nat)(cur:Array Value)(i:TypeInfo)(z:Value)(ht:P.underlying t=some (.slice e))(hi:P.info? e=some i)(hz:i.zero=some z)(Ji:z.cells.size=sz)(h1:∀v∈z.cells.toList,v.oneCell'=true) (hg:w.heap[g]? = some (.cells cur e (0,0))) (hk:0<k) (Qt:o+k*sz≤cur.size) :
  (Builtin.clear_ #[t] ty #[.slice (some ⟨g,o,none⟩) k c]).run P w=.ok (.tuple #[]) (w.setRow g (cur.toList.take o++(Builtin.zeroCells z.cells k).toList++cur.toList.drop (o+(Builtin.zeroCells z.cells k).toList.length)).toArray):=by
 have hl:(Builtin.zeroCells z.cells k).toList.length=k*sz:=by simp[Builtin.zeroCells,Ji]
 have HN:∀v∈(Builtin.zeroCells z.cells k).toList,v.oneCell'=true:=fun v hv=>by
  simp only[Builtin.zeroCells,Array.toList_map,List.mem_map]at hv;obtain⟨q,hq,rfl⟩:=hv;have hq':q<k*z.cells.size:=by simpa using hq
  have hp:0<z.cells.size:=by
   rcases Nat.eq_zero_or_pos z.cells.size with h|h
   ·rw[h,Nat.mul_zero]at hq';omega
   ·exact h
  have aO:q%z.cells.size<z.cells.size:=adw _ hp;rw[getElem!_pos z.cells _ aO];exact h1 _ (by simp)
 have Ak:=run_storeCells_at P g o e (Builtin.zeroCells z.cells k).toList 0 cur w hg (by omega) HN;simp only[Nat.add_zero]at Ak;obtain⟨m,rfl⟩:∃m,k=m+1:=⟨k-1,by omega⟩;simp[Builtin.clear_,run_underlying ht,zeroValue,typeInfo,hi,hz,Ak]
end Go.Vs
namespace Go.Vs
open Go.Proofs Go.RowKit
def DX(P:Program)(f:FuncId)(e:TypeId)(size:Nat):Prop :=∀(w:World) (v u:Value) (n i:Nat) (xs ys:List Value),dS w e size v n xs→dS w e size u 1 ys→i≤n→n+1≤fk→(∀b,ob v=some b→ob u≠some b) →(∀q∈xs,q.oneCell'=true)→(∀q∈ys,q.oneCell'=true) → Calls P f #[v,.int .i64 i,u] w fun en w'=>∃v',en=.returned v'∧dS w' e size v' (n+1) (xs.take (i*size)++(ys++xs.drop (i*size)))∧w.grownBy w' (ob v)∧(ob v'=ob v∨∀b,ob v'=some b→w.heap.size≤b)
def It(P:Program)(f:FuncId)(e:TypeId)(sz:Nat):Prop:=∀(w:World) (v u:Value) (n:Nat) (xs ys:List Value) (hv:dS w e sz v n xs) (hu:dS w e sz u 1 ys) (hm:n+1≤fk) (h1:∀q∈ys,q.oneCell'=true),Calls P f #[v,.int .i64 n,u] w fun en w'=>∃v',en=.returned v'∧dS w' e sz v' (n+1) (xs++ys)∧w.grownBy w' (ob v)∧(ob v'=ob v∨∀b,ob v'=some b→w.heap.size≤b)
def xM(P:Program)(f:FuncId)(e:TypeId)(sz:Nat):Prop:=∀(w:World) (g c g2 c2 n i:Nat) (xs ys:List Value) (cur dq:Array Value) (hg:w.heap[g]? = some (.cells cur e (0,0))) (iW:cur.size=c*sz) (lS:cur.toList.take (n*sz)=xs) (As:xs.length=n*sz) (wC:w.heap[g2]? = some (.cells dq e (0,0))) (pO:dq.size=c2*sz) (pf:0<c2) (lG:dq.toList.take (1*sz)=ys) (Fp:ys.length=1*sz) (bz:g2≠g) (hi:i<n) (dK:n+1≤c) (hc:c≤maxLen) (h1:∀q∈xs,q.oneCell'=true) (h2:∀q∈ys,q.oneCell'=true),Calls P f #[.slice (some ⟨g,0,none⟩) n c,.int .i64 i,.slice (some ⟨g2,0,none⟩) 1 c2] w fun en w'=>en=.returned (.slice (some ⟨g,0,none⟩) (n+1) c) ∧ ∃gK:Array Value,w'.heap[g]? = some (.cells gK e (0,0))∧gK.size=cur.size∧gK.toList.take ((n+1)*sz)=xs.take (i*sz)++(ys++xs.drop (i*sz))∧w.grownBy w' (some g)
def BS(P:Program)(f:FuncId)(e:TypeId)(sz:Nat):Prop:=∀(w:World) (g c g2 c2 n i:Nat) (xs ys:List Value) (cur dq:Array Value) (hg:w.heap[g]? = some (.cells cur e (0,0))) (iW:cur.size=c*sz) (lS:cur.toList.take (n*sz)=xs) (As:xs.length=n*sz) (wC:w.heap[g2]? = some (.cells dq e (0,0))) (pO:dq.size=c2*sz) (pf:0<c2) (lG:dq.toList.take (1*sz)=ys) (Fp:ys.length=1*sz) (bz:g2≠g) (hi:i<n) (Al:n≤c) (dK:c<n+1) (hm:n+1≤fk) (h1:∀q∈xs,q.oneCell'=true) (h2:∀q∈ys,q.oneCell'=true),Calls P f #[.slice (some ⟨g,0,none⟩) n c,.int .i64 i,.slice (some ⟨g2,0,none⟩) 1 c2] w fun en w'=>∃G,en=.returned (.slice (some ⟨w.heap.size,0,none⟩) (n+1) G) ∧ ∃gK:Array Value,w'.heap[w.heap.size]? = some (.cells gK e (0,0))∧gK.size=G*sz∧n+1≤G∧G≤maxLen∧gK.toList.take ((n+1)*sz)=xs.take (i*sz)++(ys++xs.drop (i*sz))∧w.grownBy w' (some g)
theorem Iu{w:World}{e sz:Nat}{u:Value}{ys:List Value}(hu:dS w e sz u 1 ys)(h1:∀q∈ys,q.oneCell'=true):XS w sz u 1 ys:=by
 refine⟨hu.1,h1,.inr ?_⟩;rcases hu.2 with⟨h0,_⟩|⟨g,cap,cur,rfl,_,hg,_,_,hc,lS⟩
 ·cases h0
 ·refine⟨_,_,rfl,fun j q hj=>?_⟩;rw[cE,Nat.zero_add];rw[←lS,List.getElem?_take]at hj
  split at hj
  ·simp[World.cell?,hg];simpa using hj
  ·cases hj
theorem U9{α:Type}{cur xs ys cur1 cur3:List α}{i n sz:Nat}(lS:cur.take (n*sz)=xs)(hl:(n+1)*sz≤cur.length)(hy:ys.length=sz)(hi:i≤n) (h1:cur1=cur.take ((i+1)*sz)++xs.drop (i*sz)++cur.drop ((i+1)*sz+(xs.drop (i*sz)).length)) (h3:cur3=cur1.take (i*sz)++ys++cur1.drop (i*sz+ys.length)) :
  cur3.take ((n+1)*sz)=xs.take (i*sz)++(ys++xs.drop (i*sz)):=by
 have AW:i*sz≤n*sz:=ab5 _ hi;rw[Nat.add_mul,Nat.one_mul]at hl h1 ⊢;have As:xs.length=n*sz:=by rw[←lS,List.length_take];omega
 generalize i*sz=a at *;generalize n*sz=b at *;have e1:cur1.take a=xs.take a:=by
  grind
 have e2:cur1.drop (a+ys.length)=xs.drop a++cur.drop (a+1*sz+(xs.drop a).length):=by
  rw[h1,List.append_assoc,Nat.one_mul,hy]
  grind
 grind [List.append_assoc,List.take_left',List.length_append,List.length_take,List.length_drop]
theorem vZ{w:World}{e size:Nat}{g n:Nat}{cur:Array Value}{xs:List Value}(hg:w.heap[g]? = some (.cells cur e (0,0)))(lS:cur.toList.take (n*size)=xs)(o:Nat):∀(j:Nat) q,(xs.drop o)[j]? = some q→w.cell? ((⟨g,o,none⟩:Addr).add j)=some q:=fun j q hj=>by
 rw[cE];rw[List.getElem?_drop,←lS,List.getElem?_take]at hj
 split at hj
 ·simp[World.cell?,hg];simpa using hj
 ·cases hj
theorem v5{P:Program}{t e sz:Nat}(ht:P.underlying t=some (.slice e))(hz:(P.info? e).map (·.size)=some sz)(w:World)(g c g2 c2 n i:Nat)(xs ys:List Value)(cur dq:Array Value)(hg:w.heap[g]? = some (.cells cur e (0,0)))(iW:cur.size=c*sz)(lS:cur.toList.take (n*sz)=xs)(As:xs.length=n*sz)(wC:w.heap[g2]? = some (.cells dq e (0,0)))(pO:dq.size=c2*sz)(pf:0<c2)(lG:dq.toList.take (1*sz)=ys)(Fp:ys.length=1*sz)(bz:g2≠g)(hi:i<n)(dK:n+1≤c)(hc:c≤maxLen)(h1:∀q∈xs,q.oneCell'=true)(h2:∀q∈ys,q.oneCell'=true) :
  ∃cur1 cur3:Array Value,(∀(W:World),W.heap=w.heap→∀ty dc sc,(Builtin.copy_ #[t,t] ty #[.slice (some ⟨g,(i+1)*sz,none⟩) (n-i) dc,.slice (some ⟨g,i*sz,none⟩) (n+1-i) sc]).run P W=.ok (goInt (n-i:Nat)) (W.setRow g cur1))∧(∀ty dc sc,(Builtin.copy_ #[t,t] ty #[.slice (some ⟨g,i*sz,none⟩) (n+1-i) dc,.slice (some ⟨g2,0,none⟩) 1 sc]).run P (w.drew.setRow g cur1)=.ok (goInt 1) ((w.drew.setRow g cur1).setRow g cur3))∧cur3.size=cur.size∧cur3.toList.take ((n+1)*sz)=xs.take (i*sz)++(ys++xs.drop (i*sz)):=by
 have Qx:=vZ (size:=sz) (n:=1) wC lG 0;have Cp:=vZ (size:=sz) (n:=n) hg lS (i*sz);have h63:c≤9223372036854775807:=by grind [maxLen]
 have m6:(n+1)*sz≤c*sz:=ab5 _ dK;have m1:(n+1)*sz=n*sz+sz:=adJ ..;have m2:(i+1)*sz=i*sz+sz:=adJ ..;have m3:(n-i)*sz=n*sz-i*sz:=Nat.sub_mul ..;have m4:(i+1)*sz≤n*sz:=ab5 _ hi;have m5:1*sz=sz:=Nat.one_mul _;have hn5:n*sz≤cur.size:=by omega
 obtain⟨cur1,sZ⟩:∃cur1:Array Value,cur1=(cur.toList.take ((i+1)*sz)++xs.drop (i*sz)++cur.toList.drop ((i+1)*sz+(xs.drop (i*sz)).length)).toArray:=⟨_,rfl⟩;have KV:(xs.drop (i*sz)).length=(n-i)*sz:=by simp_all
 have Nb:∀(W:World),W.heap=w.heap→∀ty dc sc,(Builtin.copy_ #[t,t] ty #[.slice (some ⟨g,(i+1)*sz,none⟩) (n-i) dc,.slice (some ⟨g,i*sz,none⟩) (n+1-i) sc]).run P W=.ok (goInt (n-i:Nat)) (W.setRow g cur1):=fun W hW ty dc sc=>by
  have:=iv (P:=P) W t t ty e sz g ((i+1)*sz) (n-i) dc ⟨g,i*sz,none⟩ (n+1-i) sc cur e (xs.drop (i*sz)) ht hz (by simp_all) (by grind) (fun j v hj=>by grind [World.cell?]) (by omega) (fun q hq=>h1 q (adx hq))
  grind
 have M1:cur1.size=cur.size:=by grind
 obtain⟨cur3,Va⟩:∃cur3:Array Value,cur3=(cur1.toList.take (i*sz)++ys++cur1.toList.drop (i*sz+ys.length)).toArray:=⟨_,rfl⟩;have ak4:∀(W:World),W.heap[g]? = some (.cells cur1 e (0,0))→W.heap[g2]? = w.heap[g2]?→∀ty dc sc,(Builtin.copy_ #[t,t] ty #[.slice (some ⟨g,i*sz,none⟩) (n+1-i) dc,.slice (some ⟨g2,0,none⟩) 1 sc]).run P W=.ok (goInt 1) (W.setRow g cur3):=fun W hW hW2 ty dc sc=>by have:=iv (P:=P) W t t ty e sz g (i*sz) (n+1-i) dc ⟨g2,0,none⟩ 1 sc cur1 e ys ht hz hW (by rw[Fp];simp only[Nat.min_def];split<;>omega) (fun j v hj=>by grind [World.cell?,fM]) (by omega) h2;rw[this,Va];congr 2;simp only[Nat.min_def];split<;>omega
 have SI:cur3.size=cur.size:=by rw[Va];simp;omega
 have jn:cur3.toList.take ((n+1)*sz)=xs.take (i*sz)++(ys++xs.drop (i*sz)):=U9 (sz:=sz) (cur1:=cur1.toList) (cur3:=cur3.toList) lS (by simp;omega) (by rw[Fp,m5]) (Nat.le_of_lt hi) (by rw[sZ]) (by rw[Va]);exact⟨cur1,cur3,Nb,ak4 (w.drew.setRow g cur1) (setRow_heap w.drew g cur _ e _ hg) (_root_.Go.setRow_other w.drew g g2 _ bz),SI,jn⟩
theorem v7{n i c:Nat}(hi:i<n)(dK:n+1≤c)(hc:c≤maxLen):(IntKind.i64.wrap ((i:Int)+1)=(i:Int)+1)∧(IntKind.i64.wrap ((n:Int)+1)=(n:Int)+1)∧((0:Int)≤(i:Int)+1)∧(i≤n)∧(((i:Int)+1).toNat=i+1)∧(¬(c=i+1))∧((i:Int)≤(n:Int)+1)∧(¬(c=i))∧(¬((i:Int)=(n:Int)))∧(¬((c:Int)<(n:Int)+1)):=by
 grind [maxLen,IntKind.wrap_i64]
theorem Rq{α:Type}{row xs ys row2 row3:List α}{i n sz:Nat}(hA:row.take (i*sz)=xs.take (i*sz))(hl:(n+1)*sz≤row.length)(As:xs.length=n*sz)(hy:ys.length=sz)(hi:i≤n) (h2:row2=row.take (i*sz)++ys++row.drop (i*sz+ys.length)) (h3:row3=row2.take ((i+1)*sz)++xs.drop (i*sz)++row2.drop ((i+1)*sz+(xs.drop (i*sz)).length)) :
  row3.take ((n+1)*sz)=xs.take (i*sz)++(ys++xs.drop (i*sz)):=by
 have AW:i*sz≤n*sz:=ab5 _ hi;rw[Nat.add_mul,Nat.one_mul]at hl h3 ⊢;generalize i*sz=a at *;generalize n*sz=b at *;have e1:row2.take (a+1*sz)=xs.take a++ys:=by
  grind
 rw[Nat.one_mul]at e1
 grind [List.take_left',List.length_append,List.length_take,List.length_drop,List.append_assoc]
theorem zw{P:Program}{t e sz:Nat}{k:K}{i0:TypeInfo}{z0:Value}(hk:k.sz=sz)(h0:0<sz)(ht:P.underlying t=some (.slice e))(htn:P.underlying 3=some (.int .i64))(he:oE P e k i0 z0)(w:World)(g c g2 c2 n i:Nat)(xs ys:List Value)(cur dq:Array Value)(hg:w.heap[g]? = some (.cells cur e (0,0)))(iW:cur.size=c*sz)(lS:cur.toList.take (n*sz)=xs)(As:xs.length=n*sz)(wC:w.heap[g2]? = some (.cells dq e (0,0)))(pO:dq.size=c2*sz)(pf:0<c2)(lG:dq.toList.take (1*sz)=ys)(Fp:ys.length=1*sz)(bz:g2≠g)(hi:i<n)(Al:n≤c)(dK:c<n+1)(hm:n+1≤fk)(h1:∀q∈xs,q.oneCell'=true)(h2:∀q∈ys,q.oneCell'=true) :
  ∃(G:Nat) (uR row2 row3:Array Value) (W1:World),(∀ty,(Builtin.append_ #[t,3] ty #[.slice (some ⟨g,0,none⟩) i c,.int .i64 ((n:Int)+1-(i:Int))]).run P w=.ok (.slice (some ⟨w.heap.size,0,none⟩) (n+1) G) W1)∧W1.heap[w.heap.size]? = some (.cells uR e (0,0))∧(∀b,b<w.heap.size→W1.heap[b]? = w.heap[b]?)∧w.grownBy W1 none∧(∀(W:World),W.heap=W1.heap→∀ty dc sc,(Builtin.copy_ #[t,t] ty #[.slice (some ⟨w.heap.size,i*sz,none⟩) (n+1-i) dc,.slice (some ⟨g2,0,none⟩) 1 sc]).run P W=.ok (goInt 1) (W.setRow w.heap.size row2))∧(∀(W:World),W.heap=(W1.setRow w.heap.size row2).heap→∀ty dc sc,(Builtin.copy_ #[t,t] ty #[.slice (some ⟨w.heap.size,(i+1)*sz,none⟩) (n-i) dc,.slice (some ⟨g,i*sz,none⟩) (n-i) sc]).run P W=.ok (goInt (n-i:Nat)) (W.setRow w.heap.size row3))∧row3.size=G*sz∧n+1≤G∧G≤9223372036854775807∧row3.toList.take ((n+1)*sz)=xs.take (i*sz)++(ys++xs.drop (i*sz)):=by
 have Ml:z0.cells.size=sz:=he.wO.trans hk;have Ji:i0.size=sz:=he.size.trans hk;have hz:(P.info? e).map (·.size)=some sz:=by rw[he.info];simp_all
 have Mm:=he.bytes;have Qx:=vZ (size:=sz) (n:=1) wC lG 0;have Cp:=vZ (size:=sz) (n:=n) hg lS (i*sz);have aqo:=vZ (size:=sz) (n:=n) hg lS 0;have hgl:g<w.heap.size:=(abI.1 hg).1;have aqp:g2<w.heap.size:=(abI.1 wC).1;unfold fk at hm;have m1:(n+1)*sz=n*sz+sz:=adJ ..;have m2:(i+1)*sz=i*sz+sz:=adJ ..;have m3:(n-i)*sz=n*sz-i*sz:=Nat.sub_mul ..;have m4:(i+1)*sz≤n*sz:=ab5 _ hi;have m5:1*sz=sz:=Nat.one_mul _;have m6:(n+1-i)*sz=n*sz+sz-i*sz:=by grind
 have sE:(n+1)*i0.bytes≤140737488355328:=acz (ad5 hm Mm) (by decide);have hold:(Builtin.firstCells i0.size i (.slice (some ⟨g,0,none⟩) i c)).run P w.drew=.ok (xs.take (i*sz)).toArray w.drew:=by rw[Ji];exact run_firstCells_some w.drew sz i ⟨g,0,none⟩ i c (xs.take (i*sz)) (by grind) (fun j v hj=>by simp_all [List.getElem?_take])
 obtain⟨G,hG⟩:∃G,G=grownCap w (n+1) c e:=⟨_,rfl⟩;obtain⟨uR,abL⟩:∃uR:Array Value,uR=(xs.take (i*sz)).toArray++Builtin.zeroCells z0.cells (n+1-i)++Builtin.zeroCells z0.cells (G-(n+1)):=⟨_,rfl⟩;have hik:i+(n+1-i)=n+1:=by omega
 have XA:∀ty,(Builtin.append_ #[t,3] ty #[.slice (some ⟨g,0,none⟩) i c,.int .i64 ((n:Int)+1-(i:Int))]).run P w=.ok (.slice (some ⟨w.heap.size,0,none⟩) (n+1) G) (w.drew.alloc (.cells uR e)):=fun ty=>by
  have h:=Lib.run_append_grow_zeros w t 3 ty e i0 z0 .i64 .i64 ht htn he.info he.zero (some ⟨g,0,none⟩) i c (xs.take (i*sz)) hold (n+1-i) (by omega) (by omega) (by omega) (by omega) (acz (ab5 _ (show n+1-i≤n+1 by omega)) (by omega)) (by simp_all [growslice_fits])
  grind
 have Rr:n+1≤G:=by grind [grownCap_ge]
 have m7:(G-(n+1))*sz=G*sz-(n*sz+sz):=by rw[Nat.sub_mul,m1]
 have m8:(n+1)*sz≤G*sz:=ab5 _ Rr;have Ix:G≤9223372036854775807:=by
  grind [grownCap_le_maxLen,maxLen]
 have hRs:uR.size=G*sz:=by
  grind [Builtin.zeroCells,List.length_take,Nat.min_eq_left]
 have hRt:uR.toList.take (i*sz)=xs.take (i*sz):=by
  grind
 obtain⟨W1,GU⟩:∃W1,W1=w.drew.alloc (.cells uR e):=⟨_,rfl⟩;have Iy:W1.heap[w.heap.size]? = some (.cells uR e (0,0)):=by rw[GU];exact(MapKept.heap_alloc w.drew (.cells uR e)).1
 have Fq:∀b,b<w.heap.size→W1.heap[b]? = w.heap[b]? := fun b hb=>by rw[GU];exact(Below.heap_alloc w.drew (.cells uR e) b hb).trans rfl
 have rU:w.grownBy W1 none:=⟨by rw[GU];rfl,by rw[GU];rfl,by rw[GU];rfl,by simp_all,fun k hk _=>Fq k hk⟩;obtain⟨row2,afs⟩:∃row2:Array Value,row2=(uR.toList.take (i*sz)++ys++uR.toList.drop (i*sz+ys.length)).toArray:=⟨_,rfl⟩;have Qw:row2.size=uR.size:=by grind
 have Nc:∀(W:World),W.heap=W1.heap→∀ty dc sc,(Builtin.copy_ #[t,t] ty #[.slice (some ⟨w.heap.size,i*sz,none⟩) (n+1-i) dc,.slice (some ⟨g2,0,none⟩) 1 sc]).run P W=.ok (goInt 1) (W.setRow w.heap.size row2):=fun W hW ty dc sc=>by
  have:=iv (P:=P) W t t ty e sz w.heap.size (i*sz) (n+1-i) dc ⟨g2,0,none⟩ 1 sc uR e ys ht hz (by simp_all) (by grind) (fun j v hj=>by grind [World.cell?,fM]) (by omega) h2
  grind
 obtain⟨row3,aaj⟩:∃row3:Array Value,row3=(row2.toList.take ((i+1)*sz)++xs.drop (i*sz)++row2.toList.drop ((i+1)*sz+(xs.drop (i*sz)).length)).toArray:=⟨_,rfl⟩;have KV:(xs.drop (i*sz)).length=(n-i)*sz:=by grind
 have SI:row3.size=uR.size:=by rw[aaj];simp;omega
 have Nd:∀(W:World),W.heap=(W1.setRow w.heap.size row2).heap→∀ty dc sc,(Builtin.copy_ #[t,t] ty #[.slice (some ⟨w.heap.size,(i+1)*sz,none⟩) (n-i) dc,.slice (some ⟨g,i*sz,none⟩) (n-i) sc]).run P W=.ok (goInt (n-i:Nat)) (W.setRow w.heap.size row3):=fun W hW ty dc sc=>by
  have:=iv (P:=P) W t t ty e sz w.heap.size ((i+1)*sz) (n-i) dc ⟨g,i*sz,none⟩ (n-i) sc row2 e (xs.drop (i*sz)) ht hz (by grind [setRow_heap]) (by grind) (fun j v hj=>by grind [World.cell?,fM,_root_.Go.setRow_other,Nat.ne_of_lt]) (by omega) (fun q hq=>h1 q (adx hq))
  grind
 have jn:row3.toList.take ((n+1)*sz)=xs.take (i*sz)++(ys++xs.drop (i*sz)):=Rq (sz:=sz) (row:=uR.toList) (row2:=row2.toList) (row3:=row3.toList) hRt (by simp;omega) As (by rw[Fp,m5]) (by omega) (by rw[afs]) (by rw[aaj]);rw[←GU]at XA;exact⟨G,uR,row2,row3,W1,XA,Iy,Fq,rU,Nc,Nd,by omega,Rr,Ix,jn⟩
theorem zx{n i c G:Nat}(hi:i<n)(Al:n≤c)(dK:c<n+1)(hm:n+1≤fk)(Rr:n+1≤G):(IntKind.i64.wrap ((i:Int)+1)=(i:Int)+1)∧(IntKind.i64.wrap ((n:Int)+1)=(n:Int)+1)∧(IntKind.i64.wrap ((n:Int)+1-(i:Int))=(n:Int)+1-(i:Int))∧((0:Int)≤(i:Int)+1)∧(i≤n)∧(((i:Int)+1).toNat=i+1)∧(¬(G=i))∧(¬(G=i+1))∧(¬(c=i))∧((i:Int)≤(n:Int))∧(¬((i:Int)=(n:Int)))∧((c:Int)<(n:Int)+1):=by
 grind [fk,IntKind.wrap_i64]
theorem Ng{P:Program}{f:FuncId}{e:TypeId}{sz:Nat}(hE:It P f e sz)(hS:xM P f e sz)(hG:BS P f e sz):DX P f e sz:=fun w v u n i xs ys hv hu hi hm Yj h1 h2=>by
 by_cases he:i=n
 ·subst he;refine(hE w v u i xs ys hv hu hm h2).mono fun en w' ⟨v',e1,e2,e3,e4⟩=>⟨v',e1,?_,e3,e4⟩;have hl:=hv.1
  grind
 ·have tS:i<n:=by omega
  have m1:(n+1)*sz=n*sz+sz:=adJ ..;have m4:i*sz≤n*sz:=ab5 _ hi;have m5:1*sz=sz:=Nat.one_mul _;rcases hv.2 with⟨h0,_⟩|⟨g,c,cur,rfl,hc0,hg,Al,XB,iW,lS⟩
  ·omega
  rcases hu.2 with⟨h0,_⟩|⟨g2,c2,dq,rfl,aft,wC,_,_,pO,lG⟩
  ·omega
  have oP:ob (.slice (some ⟨g,0,none⟩) n c)=some g:=by simp only[ob];grind
  have ak5:ob (.slice (some ⟨g2,0,none⟩) 1 c2)=some g2:=by simp only[ob];grind
  have bz:g2≠g:=fun e=>Yj g oP (by rw[ak5,e]);by_cases dK:n+1≤c
  ·refine(hS w g c g2 c2 n i xs ys cur dq hg iW lS hv.1 wC pO aft lG hu.1 bz tS dK XB h1 h2).mono fun en w' ⟨e1,gK,e2,e3,e4,e5⟩=>?_;refine⟨_,e1,⟨?_,.inr ⟨g,c,gK,rfl,hc0,e2,dK,XB,by rw[e3,iW],e4⟩⟩,by simp_all,.inl ?_⟩
   ·have hl:=hv.1;have u5:=hu.1
    grind
   rfl
  ·refine(hG w g c g2 c2 n i xs ys cur dq hg iW lS hv.1 wC pO aft lG hu.1 bz tS Al (by omega) hm h1 h2).mono fun en w' ⟨G,e1,gK,e2,e3,e4,e5,e6,e7⟩=>?_;refine⟨_,e1,⟨?_,.inr ⟨w.heap.size,G,gK,rfl,by omega,e2,e4,e5,e3,e6⟩⟩,by simp_all,.inr fun b hb=>?_⟩
   ·have hl:=hv.1;have u5:=hu.1
    grind
   simp_all [ob,if_neg]
set_option maxHeartbeats 4000000 in
set_option maxRecDepth 100000 in
theorem Nh:It Tryz.prog 153 38 5:=fun w v u n xs ys hv hu hm h1=>by
 have ht:Tryz.prog.underlying 24=some (.slice 38):=by kernel_rfl
 obtain⟨i0,z0,he⟩:=cg (P:=Tryz.prog) (e:=38) (k:=.pair (.pair (.int .i64) (.int .i64)) (.pair (.sl (.pair (.pair (.int .i64) (.int .i64)) (.int .i64))) (.pair .str (.int .i64)))) (by kernel_rfl);have yK:=Iu hu h1;obtain⟨v',w',dg,h4,h5,h6⟩:=dW (P:=Tryz.prog) (ty:=24) ht he hv yK hm;obtain⟨A,c,rfl⟩:=hv.slice;have Al:n≤c:=by
  rcases hv.2 with⟨h0,A,e⟩|⟨g,cap,cur,e,hc,h2,h3,_⟩
  ·omega
  simp_all
 obtain⟨B,cu,rfl⟩:=hu.slice;have afu:n≤1073741824:=by grind [fk]
 go_enter Tryz.func153,Tryz.ntmps153
 go_wp2_with (at_builtin;refine Lib.wpList_append_run _ rfl _ _ _ _ rfl _ _ rfl rfl _ _ dg ?_)
 all_goals go_ret
 all_goals first|exact⟨_,rfl,h4,h5,h6⟩|(subst_vars;exact⟨_,rfl,h4,h5,h6⟩)
set_option maxHeartbeats 4000000 in
set_option maxRecDepth 100000 in
theorem Iz:xM Tryz.prog 153 38 5:=fun w g c g2 c2 n i xs ys cur dq hg iW lS As wC pO pf lG Fp bz hi dK hc h1 h2=>by
 have ht:Tryz.prog.underlying 24=some (.slice 38):=by kernel_rfl
 have hz:(Tryz.prog.info? 38).map (·.size)=some 5:=by kernel_rfl
 have Ji:∀w,(Go.sizeOf 38).run Tryz.prog w=.ok 5 w:=fun w=>by rfl
 have XC:∀a2 lb cb,(callFunc 189 #[.slice (some ⟨g2,0,none⟩) 1 c2,.slice (some ⟨g,a2,none⟩) lb cb]).run Tryz.prog w=.ok (.value (.bool false)) w:=fun a2 lb cb=>by rw[run_callFunc_extern Tryz.func189 (by kernel_rfl) (by kernel_rfl) (by kernel_rfl) (e:=Extern.SlicesOverlaps.overlaps #[24,24] #[4]) (by kernel_rfl),Lib.run_overlaps_apart w 24 4 38 ht 5 Ji ⟨g2,0,none⟩ ⟨g,a2,none⟩ 1 c2 lb cb bz 38 38 dq.size cur.size (by simp[World.shape?,wC]) (by simp[World.shape?,hg]) (by omega) (by simp[World.frozen?,wC]) (by simp[World.frozen?,wC])];rfl
 obtain⟨cur1,cur3,Nb,KW,SI,jn⟩:=v5 ht hz w g c g2 c2 n i xs ys cur dq hg iW lS As wC pO pf lG Fp bz hi dK hc h1 h2;have h63:c≤9223372036854775807:=by grind [maxLen]
 obtain⟨Ot,Ni,hb1,tS,htn,E5,hb3,hb4,EV,Ql⟩:=v7 hi dK hc;clear lS lG;have mixed:Tryz.prog.follows .mixedOrders=true:=by kernel_rfl
 go_enter Tryz.func153,Tryz.ntmps153
 go_wp2_with (simp only[XC])
 go_region_law (go_loud (refine step_copy_runI rfl _ _ 24 24 rfl (.slice (some ⟨g,(i+1)*5,none⟩) (n-i) (c-(i+1))) (.slice (some ⟨g,i*5,none⟩) (n+1-i) (c-i)) (by simp[Act.eval,Act.put]) (by simp[Act.eval,Act.put]) (Nb w.drew rfl 3 (c-(i+1)) (c-i)) ?_))
 go_wp2_with (simp only[KW])
 go_ret
 refine⟨rfl,cur3,setRow_heap _ g cur1 _ 38 _ (setRow_heap w.drew g cur _ 38 _ hg),SI,jn,⟨rfl,rfl,rfl,by simp_all,fun k hk Rs=>?_⟩⟩;have wa:k≠g:=fun e=>Rs (by rw[e]);rw[_root_.Go.setRow_other _ g k _ wa,_root_.Go.setRow_other _ g k _ wa];rfl
set_option maxHeartbeats 4000000 in
set_option maxRecDepth 100000 in
theorem KX:BS Tryz.prog 153 38 5:=fun w g c g2 c2 n i xs ys cur dq hg iW lS As wC pO pf lG Fp bz hi Al dK hm h1 h2=>by
 have ht:Tryz.prog.underlying 24=some (.slice 38):=by kernel_rfl
 obtain⟨i0,z0,he⟩:=cg (P:=Tryz.prog) (e:=38) (k:=.pair (.pair (.int .i64) (.int .i64)) (.pair (.sl (.pair (.pair (.int .i64) (.int .i64)) (.int .i64))) (.pair .str (.int .i64)))) (by kernel_rfl);obtain⟨G,uR,row2,row3,W1,XA,Iy,Fq,rU,Nc,Nd,SI,Rr,Ix,jn⟩:=zw (sz:=5) rfl (by decide) ht (by kernel_rfl) he w g c g2 c2 n i xs ys cur dq hg iW lS As wC pO pf lG Fp bz hi Al dK hm h1 h2;obtain⟨Ot,Ni,hw3,hb1,tS,afx,hGi,afy,hci,hb3,EV,Ql⟩:=zx hi Al dK hm Rr;unfold fk at hm;clear lS lG;have mixed:Tryz.prog.follows .mixedOrders=true:=by kernel_rfl
 go_enter Tryz.func153,Tryz.ntmps153
 go_wp2_with (first
  |(at_builtin;refine Lib.wpList_append_run _ rfl _ _ _ _ rfl _ _ rfl rfl _ _ (XA _) ?_)
  |(at_builtin;refine wpList_copy_runI _ rfl _ _ 24 24 rfl _ _ rfl rfl (Nc _ (by rfl) _ _ _) ?_))
 go_region_law (go_loud (refine step_copy_runI rfl _ _ 24 24 rfl (.slice (some ⟨w.heap.size,(i+1)*5,none⟩) (n-i) (G-(i+1))) (.slice (some ⟨g,i*5,none⟩) (n-i) (c-i)) (by simp[Act.eval,Act.put]) (by simp[Act.eval,Act.put]) (Nd (W1.setRow w.heap.size row2).drew rfl 3 (G-(i+1)) (c-i)) ?_))
 go_wp2
 go_ret
 refine⟨G,rfl,row3,setRow_heap _ w.heap.size row2 _ 38 _ (setRow_heap W1 w.heap.size uR _ 38 _ Iy),by omega,Rr,Ix,jn,⟨rU.os,rU.tape,rU.output,by have:=rU.size;simp_all,fun k hk _=>?_⟩⟩;rw[_root_.Go.setRow_other _ w.heap.size k _ (Nat.ne_of_lt hk)];exact(_root_.Go.setRow_other W1 w.heap.size k _ (Nat.ne_of_lt hk)).trans (Fq k hk)
theorem abM:DX Tryz.prog 153 38 5:=Ng Nh Iz KX
def Nj(P:Program)(f:FuncId)(e:TypeId)(size:Nat):Prop :=∀(w:World) (v:Value) (n i j:Nat) (xs:List Value),dS w e size v n xs→i<j→j≤n→n≤fk→(∀q∈xs,q.oneCell'=true) → Calls P f #[v,.int .i64 i,.int .i64 j] w fun en w'=>∃v',en=.returned v'∧dS w' e size v' (i+(n-j)) (xs.take (i*size)++xs.drop (j*size))∧w.grownBy w' (ob v)∧ob v'=ob v
theorem iY{P:Program}{ops:Array Oper}{o:Oper}{a:Act}{w:World}{K:Act→World→Prop}{Q:Exit→Act→World→Prop}{E:Prop} (hg:o.guard=none) (d x:Operand) (dT sT:TypeId) (Oq:o.op=Op.call { callee:=Callee.builtin Builtin.append,args:=#[d,x],argTypes:=#[dT,sT] }) (v u:Value) (hd:a.eval d=v) (hx:a.eval x=u) {v':Value} {w':World} (hr:(Builtin.append_ #[dT,sT] o.type #[v,u]).run P w=.ok v' w') (hK:K (a.put o.dst v') w') :
  if Region.wanted o (yielded ops a.tmps)=true then Oper.wp P o a w K Q else E:=by
 have hw:Region.wanted o (yielded ops a.tmps)=true:=by simp[Region.wanted,hg]
 rw[if_pos hw];unfold Oper.wp;simp[execOp,Oq,resolve,invoke,builtin,hd,hx,hr,Result.andThen];exact hK
theorem KY{α:Type}{cur xs cur1 dq zs:List α}{i j n sz:Nat}(lS:cur.take (n*sz)=xs)(hl:n*sz≤cur.length)(Gf:i≤j)(Sy:j≤n) (h1:cur1=cur.take (i*sz)++xs.drop (j*sz)++cur.drop (i*sz+(xs.drop (j*sz)).length)) (h2:dq=cur1.take ((i+(n-j))*sz)++zs++cur1.drop ((i+(n-j))*sz+zs.length)) :
  dq.take ((i+(n-j))*sz)=xs.take (i*sz)++xs.drop (j*sz):=by
 have ha:i*sz≤j*sz:=ab5 _ Gf;have hb:j*sz≤n*sz:=ab5 _ Sy;rw[Nat.add_mul,Nat.sub_mul]at h2 ⊢;have As:xs.length=n*sz:=by rw[←lS,List.length_take];omega
 generalize i*sz=a at *;generalize j*sz=b at *;generalize n*sz=c at *;have e0:cur.take a=xs.take a:=by rw[←lS,List.take_take];congr 1;omega
 have e1:cur1.take (a+(c-b))=xs.take a++xs.drop b:=by rw[h1,e0];exact List.take_left' (by simp only[List.length_append,List.length_take,List.length_drop];omega)
 rw[h2,e1,List.append_assoc];exact List.take_left' (by simp only[List.length_append,List.length_take,List.length_drop];omega)
set_option maxHeartbeats 4000000 in
set_option maxRecDepth 100000 in
theorem KZ(w:World)(g c n i j X:Nat)(xs:List Value)(cur:Array Value)(hg:w.heap[g]? = some (.cells cur 38 (0,0)))(iW:cur.size=c*5)(lS:cur.toList.take (n*5)=xs)(As:xs.length=n*5) (Gf:i<j) (Sy:j≤n) (Al:n≤c) (hc:c≤maxLen) (hX:if c=j then X=0 else X=j*5)
  (h1:∀q∈xs,q.oneCell'=true) :
  Calls Tryz.prog 154 #[.slice (some ⟨g,0,none⟩) n c,.int .i64 i,.int .i64 j] w fun en w'=>en=.returned (.slice (some ⟨g,0,none⟩) (i+(n-j)) c) ∧ ∃gK:Array Value,w'.heap[g]? = some (.cells gK 38 (0,0))∧gK.size=cur.size∧gK.toList.take ((i+(n-j))*5)=xs.take (i*5)++xs.drop (j*5)∧w.grownBy w' (some g):=by
 have ht:Tryz.prog.underlying 24=some (.slice 38):=by kernel_rfl
 have hz:(Tryz.prog.info? 38).map (·.size)=some 5:=by kernel_rfl
 obtain⟨zs,Ji⟩:∃zs,B7 Tryz.prog 38=some zs:=acn.1 (by kernel_rfl);obtain⟨i0,z0,hi0,hz0,rfl,Ao⟩:=qv Ji;obtain⟨i1,z1,he⟩:=cg (P:=Tryz.prog) (e:=38) (k:=.pair (.pair (.int .i64) (.int .i64)) (.pair (.sl (.pair (.pair (.int .i64) (.int .i64)) (.int .i64))) (.pair .str (.int .i64)))) (by kernel_rfl);have ei:i1=i0:=by have:=he.info;simp_all
 subst ei;have ez:z1=z0:=by have:=he.zero;simp_all
 subst ez;have Ml:z1.cells.size=5:=he.wO;clear he Ji;have KV:(xs.drop (j*5)).length=(n-j)*5:=by grind
 obtain⟨cur1,sZ⟩:∃cur1:Array Value,cur1=(cur.toList.take (i*5)++xs.drop (j*5)++cur.toList.drop (i*5+(xs.drop (j*5)).length)).toArray:=⟨_,rfl⟩;have M1:cur1.size=cur.size:=by grind
 have Yj:∀ty sc,(Builtin.append_ #[24,24] ty #[.slice (some ⟨g,0,none⟩) i c,.slice (some ⟨g,X,none⟩) (n-j) sc]).run Tryz.prog w.drew=.ok (.slice (some ⟨g,0,none⟩) (i+(n-j)) c) (w.drew.setRow g cur1):=fun ty sc=>by
  by_cases Vb:c=j
  ·have hnj:n=j:=by omega
   have:n-j=0:=by omega
   rw[this]at KV ⊢;have Mz:xs.drop (j*5)=[]:=abN (by omega);rw[fN ht hi0 _ _ _ (by omega) _ _,sZ,Mz];simp only[List.append_nil,List.length_nil,Nat.add_zero,List.take_append_drop,Array.toArray_toList];rw[setRow_self w.drew g cur 38 (0,0) hg]
  ·rw[if_neg Vb]at hX;subst hX;rw[sZ];exact pN (P:=Tryz.prog) w.drew 24 ty 38 5 g i c ⟨g,j*5,none⟩ (n-j) sc cur (xs.drop (j*5)) ht hz hg KV (vZ (size:=5) (n:=n) (w:=w.drew) hg lS (j*5)) (fun q hq=>h1 q (adx hq)) (by omega) (by omega)
 obtain⟨dq,xN⟩:∃dq:Array Value,dq=(cur1.toList.take ((i+(n-j))*5)++(Builtin.zeroCells z1.cells (j-i)).toList++cur1.toList.drop ((i+(n-j))*5+(Builtin.zeroCells z1.cells (j-i)).toList.length)).toArray:=⟨_,rfl⟩;have hzc:(Builtin.zeroCells z1.cells (j-i)).toList.length=(j-i)*5:=by simp[Builtin.zeroCells,Ml]
 have Qw:dq.size=cur.size:=by rw[xN];simp[hzc];omega
 have vF:∀ty sc,(Builtin.clear_ #[24] ty #[.slice (some ⟨g,(i+(n-j))*5,none⟩) (n-(i+(n-j))) sc]).run Tryz.prog (w.drew.setRow g cur1)=.ok (.tuple #[]) ((w.drew.setRow g cur1).setRow g dq):=fun ty sc=>by have:=sY (P:=Tryz.prog) (w.drew.setRow g cur1) 24 ty 38 5 g ((i+(n-j))*5) (j-i) sc cur1 i1 z1 ht hi0 hz0 Ml Ao (setRow_heap w.drew g cur _ 38 _ hg) (by omega) (by omega);rw[show n-(i+(n-j))=j-i by omega,this,xN]
 have jn:dq.toList.take ((i+(n-j))*5)=xs.take (i*5)++xs.drop (j*5):=KY (cur1:=cur1.toList) lS (by simp;omega) (by omega) Sy (by rw[sZ]) (by rw[xN]);clear sZ xN lS KV;have h63:c≤9223372036854775807:=by grind [maxLen]
 have tS:i≤n:=by omega
 have hic:¬(c=i):=by omega
 have hjc:j≤c:=by omega
 have bz:¬((i:Int)=(j:Int)):=by omega
 have rB:i≤j:=by omega
 have ak6:i≤c:=by omega
 have ak7:i+(n-j)≤n:=by omega
 have ak8:i+(n-j)≤c:=by omega
 have ak9:¬(c=i+(n-j)):=by omega
 have ala:(i:Int)+((n-j:Nat):Int)≤(n:Int):=by omega
 have mixed:Tryz.prog.follows .mixedOrders=true:=by kernel_rfl
 by_cases Vb:c=j
 ·rw[if_pos Vb]at hX;subst hX;subst Vb;obtain rfl:n=c:=by omega
  simp only[Nat.sub_self,Nat.add_zero]at Yj vF jn ⊢
  go_enter Tryz.func154,Tryz.ntmps154
  go_wp2_with fail
  go_region_law (go_loud (refine iY rfl _ _ 24 24 rfl (.slice (some ⟨g,0,none⟩) i n) (.slice (some ⟨g,0,none⟩) 0 0) (by simp[Act.eval,Act.put]) (by simp[Act.eval,Act.put]) (Yj 24 0) ?_))
  go_wp2_with (simp only[vF])
  go_ret
  refine⟨rfl,dq,setRow_heap _ g cur1 _ 38 _ (setRow_heap w.drew g cur _ 38 _ hg),Qw,jn,⟨rfl,rfl,rfl,by simp_all,fun k hk Rs=>?_⟩⟩;have wa:k≠g:=fun e=>Rs (by rw[e]);rw[_root_.Go.setRow_other _ g k _ wa,_root_.Go.setRow_other _ g k _ wa];rfl
 ·rw[if_neg Vb]at hX;subst hX
  go_enter Tryz.func154,Tryz.ntmps154
  go_wp2_with fail
  go_region_law (go_loud (refine iY rfl _ _ 24 24 rfl (.slice (some ⟨g,0,none⟩) i c) (.slice (some ⟨g,j*5,none⟩) (n-j) (c-j)) (by simp[Act.eval,Act.put]) (by simp[Act.eval,Act.put]) (Yj 24 (c-j)) ?_))
  go_wp2_with (simp only[vF])
  go_ret
  refine⟨rfl,dq,setRow_heap _ g cur1 _ 38 _ (setRow_heap w.drew g cur _ 38 _ hg),Qw,jn,⟨rfl,rfl,rfl,by simp_all,fun k hk Rs=>?_⟩⟩;have wa:k≠g:=fun e=>Rs (by rw[e]);rw[_root_.Go.setRow_other _ g k _ wa,_root_.Go.setRow_other _ g k _ wa];rfl
theorem abO:Nj Tryz.prog 154 38 5:=fun w v n i j xs hv Gf Sy hm h1=>by
 rcases hv.2 with⟨h0,_⟩|⟨g,c,cur,rfl,hc0,hg,Al,XB,iW,lS⟩
 ·omega
 have oP:ob (.slice (some ⟨g,0,none⟩) n c)=some g:=by simp only[ob];grind
 refine(KZ w g c n i j (if c=j then 0 else j*5) xs cur hg iW lS hv.1 Gf Sy Al XB (by split<;>rfl) h1).mono fun en w' ⟨e1,gK,e2,e3,e4,e5⟩=>?_;refine⟨_,e1,⟨?_,.inr ⟨g,c,gK,rfl,hc0,e2,by omega,XB,by rw[e3,iW],e4⟩⟩,by simp_all,?_⟩
 ·grind
 rfl
end Go.Vs
namespace Go.Vs
open Go.Proofs
variable {P:Program}
theorem DY{Z:Nat→Prop}{w:World}{k:K}{xs:List k.T}{vs:List Value}(hv:la Z w k xs vs)(hl:vs.length=xs.length*k.sz):∀q∈vs,q.oneCell'=true:=fun q hq=>by
 obtain⟨p,hp⟩:=adq hq;have aO:p<vs.length:=(abu.1 hp).1;have hs:=k.gO;have hd:p / k.sz<xs.length:=Nat.div_lt_of_lt_mul (by grind);have hr:=hv (p / k.sz) _ (abn hd);refine hr.one q ?_;have hm:=Nat.mod_add_div p k.sz;have hml:=adw p hs;have:((vs.drop (p / k.sz*k.sz)).take k.sz)[p%k.sz]? = some q:=by
  grind
 grind
theorem GW{Z:Nat→Prop}{w:World}{k:K}{xs:List k.T}{vs:List Value}(hv:la Z w k xs vs)(n:Nat):la Z w k (xs.take n) (vs.take (n*k.sz)):=fun i x hx=>by
 rw[List.getElem?_take]at hx
 split at hx
 ·rename_i hi;have:=hv i x hx;have e:((vs.take (n*k.sz)).drop (i*k.sz)).take k.sz=(vs.drop (i*k.sz)).take k.sz:=by
   rw[List.drop_take,List.take_take];congr 1;have:(i+1)*k.sz≤n*k.sz:=ab5 _ hi
   grind
  simp_all
 ·cases hx
theorem GX{Z:Nat→Prop}{w:World}{k:K}{xs:List k.T}{vs:List Value}(hv:la Z w k xs vs)(n:Nat):la Z w k (xs.drop n) (vs.drop (n*k.sz)):=fun i x hx=>by
 rw[List.getElem?_drop]at hx;have:=hv (n+i) x hx
 grind [List.drop_drop,Nat.add_mul]
theorem wb{f:FuncId}{ty:TypeId}{k:K}(hr:DX P f ty k.sz):gE P f (SR ty k):=by
 intro Z ψ h w B0 O N hh id e vs us g hB bu hN bj mK oQ Bh he;unfold SR at he
 split at he
 rotate_left
 ·cases he
 rename_i o i j
 split at he
 rotate_left
 ·cases he
 rename_i xs ys Cp Qx
 split at he
 ·cases he
 rename_i hoj;simp only[Option.some.injEq,Prod.mk.injEq]at he;obtain⟨jO,rfl⟩:=he;have hhg:hh.get=h:=mK _ _ rfl;have XD:hh.get o=some (.own (.row ty k) xs):=kB Cp;have hgj:hh.get j=some (.own (.row ty k) ys):=kB Qx;simp only[au,az]at oQ;obtain⟨v,_,rfl,⟨_,hv⟩,n,_,rfl,rfl,u,_,rfl,⟨_,hu⟩,rfl⟩:=oQ;simp only[sq,Bool.and_eq_true,decide_eq_true_eq,aL]at jO;obtain⟨h0,h1,h2,h3⟩:=jO;obtain⟨m,rfl⟩:∃m:Nat,i=m:=⟨i.toNat,by omega⟩;subst hhg;have hvo:v=ψ o:=hv (by rw[XD];simp);have huj:u=ψ j:=hu (by rw[hgj];simp);obtain⟨vs,QZ,yQ⟩:=g.row o (.row ty k) xs XD;obtain⟨jk,ho2,BA⟩:=g.row j (.row ty k) ys hgj;simp only[aC,aJ]at Bh;have bL:N id:=hN 0 (by omega);have bz:o≠id:=fun e=>Bh.1 (e▸bL);rw[h2]at ho2;subst hvo;subst huj;refine(hr w _ _ xs.length m vs jk QZ ho2 (by omega) (by omega) (fun b hb E5=>hoj (g.apart o j b (by rw[XD];simp) (by rw[hgj];simp) hb E5)) (DY yQ QZ.1) (DY BA (by rw[ho2.1,h2]))).mono fun en w' ⟨v',e1,e2,e3,e4⟩=>?_;have kk:cO ψ hh.get w w':=cO.grown e3 (fun b e=>⟨o,by rw[XD];simp,e⟩);have sm:=kk.same g;have hlen:(jf xs (m:Int) ys).length=xs.length+1:=by
  grind [jf,Int.toNat_natCast,List.length_append,List.length_take,List.length_drop]
 have htl:(vs.take (m*k.sz)).length=(xs.take m).length*k.sz:=by have:m*k.sz≤xs.length*k.sz:=ab5 _ (by omega);rw[List.length_take,List.length_take,QZ.1,Nat.min_eq_left this,Nat.min_eq_left (by omega)]
 have o8:la Z w k (jf xs (m:Int) ys) (vs.take (m*k.sz)++(jk++vs.drop (m*k.sz))):=(GW yQ m).append (BA.append (GX yQ m) (by rw[ho2.1,h2])) htl;have QT:=nQ (N:=N) g hB id o bL XD bz e3 (v:=v') (ok:=.row ty k) (y:=jf xs m ys) ⟨_,by simp_all,o8.Co sm⟩ e4 (fun i ty cs hb=>aC.imp (p:=fun i=>¬N i) (q:=fun i=>i≠id) (fun a ha e=>ha (by simp_all)) (bj i ty cs hb));have hhp:Heap.get ((id,Ob.own (.row ty k) (jf xs (m:Int) ys))::hh.del o)=dV (dV hh.get o none) id (some (.own (.row ty k) (jf xs m ys))):=by rw[Cv,tH]
 refine⟨v',Z,dV ψ id v',e1,?_,?_⟩
 ·show Next Z ψ hh.get w B0 O N Z (dV ψ id v') (Heap.get ((id,Ob.own (.row ty k) (jf xs (m:Int) ys))::hh.del o)) w';simp_all
 ·simp only[bE.v,az];exact⟨e2.one,fun _=>(bf _ _ _).symm⟩
theorem DZ{f:FuncId}{ty:TypeId}{k:K}(hr:Nj P f ty k.sz):gE P f (XN ty k):=by
 intro Z ψ h w B0 O N hh id e vs us g hB bu hN bj mK oQ Bh he;unfold XN at he
 split at he
 rotate_left
 ·cases he
 rename_i o i j
 split at he
 rotate_left
 ·cases he
 rename_i xs Cp;simp only[Option.some.injEq,Prod.mk.injEq]at he;obtain⟨jO,rfl⟩:=he;have hhg:hh.get=h:=mK _ _ rfl;have XD:hh.get o=some (.own (.row ty k) xs):=kB Cp;simp only[au,az]at oQ;obtain⟨v,_,rfl,⟨_,hv⟩,n,_,rfl,rfl,u,_,rfl,rfl,rfl⟩:=oQ;simp only[kg,Bool.and_eq_true,decide_eq_true_eq,aL]at jO;obtain⟨h0,h1,h2,h3⟩:=jO;obtain⟨m,rfl⟩:∃m:Nat,i=m:=⟨i.toNat,by omega⟩;obtain⟨q,rfl⟩:∃m:Nat,j=m:=⟨j.toNat,by omega⟩;subst hhg;have hvo:v=ψ o:=hv (by rw[XD];simp);obtain⟨vs,QZ,yQ⟩:=g.row o (.row ty k) xs XD;simp only[aC,aJ]at Bh;have bL:N id:=hN 0 (by omega);have bz:o≠id:=fun e=>Bh.1 (e▸bL);subst hvo;refine(hr w _ xs.length m q vs QZ (by omega) (by omega) (by omega) (DY yQ QZ.1)).mono fun en w' ⟨v',e1,e2,e3,e4⟩=>?_;have kk:cO ψ hh.get w w':=cO.grown e3 (fun b e=>⟨o,by rw[XD];simp,e⟩);have sm:=kk.same g;have hlen:(dF xs (m:Int) q).length=m+(xs.length-q):=by
  grind [dF,Int.toNat_natCast,List.length_append,List.length_take,List.length_drop]
 have htl:(vs.take (m*k.sz)).length=(xs.take m).length*k.sz:=by have:m*k.sz≤xs.length*k.sz:=ab5 _ (by omega);rw[List.length_take,List.length_take,QZ.1,Nat.min_eq_left this,Nat.min_eq_left (by omega)]
 have o8:la Z w k (dF xs (m:Int) q) (vs.take (m*k.sz)++vs.drop (q*k.sz)):=(GW yQ m).append (GX yQ q) htl;have QT:=nQ (N:=N) g hB id o bL XD bz e3 (v:=v') (ok:=.row ty k) (y:=dF xs m q) ⟨_,by simp_all,o8.Co sm⟩ (.inl e4) (fun i ty cs hb=>aC.imp (p:=fun i=>¬N i) (q:=fun i=>i≠id) (fun a ha e=>ha (by simp_all)) (bj i ty cs hb));have hhp:Heap.get ((id,Ob.own (.row ty k) (dF xs (m:Int) q))::hh.del o)=dV (dV hh.get o none) id (some (.own (.row ty k) (dF xs m q))):=by rw[Cv,tH]
 refine⟨v',Z,dV ψ id v',e1,?_,?_⟩
 ·show Next Z ψ hh.get w B0 O N Z (dV ψ id v') (Heap.get ((id,Ob.own (.row ty k) (dF xs (m:Int) q))::hh.del o)) w';simp_all
 ·simp only[bE.v,az];exact⟨e2.one,fun _=>(bf _ _ _).symm⟩
end Go.Vs
namespace Go.Vs
open Go.Proofs Go.RowKit
set_option maxHeartbeats 4000000 in
set_option maxRecDepth 100000 in
theorem Nk:It Tryz.prog 191 84 4:=fun w v u n xs ys hv hu hm h1=>by
 have ht:Tryz.prog.underlying 25=some (.slice 84):=by kernel_rfl
 obtain⟨i0,z0,he⟩:=cg (P:=Tryz.prog) (e:=84) (k:=.pair (.pair (.int .i64) (.int .i64)) (.pair .str (.int .i64))) (by kernel_rfl);have yK:=Iu hu h1;obtain⟨v',w',dg,h4,h5,h6⟩:=dW (P:=Tryz.prog) (ty:=25) ht he hv yK hm;obtain⟨A,c,rfl⟩:=hv.slice;have Al:n≤c:=by
  rcases hv.2 with⟨h0,A,e⟩|⟨g,cap,cur,e,hc,h2,h3,_⟩
  ·omega
  simp_all
 obtain⟨B,cu,rfl⟩:=hu.slice;have afu:n≤1073741824:=by grind [fk]
 go_enter Tryz.func191,Tryz.ntmps191
 go_wp2_with (at_builtin;refine Lib.wpList_append_run _ rfl _ _ _ _ rfl _ _ rfl rfl _ _ dg ?_)
 all_goals go_ret
 all_goals first|exact⟨_,rfl,h4,h5,h6⟩|(subst_vars;exact⟨_,rfl,h4,h5,h6⟩)
set_option maxHeartbeats 4000000 in
set_option maxRecDepth 100000 in
theorem IA:xM Tryz.prog 191 84 4:=fun w g c g2 c2 n i xs ys cur dq hg iW lS As wC pO pf lG Fp bz hi dK hc h1 h2=>by
 have ht:Tryz.prog.underlying 25=some (.slice 84):=by kernel_rfl
 have hz:(Tryz.prog.info? 84).map (·.size)=some 4:=by kernel_rfl
 have Ji:∀w,(Go.sizeOf 84).run Tryz.prog w=.ok 4 w:=fun w=>by rfl
 have XC:∀a2 lb cb,(callFunc 213 #[.slice (some ⟨g2,0,none⟩) 1 c2,.slice (some ⟨g,a2,none⟩) lb cb]).run Tryz.prog w=.ok (.value (.bool false)) w:=fun a2 lb cb=>by rw[run_callFunc_extern Tryz.func213 (by kernel_rfl) (by kernel_rfl) (by kernel_rfl) (e:=Extern.SlicesOverlaps.overlaps #[25,25] #[4]) (by kernel_rfl),Lib.run_overlaps_apart w 25 4 84 ht 4 Ji ⟨g2,0,none⟩ ⟨g,a2,none⟩ 1 c2 lb cb bz 84 84 dq.size cur.size (by simp[World.shape?,wC]) (by simp[World.shape?,hg]) (by omega) (by simp[World.frozen?,wC]) (by simp[World.frozen?,wC])];rfl
 obtain⟨cur1,cur3,Nb,KW,SI,jn⟩:=v5 ht hz w g c g2 c2 n i xs ys cur dq hg iW lS As wC pO pf lG Fp bz hi dK hc h1 h2;have h63:c≤9223372036854775807:=by grind [maxLen]
 obtain⟨Ot,Ni,hb1,tS,htn,E5,hb3,hb4,EV,Ql⟩:=v7 hi dK hc;clear lS lG;have mixed:Tryz.prog.follows .mixedOrders=true:=by kernel_rfl
 go_enter Tryz.func191,Tryz.ntmps191
 go_wp2_with (simp only[XC])
 go_region_law (go_loud (refine step_copy_runI rfl _ _ 25 25 rfl (.slice (some ⟨g,(i+1)*4,none⟩) (n-i) (c-(i+1))) (.slice (some ⟨g,i*4,none⟩) (n+1-i) (c-i)) (by simp[Act.eval,Act.put]) (by simp[Act.eval,Act.put]) (Nb w.drew rfl 3 (c-(i+1)) (c-i)) ?_))
 go_wp2_with (simp only[KW])
 go_ret
 refine⟨rfl,cur3,setRow_heap _ g cur1 _ 84 _ (setRow_heap w.drew g cur _ 84 _ hg),SI,jn,⟨rfl,rfl,rfl,by simp_all,fun k hk Rs=>?_⟩⟩;have wa:k≠g:=fun e=>Rs (by rw[e]);rw[_root_.Go.setRow_other _ g k _ wa,_root_.Go.setRow_other _ g k _ wa];rfl
set_option maxHeartbeats 4000000 in
set_option maxRecDepth 100000 in
theorem K0:BS Tryz.prog 191 84 4:=fun w g c g2 c2 n i xs ys cur dq hg iW lS As wC pO pf lG Fp bz hi Al dK hm h1 h2=>by
 have ht:Tryz.prog.underlying 25=some (.slice 84):=by kernel_rfl
 obtain⟨i0,z0,he⟩:=cg (P:=Tryz.prog) (e:=84) (k:=.pair (.pair (.int .i64) (.int .i64)) (.pair .str (.int .i64))) (by kernel_rfl);obtain⟨G,uR,row2,row3,W1,XA,Iy,Fq,rU,Nc,Nd,SI,Rr,Ix,jn⟩:=zw (sz:=4) rfl (by decide) ht (by kernel_rfl) he w g c g2 c2 n i xs ys cur dq hg iW lS As wC pO pf lG Fp bz hi Al dK hm h1 h2;obtain⟨Ot,Ni,hw3,hb1,tS,afx,hGi,afy,hci,hb3,EV,Ql⟩:=zx hi Al dK hm Rr;unfold fk at hm;clear lS lG;have mixed:Tryz.prog.follows .mixedOrders=true:=by kernel_rfl
 go_enter Tryz.func191,Tryz.ntmps191
 go_wp2_with (first
  |(at_builtin;refine Lib.wpList_append_run _ rfl _ _ _ _ rfl _ _ rfl rfl _ _ (XA _) ?_)
  |(at_builtin;refine wpList_copy_runI _ rfl _ _ 25 25 rfl _ _ rfl rfl (Nc _ (by rfl) _ _ _) ?_))
 go_region_law (go_loud (refine step_copy_runI rfl _ _ 25 25 rfl (.slice (some ⟨w.heap.size,(i+1)*4,none⟩) (n-i) (G-(i+1))) (.slice (some ⟨g,i*4,none⟩) (n-i) (c-i)) (by simp[Act.eval,Act.put]) (by simp[Act.eval,Act.put]) (Nd (W1.setRow w.heap.size row2).drew rfl 3 (G-(i+1)) (c-i)) ?_))
 go_wp2
 go_ret
 refine⟨G,rfl,row3,setRow_heap _ w.heap.size row2 _ 84 _ (setRow_heap W1 w.heap.size uR _ 84 _ Iy),by omega,Rr,Ix,jn,⟨rU.os,rU.tape,rU.output,by have:=rU.size;simp_all,fun k hk _=>?_⟩⟩;rw[_root_.Go.setRow_other _ w.heap.size k _ (Nat.ne_of_lt hk)];exact(_root_.Go.setRow_other W1 w.heap.size k _ (Nat.ne_of_lt hk)).trans (Fq k hk)
theorem abQ:DX Tryz.prog 191 84 4:=Ng Nk IA K0
set_option maxHeartbeats 4000000 in
set_option maxRecDepth 100000 in
theorem K1(w:World)(g c n i j X:Nat)(xs:List Value)(cur:Array Value)(hg:w.heap[g]? = some (.cells cur 84 (0,0)))(iW:cur.size=c*4)(lS:cur.toList.take (n*4)=xs)(As:xs.length=n*4) (Gf:i<j) (Sy:j≤n) (Al:n≤c) (hc:c≤maxLen) (hX:if c=j then X=0 else X=j*4)
  (h1:∀q∈xs,q.oneCell'=true) :
  Calls Tryz.prog 164 #[.slice (some ⟨g,0,none⟩) n c,.int .i64 i,.int .i64 j] w fun en w'=>en=.returned (.slice (some ⟨g,0,none⟩) (i+(n-j)) c) ∧ ∃gK:Array Value,w'.heap[g]? = some (.cells gK 84 (0,0))∧gK.size=cur.size∧gK.toList.take ((i+(n-j))*4)=xs.take (i*4)++xs.drop (j*4)∧w.grownBy w' (some g):=by
 have ht:Tryz.prog.underlying 25=some (.slice 84):=by kernel_rfl
 have hz:(Tryz.prog.info? 84).map (·.size)=some 4:=by kernel_rfl
 obtain⟨zs,Ji⟩:∃zs,B7 Tryz.prog 84=some zs:=acn.1 (by kernel_rfl);obtain⟨i0,z0,hi0,hz0,rfl,Ao⟩:=qv Ji;obtain⟨i1,z1,he⟩:=cg (P:=Tryz.prog) (e:=84) (k:=.pair (.pair (.int .i64) (.int .i64)) (.pair .str (.int .i64))) (by kernel_rfl);have ei:i1=i0:=by have:=he.info;simp_all
 subst ei;have ez:z1=z0:=by have:=he.zero;simp_all
 subst ez;have Ml:z1.cells.size=4:=he.wO;clear he Ji;have KV:(xs.drop (j*4)).length=(n-j)*4:=by grind
 obtain⟨cur1,sZ⟩:∃cur1:Array Value,cur1=(cur.toList.take (i*4)++xs.drop (j*4)++cur.toList.drop (i*4+(xs.drop (j*4)).length)).toArray:=⟨_,rfl⟩;have M1:cur1.size=cur.size:=by grind
 have Yj:∀ty sc,(Builtin.append_ #[25,25] ty #[.slice (some ⟨g,0,none⟩) i c,.slice (some ⟨g,X,none⟩) (n-j) sc]).run Tryz.prog w.drew=.ok (.slice (some ⟨g,0,none⟩) (i+(n-j)) c) (w.drew.setRow g cur1):=fun ty sc=>by
  by_cases Vb:c=j
  ·have hnj:n=j:=by omega
   have:n-j=0:=by omega
   rw[this]at KV ⊢;have Mz:xs.drop (j*4)=[]:=abN (by omega);rw[fN ht hi0 _ _ _ (by omega) _ _,sZ,Mz];simp only[List.append_nil,List.length_nil,Nat.add_zero,List.take_append_drop,Array.toArray_toList];rw[setRow_self w.drew g cur 84 (0,0) hg]
  ·rw[if_neg Vb]at hX;subst hX;rw[sZ];exact pN (P:=Tryz.prog) w.drew 25 ty 84 4 g i c ⟨g,j*4,none⟩ (n-j) sc cur (xs.drop (j*4)) ht hz hg KV (vZ (size:=4) (n:=n) (w:=w.drew) hg lS (j*4)) (fun q hq=>h1 q (adx hq)) (by omega) (by omega)
 obtain⟨dq,xN⟩:∃dq:Array Value,dq=(cur1.toList.take ((i+(n-j))*4)++(Builtin.zeroCells z1.cells (j-i)).toList++cur1.toList.drop ((i+(n-j))*4+(Builtin.zeroCells z1.cells (j-i)).toList.length)).toArray:=⟨_,rfl⟩;have hzc:(Builtin.zeroCells z1.cells (j-i)).toList.length=(j-i)*4:=by simp[Builtin.zeroCells,Ml]
 have Qw:dq.size=cur.size:=by rw[xN];simp[hzc];omega
 have vF:∀ty sc,(Builtin.clear_ #[25] ty #[.slice (some ⟨g,(i+(n-j))*4,none⟩) (n-(i+(n-j))) sc]).run Tryz.prog (w.drew.setRow g cur1)=.ok (.tuple #[]) ((w.drew.setRow g cur1).setRow g dq):=fun ty sc=>by have:=sY (P:=Tryz.prog) (w.drew.setRow g cur1) 25 ty 84 4 g ((i+(n-j))*4) (j-i) sc cur1 i1 z1 ht hi0 hz0 Ml Ao (setRow_heap w.drew g cur _ 84 _ hg) (by omega) (by omega);rw[show n-(i+(n-j))=j-i by omega,this,xN]
 have jn:dq.toList.take ((i+(n-j))*4)=xs.take (i*4)++xs.drop (j*4):=KY (cur1:=cur1.toList) lS (by simp;omega) (by omega) Sy (by rw[sZ]) (by rw[xN]);clear sZ xN lS KV;have h63:c≤9223372036854775807:=by grind [maxLen]
 have tS:i≤n:=by omega
 have hic:¬(c=i):=by omega
 have hjc:j≤c:=by omega
 have bz:¬((i:Int)=(j:Int)):=by omega
 have rB:i≤j:=by omega
 have ak6:i≤c:=by omega
 have ak7:i+(n-j)≤n:=by omega
 have ak8:i+(n-j)≤c:=by omega
 have ak9:¬(c=i+(n-j)):=by omega
 have ala:(i:Int)+((n-j:Nat):Int)≤(n:Int):=by omega
 have mixed:Tryz.prog.follows .mixedOrders=true:=by kernel_rfl
 by_cases Vb:c=j
 ·rw[if_pos Vb]at hX;subst hX;subst Vb;obtain rfl:n=c:=by omega
  simp only[Nat.sub_self,Nat.add_zero]at Yj vF jn ⊢
  go_enter Tryz.func164,Tryz.ntmps164
  go_wp2_with fail
  go_region_law (go_loud (refine iY rfl _ _ 25 25 rfl (.slice (some ⟨g,0,none⟩) i n) (.slice (some ⟨g,0,none⟩) 0 0) (by simp[Act.eval,Act.put]) (by simp[Act.eval,Act.put]) (Yj 25 0) ?_))
  go_wp2_with (simp only[vF])
  go_ret
  refine⟨rfl,dq,setRow_heap _ g cur1 _ 84 _ (setRow_heap w.drew g cur _ 84 _ hg),Qw,jn,⟨rfl,rfl,rfl,by simp_all,fun k hk Rs=>?_⟩⟩;have wa:k≠g:=fun e=>Rs (by rw[e]);rw[_root_.Go.setRow_other _ g k _ wa,_root_.Go.setRow_other _ g k _ wa];rfl
 ·rw[if_neg Vb]at hX;subst hX
  go_enter Tryz.func164,Tryz.ntmps164
  go_wp2_with fail
  go_region_law (go_loud (refine iY rfl _ _ 25 25 rfl (.slice (some ⟨g,0,none⟩) i c) (.slice (some ⟨g,j*4,none⟩) (n-j) (c-j)) (by simp[Act.eval,Act.put]) (by simp[Act.eval,Act.put]) (Yj 25 (c-j)) ?_))
  go_wp2_with (simp only[vF])
  go_ret
  refine⟨rfl,dq,setRow_heap _ g cur1 _ 84 _ (setRow_heap w.drew g cur _ 84 _ hg),Qw,jn,⟨rfl,rfl,rfl,by simp_all,fun k hk Rs=>?_⟩⟩;have wa:k≠g:=fun e=>Rs (by rw[e]);rw[_root_.Go.setRow_other _ g k _ wa,_root_.Go.setRow_other _ g k _ wa];rfl
theorem abR:Nj Tryz.prog 164 84 4:=fun w v n i j xs hv Gf Sy hm h1=>by
 rcases hv.2 with⟨h0,_⟩|⟨g,c,cur,rfl,hc0,hg,Al,XB,iW,lS⟩
 ·omega
 have oP:ob (.slice (some ⟨g,0,none⟩) n c)=some g:=by simp only[ob];grind
 refine(K1 w g c n i j (if c=j then 0 else j*4) xs cur hg iW lS hv.1 Gf Sy Al XB (by split<;>rfl) h1).mono fun en w' ⟨e1,gK,e2,e3,e4,e5⟩=>?_;refine⟨_,e1,⟨?_,.inr ⟨g,c,gK,rfl,hc0,e2,by omega,XB,by rw[e3,iW],e4⟩⟩,by simp_all,?_⟩
 ·grind
 rfl
set_option maxHeartbeats 4000000 in
set_option maxRecDepth 100000 in
theorem Nl:It Tryz.prog 220 42 6:=fun w v u n xs ys hv hu hm h1=>by
 have ht:Tryz.prog.underlying 28=some (.slice 42):=by kernel_rfl
 obtain⟨i0,z0,he⟩:=cg (P:=Tryz.prog) (e:=42) (k:=.pair (.pair (.pair (.int .i64) (.int .i64)) (.int .i64)) (.pair (.pair (.int .i64) (.int .i64)) (.int .i64))) (by kernel_rfl);have yK:=Iu hu h1;obtain⟨v',w',dg,h4,h5,h6⟩:=dW (P:=Tryz.prog) (ty:=28) ht he hv yK hm;obtain⟨A,c,rfl⟩:=hv.slice;have Al:n≤c:=by
  rcases hv.2 with⟨h0,A,e⟩|⟨g,cap,cur,e,hc,h2,h3,_⟩
  ·omega
  simp_all
 obtain⟨B,cu,rfl⟩:=hu.slice;have afu:n≤1073741824:=by grind [fk]
 go_enter Tryz.func220,Tryz.ntmps220
 go_wp2_with (at_builtin;refine Lib.wpList_append_run _ rfl _ _ _ _ rfl _ _ rfl rfl _ _ dg ?_)
 all_goals go_ret
 all_goals first|exact⟨_,rfl,h4,h5,h6⟩|(subst_vars;exact⟨_,rfl,h4,h5,h6⟩)
set_option maxHeartbeats 4000000 in
set_option maxRecDepth 100000 in
theorem IB:xM Tryz.prog 220 42 6:=fun w g c g2 c2 n i xs ys cur dq hg iW lS As wC pO pf lG Fp bz hi dK hc h1 h2=>by
 have ht:Tryz.prog.underlying 28=some (.slice 42):=by kernel_rfl
 have hz:(Tryz.prog.info? 42).map (·.size)=some 6:=by kernel_rfl
 have Ji:∀w,(Go.sizeOf 42).run Tryz.prog w=.ok 6 w:=fun w=>by rfl
 have XC:∀a2 lb cb,(callFunc 232 #[.slice (some ⟨g2,0,none⟩) 1 c2,.slice (some ⟨g,a2,none⟩) lb cb]).run Tryz.prog w=.ok (.value (.bool false)) w:=fun a2 lb cb=>by rw[run_callFunc_extern Tryz.func232 (by kernel_rfl) (by kernel_rfl) (by kernel_rfl) (e:=Extern.SlicesOverlaps.overlaps #[28,28] #[4]) (by kernel_rfl),Lib.run_overlaps_apart w 28 4 42 ht 6 Ji ⟨g2,0,none⟩ ⟨g,a2,none⟩ 1 c2 lb cb bz 42 42 dq.size cur.size (by simp[World.shape?,wC]) (by simp[World.shape?,hg]) (by omega) (by simp[World.frozen?,wC]) (by simp[World.frozen?,wC])];rfl
 obtain⟨cur1,cur3,Nb,KW,SI,jn⟩:=v5 ht hz w g c g2 c2 n i xs ys cur dq hg iW lS As wC pO pf lG Fp bz hi dK hc h1 h2;have h63:c≤9223372036854775807:=by grind [maxLen]
 obtain⟨Ot,Ni,hb1,tS,htn,E5,hb3,hb4,EV,Ql⟩:=v7 hi dK hc;clear lS lG;have mixed:Tryz.prog.follows .mixedOrders=true:=by kernel_rfl
 go_enter Tryz.func220,Tryz.ntmps220
 go_wp2_with (simp only[XC])
 go_region_law (go_loud (refine step_copy_runI rfl _ _ 28 28 rfl (.slice (some ⟨g,(i+1)*6,none⟩) (n-i) (c-(i+1))) (.slice (some ⟨g,i*6,none⟩) (n+1-i) (c-i)) (by simp[Act.eval,Act.put]) (by simp[Act.eval,Act.put]) (Nb w.drew rfl 3 (c-(i+1)) (c-i)) ?_))
 go_wp2_with (simp only[KW])
 go_ret
 refine⟨rfl,cur3,setRow_heap _ g cur1 _ 42 _ (setRow_heap w.drew g cur _ 42 _ hg),SI,jn,⟨rfl,rfl,rfl,by simp_all,fun k hk Rs=>?_⟩⟩;have wa:k≠g:=fun e=>Rs (by rw[e]);rw[_root_.Go.setRow_other _ g k _ wa,_root_.Go.setRow_other _ g k _ wa];rfl
set_option maxHeartbeats 4000000 in
set_option maxRecDepth 100000 in
theorem K2:BS Tryz.prog 220 42 6:=fun w g c g2 c2 n i xs ys cur dq hg iW lS As wC pO pf lG Fp bz hi Al dK hm h1 h2=>by
 have ht:Tryz.prog.underlying 28=some (.slice 42):=by kernel_rfl
 obtain⟨i0,z0,he⟩:=cg (P:=Tryz.prog) (e:=42) (k:=.pair (.pair (.pair (.int .i64) (.int .i64)) (.int .i64)) (.pair (.pair (.int .i64) (.int .i64)) (.int .i64))) (by kernel_rfl);obtain⟨G,uR,row2,row3,W1,XA,Iy,Fq,rU,Nc,Nd,SI,Rr,Ix,jn⟩:=zw (sz:=6) rfl (by decide) ht (by kernel_rfl) he w g c g2 c2 n i xs ys cur dq hg iW lS As wC pO pf lG Fp bz hi Al dK hm h1 h2;obtain⟨Ot,Ni,hw3,hb1,tS,afx,hGi,afy,hci,hb3,EV,Ql⟩:=zx hi Al dK hm Rr;unfold fk at hm;clear lS lG;have mixed:Tryz.prog.follows .mixedOrders=true:=by kernel_rfl
 go_enter Tryz.func220,Tryz.ntmps220
 go_wp2_with (first
  |(at_builtin;refine Lib.wpList_append_run _ rfl _ _ _ _ rfl _ _ rfl rfl _ _ (XA _) ?_)
  |(at_builtin;refine wpList_copy_runI _ rfl _ _ 28 28 rfl _ _ rfl rfl (Nc _ (by rfl) _ _ _) ?_))
 go_region_law (go_loud (refine step_copy_runI rfl _ _ 28 28 rfl (.slice (some ⟨w.heap.size,(i+1)*6,none⟩) (n-i) (G-(i+1))) (.slice (some ⟨g,i*6,none⟩) (n-i) (c-i)) (by simp[Act.eval,Act.put]) (by simp[Act.eval,Act.put]) (Nd (W1.setRow w.heap.size row2).drew rfl 3 (G-(i+1)) (c-i)) ?_))
 go_wp2
 go_ret
 refine⟨G,rfl,row3,setRow_heap _ w.heap.size row2 _ 42 _ (setRow_heap W1 w.heap.size uR _ 42 _ Iy),by omega,Rr,Ix,jn,⟨rU.os,rU.tape,rU.output,by have:=rU.size;simp_all,fun k hk _=>?_⟩⟩;rw[_root_.Go.setRow_other _ w.heap.size k _ (Nat.ne_of_lt hk)];exact(_root_.Go.setRow_other W1 w.heap.size k _ (Nat.ne_of_lt hk)).trans (Fq k hk)
theorem abS:DX Tryz.prog 220 42 6:=Ng Nl IB K2
def O3(P:Program)(f:FuncId)(e:TypeId)(size:Nat):Prop :=∀(w:World) (n:Nat),n≤fk→Calls P f #[.slice none 0 0,.int .i64 n] w fun en w'=>∃v',en=.returned v'∧dS w' e size v' 0 []∧w.grownBy w' none∧∀b,ob v'=some b→w.heap.size≤b
set_option maxHeartbeats 4000000 in
set_option maxRecDepth 100000 in
theorem Yk:O3 Tryz.prog 222 40 3:=fun w n hm=>by
 have ht:Tryz.prog.underlying 36=some (.slice 40):=by kernel_rfl
 have htn:Tryz.prog.underlying 3=some (.int .i64):=by kernel_rfl
 obtain⟨i0,z0,he⟩:=cg (P:=Tryz.prog) (e:=40) (k:=.pair (.pair (.int .i64) (.int .i64)) (.int .i64)) (by kernel_rfl);have Ml:z0.cells.size=3:=he.wO;have Ji:i0.size=3:=he.size;have Mm:=he.bytes;unfold fk at hm;by_cases hn:n=0
 ·subst hn;have oP:ob (.slice none 0 0)=none:=rfl
  go_enter Tryz.func222,Tryz.ntmps222
  go_wp2
  go_ret
  exact⟨_,rfl,⟨by simp,.inl ⟨rfl,none,rfl⟩⟩,World.grownBy.refl w _,fun b hb=>by simp_all⟩
 ·have sE:n*i0.bytes≤281474976710656:=acz (ad5 hm Mm) (by decide);obtain⟨G,hG⟩:∃G,G=grownCap w n 0 40:=⟨_,rfl⟩;obtain⟨uR,abL⟩:∃uR,uR=Builtin.zeroCells z0.cells n++Builtin.zeroCells z0.cells (G-n):=⟨_,rfl⟩;obtain⟨W1,GU⟩:∃W1,W1=w.drew.alloc (.cells uR 40):=⟨_,rfl⟩;have XA:∀ty,(Builtin.append_ #[36,3] ty #[.slice none 0 0,.int .i64 n]).run Tryz.prog w=.ok (.slice (some ⟨w.heap.size,0,none⟩) n G) W1:=fun ty=>by rw[GU,abL,hG];exact Lib.run_append_nil_zeros w 36 3 ty 40 i0 z0 .i64 .i64 ht htn he.info he.zero n (by omega) (by omega) (by omega) sE
  have Rr:n≤G:=by grind [grownCap_ge]
  have Ix:G≤9223372036854775807:=by
   grind [grownCap_le_maxLen,maxLen]
  have hRs:uR.size=G*3:=by
   grind [Builtin.zeroCells]
  have Iy:W1.heap[w.heap.size]? = some (.cells uR 40 (0,0)):=by rw[GU];exact(MapKept.heap_alloc w.drew (.cells uR 40)).1
  have Fq:∀b,b<w.heap.size→W1.heap[b]? = w.heap[b]? := fun b hb=>by rw[GU];exact(Below.heap_alloc w.drew (.cells uR 40) b hb).trans rfl
  have rU:w.grownBy W1 none:=⟨by rw[GU];rfl,by rw[GU];rfl,by rw[GU];rfl,by simp_all,fun k hk _=>Fq k hk⟩;clear abL GU hG;have hn0:¬((n:Int)<0):=by omega
  have hn1:0<(n:Int):=by omega
  have hn2:IntKind.i64.wrap (n:Int)=n:=by rw[IntKind.wrap_i64];omega
  have hG0:¬(G=0):=by omega
  go_enter Tryz.func222,Tryz.ntmps222
  go_wp2_with (at_builtin;refine Lib.wpList_append_run _ rfl _ _ _ _ rfl _ _ rfl rfl _ _ (XA _) ?_)
  go_ret
  refine⟨.slice (some ⟨w.heap.size,0,none⟩) 0 G,rfl,⟨by simp,.inr ⟨w.heap.size,G,uR,rfl,by omega,Iy,by omega,Ix,hRs,by simp⟩⟩,rU,fun b hb=>?_⟩;simp_all [ob,if_neg]
theorem K3{P:Program}{f:FuncId}{ty:TypeId}{k:K}(hr:O3 P f ty k.sz):gE P f (SS ty k):=by
 intro Z ψ h w B0 O N hh id e vs us g hB bu hN bj mK oQ Bh he;unfold SS at he
 split at he
 rotate_left
 ·cases he
 rename_i n;simp only[Option.some.injEq,Prod.mk.injEq]at he;obtain⟨jO,rfl⟩:=he;simp only[Ce,Bool.and_eq_true,decide_eq_true_eq]at jO;obtain⟨h0,h1⟩:=jO;obtain⟨m,rfl⟩:∃m:Nat,n=m:=⟨n.toNat,by omega⟩;simp only[au,az]at oQ;obtain⟨v,_,rfl,rfl,u,_,rfl,rfl,rfl⟩:=oQ;have bL:N id:=hN 0 (by omega);refine(hr w m (by omega)).mono fun en w' ⟨v',e1,e2,e3,e4⟩=>?_;have kk:cO ψ h w w':=cO.grown e3 (fun b e=>by cases e);have QT:=pe (N:=N) g hB id ty bL (k:=k) (xs:=[]) (vs:=[]) kk (fun b hb=>e3.block b (g.bO hb) (by simp)) e2 (fun i x hx=>by simp at hx) e4 (fun i ty cs hb=>aC.imp (p:=fun i=>¬N i) (q:=fun i=>i≠id) (fun a ha e=>ha (by simp_all)) (bj i ty cs hb));refine⟨v',Z,dV ψ id v',e1,?_,?_⟩
 ·have hhp:(bE.new (.bK id) [(id,Ob.own (.row ty k) [])]).hp h=dV h id (some (.own (.row ty k) [])):=gQ id _ h;simp_all
 ·simp only[bE.v,az];exact⟨e2.one,fun _=>(bf _ _ _).symm⟩
end Go.Vs
namespace Go.Vs
variable {P:Program}
def Bq(P:Program)(g:TypeId→K→Bool):List Field→Nat→K→Bool
 |[],_,_=>false
 |[f],off,k=>(f.name != "_")&&(decide (f.offset=off)&&(decide (P.cellsOf f.type=k.sz)&&g f.type k))
 |f::f'::r,off,.pair a b=>(f.name != "_")&&(decide (f.offset=off)&&(decide (P.cellsOf f.type=a.sz)&&(g f.type a&&Bq P g (f'::r) (off+a.sz) b)))
 |_,_,_=>false
def Vc(P:Program):Nat→TypeId→K→Bool
 |0,_,_=>false
 |d+1,t,k =>
  match P.underlying t,k with
  |some (.int a),.int b=>decide (a=b)
  |some .bool,.bool=>true
  |some .string,.str=>true
  |some (.struct fs),.pair a b => !P.stoodInHeld t&&Bq P (Vc P d) fs.toList 0 (.pair a b)
  |_,_=>false
def VK(w:World)(Z:Nat→Prop):(k:K)→k.T→Value→Prop
 |.pair a b,x,v=>∃cs:Array Value,v=.agg cs∧aI Z w (.pair a b) x cs.toList
 |.one k,x,v=>False
 |k,x,v=>aI Z w k x [v]
theorem BT{Z:Nat→Prop}{w:World}{d:Nat}{t:TypeId}{k:K}(hk:Vc P d t k=true)(hc:P.cellsOf t=k.sz){cs:Array Value}{off:Nat}{x:k.T}(hr:aI Z w k x ((cs.toList.drop off).take k.sz)) :
  ∃v,(part t cs off).run P w=.ok v w∧VK w Z k x v:=by
 cases d with
 |zero=>simp[Vc]at hk
 |succ d =>
  have plain:k.sz=1→(P.underlying t).map Mo=some false→∃v,(part t cs off).run P w=.ok v w∧aI Z w k x [v]:=fun h1 h2=>by
   rw[h1]at hr;have hl:=hr.len;rw[h1,List.length_take,List.length_drop,Array.length_toList]at hl;have aO:off<cs.size:=by omega
   refine⟨cs[off],?_,?_⟩
   ·simp[part,gP h2,aO]
   grind [List.drop_eq_getElem_cons]
  unfold Vc at hk
  split at hk
  ·rename_i a b hu;exact plain rfl (by rw[hu];rfl)
  ·rename_i hu;exact plain rfl (by rw[hu];rfl)
  ·rename_i hu;exact plain rfl (by rw[hu];rfl)
  ·rename_i fs a b hu;obtain⟨i,hi⟩:=uX hu;refine⟨.agg (cs.extract off (off+P.cellsOf t)),?_,_,rfl,?_⟩
   ·have h2:(P.underlying t).map Mo=some true:=by rw[hu];rfl
    simp[part,gP h2,dJ hi]
   simp_all
  ·cases hk
def kH(em:Bool)(d:Nat)(cs:Array Value):List Field→Sem Unit
 |[]=>pure ()
 |f::fs =>
  if f.name≠ "_" then do
   let a ←part f.type cs f.offset
   Instr.checkKey em d f.type a
   kH em d cs fs
  else kH em d cs fs
theorem uU(em:Bool)(w:World)(d:Nat)(t:TypeId)(cs:Array Value)(fs:Array Field)(ht:P.underlying t=some (.struct fs)) :
  (Instr.checkKey em (d+1) t (.agg cs)).run P w=(kH em d cs fs.toList).run P w:=by
 simp only[Instr.checkKey,Sem.run_bind,run_underlying ht,Result.andThen_ok];rw[←Array.forIn_toList];generalize fs.toList=l;clear ht
 induction l generalizing w with
 |nil=>rfl
 |cons f fs ih =>
  simp only[List.forIn_cons,kH,Sem.run_bind,Sem.run_ite]
  split
  ·generalize (part f.type cs f.offset).run P w=r1
   cases r1 with
   |ok a w1 =>
    simp only[Result.andThen_ok];generalize (Instr.checkKey em d f.type a).run P w1=r2
    cases r2 with
    |ok b w2 =>simp_all
    |halt x w2=>rfl
   |halt x w1=>rfl
  simp_all
theorem K4{Z:Nat→Prop}{D d:Nat}(em:Bool)(hg:∀t k,Vc P d t k=true→∀(w:World) (x y:k.T) (u v:Value),VK w Z k x u→VK w Z k y v→(Op.equalIn (D+d) t u v).run P w=.ok (tp k x y) w∧(Instr.checkKey em (D+d) t u).run P w=.ok () w)(w:World)(xs ys:Array Value) :
  ∀(fs:List Field) (off:Nat) (k:K),Bq P (Vc P d) fs off k=true→∀(x y:k.T),aI Z w k x ((xs.toList.drop off).take k.sz)→aI Z w k y ((ys.toList.drop off).take k.sz) →(Op.eqFields (D+d) xs ys fs).run P w=.ok (tp k x y) w∧(kH em (D+d) xs fs).run P w=.ok () w
 |[],_,_,h,_,_,_,_=>by simp[Bq]at h
 |[f],off,k,h,x,y,hx,hy=>by
  have h':f.name≠ "_"∧f.offset=off∧P.cellsOf f.type=k.sz∧Vc P d f.type k=true:=by
   grind [Bq]
  obtain⟨h0,h1,h2,h3⟩:=h';subst h1;obtain⟨u,hu,hu'⟩:=BT h3 h2 hx;obtain⟨v,hv,BB⟩:=BT h3 h2 hy;obtain⟨e1,e2⟩:=hg _ _ h3 w x y u v hu' BB;constructor
  ·simp only[Op.eqFields,if_pos h0,Sem.run_bind,hu,hv,e1,Result.andThen_ok]
   cases tp k x y<;>simp
  simp_all [kH]
 |f::f'::r,off,.pair a b,h,x,y,hx,hy=>by
  simp only[Bq,Bool.and_eq_true,decide_eq_true_eq,bne_iff_ne,ne_eq]at h;obtain⟨h0,h1,h2,h3,h4⟩:=h;subst h1;simp only[aI,K.sz]at hx hy;obtain⟨us,ws,ex,Vd,hx2⟩:=hx;obtain⟨jk,ws',ey,hy1,hy2⟩:=hy;have sp:∀(zs:Array Value) (us ws:List Value),us.length=a.sz→ws.length=b.sz→(zs.toList.drop f.offset).take (a.sz+b.sz)=us++ws→us=(zs.toList.drop f.offset).take a.sz∧ws=(zs.toList.drop (f.offset+a.sz)).take b.sz:=fun zs us ws l1 l2 e=>by
   rw[List.take_add,]at e;have hl:((zs.toList.drop f.offset).take a.sz).length=us.length:=by
    have:=congrArg List.length e
    grind
   grind [List.append_inj,List.drop_drop]
  obtain⟨rfl,rfl⟩:=sp xs us ws Vd.len hx2.len ex;obtain⟨rfl,rfl⟩:=sp ys jk ws' hy1.len hy2.len ey;obtain⟨u,hu,hu'⟩:=BT h3 h2 Vd;obtain⟨v,hv,BB⟩:=BT h3 h2 hy1;obtain⟨e1,e2⟩:=hg _ _ h3 w x.1 y.1 u v hu' BB;obtain⟨e3,e4⟩:=K4 em hg w xs ys (f'::r) (f.offset+a.sz) b h4 x.2 y.2 hx2 hy2;constructor
  ·rw[Op.eqFields,if_pos h0];simp only[Sem.run_bind,hu,hv,e1,Result.andThen_ok,Sem.run_ite,e3,tp]
   cases tp a x.1 y.1<;>simp
  ·rw[kH,if_pos h0];simp only[Sem.run_bind,hu,e2,Result.andThen_ok];exact e4
 |f::f'::r,off,.int _,h,_,_,_,_=>by simp[Bq]at h
 |f::f'::r,off,.bool,h,_,_,_,_=>by simp[Bq]at h
 |f::f'::r,off,.str,h,_,_,_,_=>by simp[Bq]at h
 |f::f'::r,off,.sl _,h,_,_,_,_=>by simp[Bq]at h
 |f::f'::r,off,.one _,h,_,_,_,_=>by simp[Bq]at h
 |f::f'::r,off,.mp _ _,h,_,_,_,_=>by simp[Bq]at h
theorem O4{Z:Nat→Prop}(D:Nat)(em:Bool):∀(d:Nat) (t:TypeId) (k:K),Vc P d t k=true→∀(w:World) (x y:k.T) (u v:Value),VK w Z k x u→VK w Z k y v →(Op.equalIn (D+d) t u v).run P w=.ok (tp k x y) w∧(Instr.checkKey em (D+d) t u).run P w=.ok () w
 |0,_,_,h,_,_,_,_,_,_,_=>by simp[Vc]at h
 |d+1,t,k,h,w,x,y,u,v,hu,hv=>by
  rw[←Nat.add_assoc];unfold Vc at h
  split at h
  ·rename_i a b ht;simp only[decide_eq_true_eq]at h;subst h;simp only[VK,aI,List.cons.injEq,and_true]at hu hv;subst hu;subst hv;exact⟨run_equalIn_int w _ _ _ _ _ _ ht,by simp[Instr.checkKey,run_underlying ht]⟩
  ·rename_i ht;simp only[VK,aI,List.cons.injEq,and_true]at hu hv;subst hu;subst hv;exact⟨run_equalIn_bool' w _ _ _ _ ht,by simp[Instr.checkKey,run_underlying ht]⟩
  ·rename_i ht;simp only[VK,aI,List.cons.injEq,and_true]at hu hv;subst hu;subst hv;exact⟨(run_equalIn_string w _ _ _ _ ht).trans (congrArg (fun b=>Result.ok b w) (beq_toListBytes (show ByteArray from x) (show ByteArray from y)).symm),by simp[Instr.checkKey,run_underlying ht]⟩
  ·rename_i fs a b ht;simp only[Bool.and_eq_true,Bool.not_eq_true']at h;obtain⟨hs,hf⟩:=h;obtain⟨xs,rfl,hx⟩:=hu;obtain⟨ys,rfl,hy⟩:=hv;have hfo:P.fieldsOf t=fs:=by simp[Program.fieldsOf,ht]
   have As:=hx.len;have Fp:=hy.len;obtain⟨e1,e2⟩:=K4 (D:=D) (Z:=Z) em (fun t k hk w x y u v hu hv=>O4 D em d t k hk w x y u v hu hv) w xs ys fs.toList 0 (.pair a b) hf x y (by grind) (by grind)
   grind [run_equalIn_struct,uU]
  ·cases h
theorem Rt{d:Nat}{t:TypeId}{a b:K}(hd:d≤10000)(hk:Vc P d t (.pair a b)=true)(hg:P.eqGuardType P.depth t=false):mL P t (.pair a b):=fun Z w x y xs ys hx hy=>by
 have e:10000-d+d=10000:=by omega
 have key:=fun em=>O4 (Z:=Z) (10000-d) em d t (.pair a b) hk w x y (.agg xs) (.agg ys) ⟨xs,rfl,hx⟩ ⟨ys,rfl,hy⟩;rw[e]at key;exact⟨(key true).1,fun op p q=>run_eqGuard_agg w op t p q xs ys hg,fun em=>(key em).2⟩
end Go.Vs
namespace Go.Vs
open Go.Proofs
theorem Ve{f:FuncId}{g:aN}(h:Sg f=some g):(f,g)∈sgs:=by
 unfold Sg at h;obtain⟨p,hp,rfl⟩:=ac9.1 h
 grind
theorem mg:∀f g,Sg f=some g→jR Tryz.prog (f%1000):=fun f g h=>by
 have hm:=Ve h;have key:(sgs.all fun p=>match Tryz.prog.funcs[p.1%1000]? with|some fn => !(fn.name== "runtime.NumGoroutine")&&fn.body.isSome|none=>false)=true:=by kernel_rfl
 have:=adb.1 key _ hm;simp only at this
 split at this
 ·rename_i fn hf;simp only[Bool.and_eq_true,Bool.not_eq_true']at this;exact⟨fn,hf,this.1,this.2⟩
 ·cases this
theorem uo:Tryz.prog.follows .mixedOrders=true:=by kernel_rfl
theorem D0:∀t k,Eqs t=some k→mL Tryz.prog t k:=fun t k h=>by
 unfold Eqs at h;obtain⟨p,hp,rfl⟩:=ac9.1 h;have h1:=ade hp;have h2:=adu hp;have e:p.1=t:=by simpa using h2
 subst e;simp only[eqs,List.mem_cons,List.not_mem_nil,or_false]at h1;rcases h1 with rfl|rfl|rfl|rfl|rfl|rfl
 all_goals exact Rt (d:=5) (by omega) (by kernel_rfl) (by kernel_rfl)
end Go.Vs
set_option maxRecDepth 1000000
set_option maxHeartbeats 0
namespace Go.Vs
open Go.Proofs
def Yl:aN:={ ps:=[.own],bs:=[.own (.row 38 cP)],rs:=[.own (.row 38 cP)] }
def Ym:aN:={ ps:=[.own],bs:=[.own (.row 84 di)],rs:=[.own (.row 84 di)] }
def mh:aN:={ ps:=[.agg 2],bs:=[.own (.row 38 cP),.own (.row 84 di)],rs:=[.agg [.own (.row 38 cP),.own (.row 84 di)]] }
def uq(ty:TypeId)(k:K)(h:Heap)(id:Nat):List AV→Option (Bool×bE)
 |[.bK a]=>match eQ h (.row ty k) (.bK a) with
  |some xs=>some (aL 0 xs.length,.new (.bK (id+128)) [(id+128,.own (.row ty k) xs)])
  |_=>none
 |_=>none
def ale:aN:={ ps:=[],bs:=[],rs:=[],x:=some (uq 38 cP) }
def alf:aN:={ ps:=[],bs:=[],rs:=[],x:=some (uq 84 di) }
def abT:List (Nat×aN):=[(500109,Yl),(500110,Ym)]
def Sg0(f:FuncId):Option aN:=(abT.find? (fun p=>p.1==f)).map (fun p=>p.2)
def abU:List (Nat×aN):=[(111,Bo),(500083,mh),(500109,ale),(500110,alf)]
def XE(f:FuncId):Option aN:=(abU.find? (fun p=>p.1==f)).map (fun p=>p.2)
def K5:Shape:=⟨[(14,.int .i64),(15,.int .i64)],[(.slot 2,20000,.box 27 [.own (.row 38 cP),.own (.row 84 di)]),(.slot 3,20001,.box 27 [.own (.row 38 cP),.own (.row 84 di)])],[(6,1000,(.row 38 (.pair (.pair (.int .i64) (.int .i64)) (.pair (.sl (.pair (.pair (.int .i64) (.int .i64)) (.int .i64))) (.pair .str (.int .i64)))))),(9,1020,(.row 84 (.pair (.pair (.int .i64) (.int .i64)) (.pair .str (.int .i64)))))],[]⟩
def An0(f:FuncId)(key:Nat):Option Shape:=none
def An1(f:FuncId)(key:Nat):Option Shape:=if f=500083 then(if key=3 then some K5 else none) else none
noncomputable def Vf(SG:FuncId→Option aN)(AN:FuncId→Nat→Option Shape)(f:FuncId)(g:aN)(fn:Func)(F:FT)(J:JT g)(x:g.A):Option g.B:=aF Tryz.prog Eqs SG F fn.ntmps (AN f) J (sy Tryz.prog g fn) fuel [.code (fn.body.getD .skip)] (entry g x)
noncomputable def abW(SG:FuncId→Option aN)(AN:FuncId→Nat→Option Shape)(f j:Nat)(g:aN)(fn:Func)(sh:Shape)(F:FT)(J:JT g)(x:sh.T):Option g.B:=aF Tryz.prog Eqs SG F fn.ntmps (AN f) J (sy Tryz.prog g fn) fuel (round (aK Tryz.prog (f%1000) j)) (aw sh x)
theorem afD(F:FT)(J:JT Yl)(x:(Unit×((List ai)×Unit))):Vf Sg0 An0 500109 Yl Tryz.f109 F J x = cond (List.isEmpty x.2.1) (su 2 fun(j1:Nat) =>cond ((j1==0)==true) (some ((([]:List ai),()),x.2)) (cond (aL (List.length ([]:List ai)) (List.length x.2.1)) (some (((([]:List ai)++x.2.1),()),x.2)) (none))) (cond (aL (List.length ([]:List ai)) (List.length x.2.1)) (some (((([]:List ai)++x.2.1),()),x.2)) (none)):=by kernel_rfl
theorem afE(F:FT)(J:JT Ym)(x:(Unit×((List ag)×Unit))):Vf Sg0 An0 500110 Ym Tryz.f110 F J x = cond (List.isEmpty x.2.1) (su 2 fun(j1:Nat) =>cond ((j1==0)==true) (some ((([]:List ag),()),x.2)) (cond (aL (List.length ([]:List ag)) (List.length x.2.1)) (some (((([]:List ag)++x.2.1),()),x.2)) (none))) (cond (aL (List.length ([]:List ag)) (List.length x.2.1)) (some (((([]:List ag)++x.2.1),()),x.2)) (none)):=by kernel_rfl
theorem afF(F:FT)(J:JT Bo)(x:(((List ab)×Unit)×Unit)):Vf XE An1 111 Bo Tryz.f111 F J x = cond (List.isEmpty x.1.1) (su 2 fun(j1:Nat) =>cond ((j1==0)==true) (some ((([]:List ab),()),())) (cond (aL (List.length ([]:List ab)) (List.length x.1.1)) (some (((([]:List ab)++x.1.1),()),())) (none))) (cond (aL (List.length ([]:List ab)) (List.length x.1.1)) (some (((([]:List ab)++x.1.1),()),())) (none)):=by kernel_rfl
theorem afG(F:FT)(J:JT mh)(x:(Unit×((List ai)×((List ag)×Unit)))):Vf XE An1 500083 mh Tryz.f83 F J x = cond (aL 0 (List.length x.2.1)) (cond (aL 0 (List.length x.2.2.1)) (J K5 (aK Tryz.prog 83 0) (((((List.length x.2.1):Nat):Int),((0:Int),())),(((([]:List ai),(([]:List ag),())),((x.2.1,x.2.2),())),(x.2.1,x.2.2)))) (none)) (none):=by kernel_rfl
theorem O5(F:FT)(J:JT mh)(x:((Int×(Int×Unit))×((((List ai)×((List ag)×Unit))×(((List ai)×((List ag)×Unit))×Unit))×((List ai)×((List ag)×Unit))))):abW XE An1 500083 0 mh Tryz.f83 K5 F J x = cond (decide (x.1.2.1<x.1.1)) (cond ((decide ((0:Int)≤x.1.2.1))&&(decide (x.1.2.1<(((List.length x.2.1.2.1.1):Nat):Int)))) (((x.2.1.2.1.1)[(Int.toNat x.1.2.1)]?).bind fun(y1:ai) =>(F 111 Bo ((y1.2.1,()),())).bind fun(y2:(((List ab)×Unit)×Unit)) =>cond ((decide ((0:Int)≤x.1.2.1))&&(decide (x.1.2.1<(((List.length x.2.1.2.1.1):Nat):Int)))) (((x.2.1.2.1.1)[(Int.toNat x.1.2.1)]?).bind fun(y3:ai) =>J K5 (aK Tryz.prog 83 0) ((x.1.1,((IntKind.wrap .i64 (x.1.2.1+(1:Int))),())),(((x.2.1.1.1,x.2.1.1.2),(((List.set x.2.1.2.1.1 (Int.toNat x.1.2.1) (y3.1,(y2.1.1,y3.2.2))),x.2.1.2.1.2),())),(x.2.2.1,x.2.2.2)))) (none)) (none)) (some (((x.2.1.2.1.1,x.2.1.2.1.2),()),(x.2.2.1,x.2.2.2))):=by kernel_rfl
end Go.Vs
namespace Go.Vs
open Go.Proofs
variable {P:Program}
theorem vo{f:FuncId}{ty:TypeId}{k:K}(hf:f%1000=f)(hc:∀(xs:List k.T),aL 0 xs.length=true→Gn P f ⟨[.own],[.own (.row ty k)],[.own (.row ty k)],none⟩ ((),(xs,())) ((xs,()),(xs,()))):gE P f (uq ty k):=by
 intro Z ψ h w B0 O N hh id e vs us g hB bu hN bj mK oQ Bh he;unfold uq at he
 split at he
 rotate_left
 ·cases he
 rename_i a
 split at he
 rotate_left
 ·cases he
 rename_i xs Cp;simp only[Option.some.injEq,Prod.mk.injEq]at he;obtain⟨jO,rfl⟩:=he;have ha:h a=some (.own (.row ty k) xs):=bu _ _ (kB Cp);have O6:h a≠none:=by rw[ha];simp
 simp only[au,az]at oQ;obtain⟨v1,_,rfl,⟨_,yQ⟩,rfl⟩:=oQ;have yQ:=yQ O6;subst yQ;simp only[aC,aJ]at Bh;have nR0:N (id+128):=hN 128 (by omega);have na:¬N a:=Bh.1;have a0:a≠id+128:=fun e=>na (e▸nR0)
 let ψ0:Nat→Value:=fun i=>if i=1000 then ψ a else ψ i
 have p0:ψ0 1000=ψ a:=if_pos rfl
 let g0:aN:=⟨[.own],[.own (.row ty k)],[.own (.row ty k)],none⟩
 have tS:ry g0 ((),(xs,()))=Heap.get [(1000,.own (.row ty k) xs)]:=rfl;have i0:ry g0 ((),(xs,())) 1000=some (.own (.row ty k) xs):=rfl;have iN:∀i,ry g0 ((),(xs,())) i≠none→i=1000:=fun i hi=>by simp_all [Heap.get,Ne.symm]
 have oin:∀q,Own ψ0 (ry g0 ((),(xs,()))) q→ob (ψ a)=some q:=fun q ⟨i,h1,h2⟩=>by simp_all
 have oh:∀q,Own ψ0 (ry g0 ((),(xs,()))) q→Own ψ h q:=fun q hq=>⟨a,O6,oin q hq⟩;have G0:Good Z ψ0 (ry g0 ((),(xs,()))) w w.heap.size (Own ψ0 (ry g0 ((),(xs,())))):=by
  refine⟨fun i ty cs k=>?_,fun i ok x k=>?_,fun i q h1 h2=>⟨fun hz=>?_,.inr ⟨i,h1,h2⟩⟩,fun i j q h1 h2 h3 h4=>?_,g.kx⟩
  ·grind
  ·have:=iN i (by rw[k];simp);subst this;rw[i0]at k;cases k;rw[p0];exact g.row a _ _ ha
  ·have:=iN i h1;subst this;rw[p0]at h2;exact(g.live a q O6 h2).1 hz
  grind
 have c0:(ψ a).cells=#[ψ a]∧(ψ a).oneCell'=true:=(g.row a _ _ ha).one;have R0:au Z ψ0 (ry g0 ((),(xs,()))) w (HV g0 ((),(xs,()))) [ψ a]:=by
  show au Z ψ0 (ry g0 ((),(xs,()))) w [.bK 1000] [ψ a];simp only[au,az]
  grind
 have Tk:=hc xs jO Z ψ0 w [ψ a] G0 R0;rw[hf]at Tk;refine Tk.mono fun en w' ⟨V,Z',ψ',e1,zs,zf,kp,gd,bL,hr⟩=>?_;have q0:ψ' 1000=ψ a:=(bL 1000 (by show 1000∈[1000];simp)).trans p0;have o0:(ll g0 ((xs,()),(xs,()))).get 1000=some (.own (.row ty k) xs):=rfl;have o2:(ll g0 ((xs,()),(xs,()))).get 3000=some (.own (.row ty k) xs):=rfl;have gd:Good Z' ψ' (ll g0 ((xs,()),(xs,()))).get w' w.heap.size (Own ψ0 (ry g0 ((),(xs,())))):=gd;have hr:az Z' ψ' (ll g0 ((xs,()),(xs,()))).get w' (.bK 3000) V:=hr;generalize (ll g0 ((xs,()),(xs,()))).get=out at *;have keep:cO ψ h w w':=⟨kp.os,kp.tape,kp.output,kp.size,fun q hq hn=>kp.block q hq fun ho=>hn (oh q ho)⟩;have sm:cr Z w w':=keep.same g;have cF:∀i q,i≠a→h i≠none→ob (ψ i)=some q→w'.heap[q]? = w.heap[q]? := fun i q k1 h1 h2 =>kp.block q (g.bO ⟨i,h1,h2⟩) fun ho=>k1 (g.apart i a q h1 O6 h2 (oin q ho))
 let eU:Nat→Value:=fun i=>if i=id+128 then ψ' 3000 else ψ i
 let H:Hp:=(bE.new (.bK (id+128)) [(id+128,.own (.row ty k) xs)]).hp h
 have s0:eU (id+128)=ψ' 3000:=if_pos rfl;have sn:∀i,i≠id+128→eU i=ψ i:=fun i k1=>if_neg k1;have H0:H (id+128)=some (.own (.row ty k) xs):=by grind [bE.hp,Heap.get]
 have Hn:∀i,i≠id+128→H i=h i:=fun i k1=>by show(bE.hp h _) _=_;simp[bE.hp,Heap.get,Ne.symm k1]
 have two:∀q,ob (ψ' 3000)=some q→¬Z' q∧(w.heap.size≤q∨ob (ψ a)=some q):=fun q h2=>by
  obtain⟨h3,h4⟩:=gd.live 3000 q (by rw[o2];simp) h2
  grind
 have one:∀q,ob (ψ a)=some q→¬Z' q:=fun q h2=>(gd.live 1000 q (by rw[o0];simp) (by grind)).1;have Yn:∀q,ob (ψ' 3000)=some q→ob (ψ a)=some q→False:=fun q h2 h3=>by have:=gd.apart 3000 1000 q (by rw[o2];simp) (by rw[o0];simp) h2 (by grind);omega
 have fresh:∀q,ob (ψ' 3000)=some q→w.heap.size≤q:=fun q h2=>(two q h2).2.resolve_right (Yn q h2);have ids:∀i,H i≠none→(h i≠none∧eU i=ψ i)∨N i:=fun i hi=>by
  grind
 have live:∀i q,i≠id+128→h i≠none→ob (ψ i)=some q→¬Z' q:=fun i q k1 h1 h2 hz=>by
  by_cases k3:i=a
  ·grind
  rcases zf q hz with k|k|k
  ·exact(g.live i q h1 h2).1 k
  ·grind
  ·have:=g.bO ⟨i,h1,h2⟩;omega
 refine⟨V,Z',eU,e1,⟨zs,fun q hq=>(zf q hq).imp (fun h=>h) fun k=>k.imp (oh q) fun h=>h,keep,ids,⟨fun i Jh cs k=>?_,fun i ok x k=>?_,fun i q h1 h2=>?_,fun i j q h1 h2 h3 h4=>?_,gd.kx⟩⟩,?_⟩
 ·have k1:i≠id+128:=fun e=>by grind
  have k3:i≠a:=fun e=>by grind
  have rQ:h i=some (.box Jh cs):=(Hn i k1).symm.trans k;obtain⟨gg,vs,f1,f2,f3,f4⟩:=g.box i Jh cs rQ;exact⟨gg,vs,(sn i k1).trans f1,(cF i gg k3 (by rw[rQ];simp) (by rw[f1];rfl)).trans f2,f3.move zs sm (fun j hj bz=>(ids j bz).resolve_right hj) (bj i Jh cs rQ),f4⟩
 ·by_cases k1:i=id+128
  ·subst k1;have k:H (id+128)=some (.own ok x):=k;rw[H0]at k;cases k;rw[s0];exact gd.row 3000 _ _ o2
  have rQ:h i=some (.own ok x):=(Hn i k1).symm.trans k;rw[sn i k1];by_cases k3:i=a
  ·subst k3;rw[ha]at rQ;cases rQ;rw[←q0];exact gd.row 1000 _ _ o0
  exact(g.row i ok x rQ).kept zs sm fun q hq=>cF i q k3 (by rw[rQ];simp) hq
 ·by_cases k1:i=id+128
  ·grind
  ·have h1:h i≠none:=by grind
   rw[sn i k1]at h2;exact⟨live i q k1 h1 h2,(g.live i q h1 h2).2⟩
 ·have lt:∀j,j≠id+128→H j≠none→ob (eU j)=some q→q<w.heap.size:=fun j k1 k2 k3=>by rw[Hn j k1]at k2;rw[sn j k1]at k3;exact g.bO ⟨j,k2,k3⟩
  by_cases k1:i=id+128<;>by_cases k2:j=id+128
  ·omega
  ·grind
  ·grind
  ·rw[sn i k1]at h3;rw[sn j k2]at h4;exact g.apart i j q (by grind) (by grind) h3 h4
 ·simp only[az]at hr;show az Z' eU H w' (.bK (id+128)) V
  grind [az,trans]
theorem IC(hc:∀(xs:List cP.T) (ys:List di.T),qO xs ys=true→Gn P 83 mh ((),(xs,(ys,()))) (((xs,(ys,())),()),(xs,(ys,())))):gE P 83 Ie:=by
 intro Z ψ h w B0 O N hh id e vs us g hB bu hN bj mK oQ Bh he;unfold Ie at he
 split at he
 rotate_left
 ·cases he
 rename_i a b
 split at he
 rotate_left
 ·cases he
 rename_i xs ys Cp Qx
 split at he
 ·cases he
 rename_i AW;simp only[Option.some.injEq,Prod.mk.injEq]at he;obtain⟨jO,rfl⟩:=he;have ha:h a=some (.own (.row 38 cP) xs):=bu _ _ (kB Cp);have hb:h b=some (.own (.row 84 di) ys):=bu _ _ (kB Qx);have O6:h a≠none:=by rw[ha];simp
 have Mm:h b≠none:=by rw[hb];simp
 simp only[au,az]at oQ;obtain⟨v,_,rfl,⟨cs,rfl,v1,_,MB,⟨_,yQ⟩,v2,_,rfl,⟨_,BA⟩,rfl⟩,rfl⟩:=oQ;have yQ:=yQ O6;have BA:=BA Mm;subst yQ BA;simp only[aC,aJ]at Bh;have nR0:N (id+128):=hN 128 (by omega);have nR1:N (id+129):=hN 129 (by omega);have na:¬N a:=Bh.1.1;have nb:¬N b:=Bh.1.2.1;have a0:a≠id+128:=fun e=>na (e▸nR0);have a1:a≠id+129:=fun e=>na (e▸nR1);have b0:b≠id+128:=fun e=>nb (e▸nR0);have b1:b≠id+129:=fun e=>nb (e▸nR1)
 let ψ0:Nat→Value:=fun i=>if i=1000 then ψ a else if i=1020 then ψ b else ψ i
 have p0:ψ0 1000=ψ a:=if_pos rfl;have p1:ψ0 1020=ψ b:=(if_neg (by decide)).trans (if_pos rfl);have tS:ry mh ((),(xs,(ys,())))=Heap.get [(1000,.own (.row 38 cP) xs),(1020,.own (.row 84 di) ys)]:=rfl;have i0:ry mh ((),(xs,(ys,()))) 1000=some (.own (.row 38 cP) xs):=rfl;have i1:ry mh ((),(xs,(ys,()))) 1020=some (.own (.row 84 di) ys):=rfl;have iN:∀i,ry mh ((),(xs,(ys,()))) i≠none→i=1000∨i=1020:=fun i hi=>by
  by_cases e0:i=1000
  ·exact .inl e0
  by_cases e1:i=1020
  ·exact .inr e1
  rw[tS]at hi;simp[Heap.get,Ne.symm e0,Ne.symm e1]at hi
 have oin:∀q,Own ψ0 (ry mh ((),(xs,(ys,())))) q→ob (ψ a)=some q∨ob (ψ b)=some q:=fun q ⟨i,h1,h2⟩=>by
  rcases iN i h1 with rfl|rfl
  ·exact .inl (by rw[←p0];exact h2)
  ·exact .inr (by rw[←p1];exact h2)
 have oh:∀q,Own ψ0 (ry mh ((),(xs,(ys,())))) q→Own ψ h q:=fun q hq=>(oin q hq).elim (fun k=>⟨a,O6,k⟩) fun k=>⟨b,Mm,k⟩;have G0:Good Z ψ0 (ry mh ((),(xs,(ys,())))) w w.heap.size (Own ψ0 (ry mh ((),(xs,(ys,()))))):=by
  refine⟨fun i ty cs k=>?_,fun i ok x k=>?_,fun i q h1 h2=>⟨fun hz=>?_,.inr ⟨i,h1,h2⟩⟩,fun i j q h1 h2 h3 h4=>?_,g.kx⟩
  ·rcases iN i (by rw[k];simp) with rfl|rfl
   ·rw[i0]at k;cases k
   ·rw[i1]at k;cases k
  ·rcases iN i (by rw[k];simp) with rfl|rfl
   ·rw[i0]at k;cases k;rw[p0];exact g.row a _ _ ha
   ·rw[i1]at k;cases k;rw[p1];exact g.row b _ _ hb
  ·rcases iN i h1 with rfl|rfl
   ·rw[p0]at h2;exact(g.live a q O6 h2).1 hz
   ·rw[p1]at h2;exact(g.live b q Mm h2).1 hz
  ·rcases iN i h1 with rfl|rfl<;>rcases iN j h2 with rfl|rfl
   ·rfl
   ·rw[p0]at h3;rw[p1]at h4;exact absurd (g.apart a b q O6 Mm h3 h4) AW
   ·rw[p1]at h3;rw[p0]at h4;exact absurd (g.apart a b q O6 Mm h4 h3) AW
   ·rfl
 have c0:(ψ a).cells=#[ψ a]∧(ψ a).oneCell'=true:=(g.row a _ _ ha).one;have c1:(ψ b).cells=#[ψ b]∧(ψ b).oneCell'=true:=(g.row b _ _ hb).one;have R0:au Z ψ0 (ry mh ((),(xs,(ys,())))) w (HV mh ((),(xs,(ys,())))) [.agg cs]:=by show au Z ψ0 (ry mh ((),(xs,(ys,())))) w [.agg [.bK 1000,.bK 1020]] [.agg cs];simp only[au,az];exact⟨.agg cs,[],rfl,⟨cs,rfl,ψ a,[ψ b],MB,⟨c0,fun _=>p0.symm⟩,ψ b,[],rfl,⟨c1,fun _=>p1.symm⟩,rfl⟩,rfl⟩
 refine(hc xs ys jO Z ψ0 w [.agg cs] G0 R0).mono fun en w' ⟨V,Z',ψ',e1,zs,zf,kp,gd,bL,hr⟩=>?_;have q0:ψ' 1000=ψ a:=(bL 1000 (by show 1000∈[1000,1020];simp)).trans p0;have q1:ψ' 1020=ψ b:=(bL 1020 (by show 1020∈[1000,1020];simp)).trans p1;have o0:(ll mh (((xs,(ys,())),()),(xs,(ys,())))).get 1000=some (.own (.row 38 cP) xs):=rfl;have o1:(ll mh (((xs,(ys,())),()),(xs,(ys,())))).get 1020=some (.own (.row 84 di) ys):=rfl;have o2:(ll mh (((xs,(ys,())),()),(xs,(ys,())))).get 3000=some (.own (.row 38 cP) xs):=rfl;have o3:(ll mh (((xs,(ys,())),()),(xs,(ys,())))).get 3001=some (.own (.row 84 di) ys):=rfl;generalize (ll mh (((xs,(ys,())),()),(xs,(ys,())))).get=out at *;have keep:cO ψ h w w':=⟨kp.os,kp.tape,kp.output,kp.size,fun q hq hn=>kp.block q hq fun ho=>hn (oh q ho)⟩;have sm:cr Z w w':=keep.same g;have cF:∀i q,i≠a→i≠b→h i≠none→ob (ψ i)=some q→w'.heap[q]? = w.heap[q]? := fun i q k1 k2 h1 h2 =>kp.block q (g.bO ⟨i,h1,h2⟩) fun ho=>(oin q ho).elim (fun k=>k1 (g.apart i a q h1 O6 h2 k)) fun k=>k2 (g.apart i b q h1 Mm h2 k)
 let κ:Nat→Nat:=fun i=>if i=id+128 then 3000 else if i=id+129 then 3001 else if i=a then 1000 else 1020
 let XF:Nat→Prop:=fun i=>i=id+128∨i=id+129∨i=a∨i=b
 let eU:Nat→Value:=fun i=>if i=id+128 then ψ' 3000 else if i=id+129 then ψ' 3001 else ψ i
 let H:Hp:=(bE.new (.agg [.bK (id+128),.bK (id+129)]) [(id+128,.own (.row 38 cP) xs),(id+129,.own (.row 84 di) ys)]).hp h
 have s0:eU (id+128)=ψ' 3000:=if_pos rfl;have s1:eU (id+129)=ψ' 3001:=(if_neg (by omega)).trans (if_pos rfl);have sn:∀i,i≠id+128→i≠id+129→eU i=ψ i:=fun i k1 k2=>(if_neg k1).trans (if_neg k2);have H0:H (id+128)=some (.own (.row 38 cP) xs):=by show(bE.hp h _) _=_;simp[bE.hp,Heap.get]
 have H1:H (id+129)=some (.own (.row 84 di) ys):=by show(bE.hp h _) _=_;simp[bE.hp,Heap.get]
 have Hn:∀i,i≠id+128→i≠id+129→H i=h i:=fun i k1 k2=>by show(bE.hp h _) _=_;simp[bE.hp,Heap.get,Ne.symm k1,Ne.symm k2]
 have Ha:H a=some (.own (.row 38 cP) xs):=(Hn a a0 a1).trans ha;have Hb:H b=some (.own (.row 84 di) ys):=(Hn b b0 b1).trans hb;have kap:∀i,XF i→out (κ i)≠none∧ψ' (κ i)=eU i:=fun i hi=>by
  rcases hi with rfl|rfl|rfl|rfl
  ·have:κ (id+128)=3000:=if_pos rfl;rw[this,o2,s0];exact⟨by simp,rfl⟩
  ·have:κ (id+129)=3001:=(if_neg (by omega)).trans (if_pos rfl);rw[this,o3,s1];exact⟨by simp,rfl⟩
  ·have:κ i=1000:=(if_neg a0).trans ((if_neg a1).trans (if_pos rfl));rw[this,o0,q0,sn i a0 a1];exact⟨by simp,rfl⟩
  ·have:κ i=1020:=(if_neg b0).trans ((if_neg b1).trans (if_neg (fun k=>AW k.symm)));rw[this,o1,q1,sn i b0 b1];exact⟨by simp,rfl⟩
 have ali:∀i j,XF i→XF j→κ i=κ j→i=j:=fun i j hi hj hk=>by have v1:κ (id+128)=3000:=if_pos rfl;have v2:κ (id+129)=3001:=(if_neg (by omega)).trans (if_pos rfl);have v3:κ a=1000:=(if_neg a0).trans ((if_neg a1).trans (if_pos rfl));have v4:κ b=1020:=(if_neg b0).trans ((if_neg b1).trans (if_neg (fun k=>AW k.symm)));rcases hi with rfl|rfl|rfl|rfl<;>rcases hj with rfl|rfl|rfl|rfl<;>first|rfl|(rw[v1]at hk;first|(rw[v2]at hk;cases hk)|(rw[v3]at hk;cases hk)|(rw[v4]at hk;cases hk))|(rw[v2]at hk;first|(rw[v1]at hk;cases hk)|(rw[v3]at hk;cases hk)|(rw[v4]at hk;cases hk))|(rw[v3,v4]at hk;cases hk)|(rw[v4,v3]at hk;cases hk)
 have back:∀i q,XF i→ob (eU i)=some q→¬Z' q∧(w.heap.size≤q∨ob (ψ a)=some q∨ob (ψ b)=some q):=fun i q hi h2=>by obtain⟨k1,k2⟩:=kap i hi;rw[←k2]at h2;obtain⟨h3,h4⟩:=gd.live (κ i) q k1 h2;exact⟨h3,h4.imp (fun h=>h) (oin q)⟩
 have rest:∀i,¬XF i→i≠id+128∧i≠id+129∧i≠a∧i≠b:=fun i hi=>⟨fun k=>hi (.inl k),fun k=>hi (.inr (.inl k)),fun k=>hi (.inr (.inr (.inl k))),fun k=>hi (.inr (.inr (.inr k)))⟩;have mixed:∀i j q,XF i→¬XF j→h j≠none→ob (eU i)=some q→ob (ψ j)=some q→False:=fun i j q hi hj h2 h3 h4=>by
  obtain⟨_,_,k3,k4⟩:=rest j hj;rcases (back i q hi h3).2 with k|k|k
  ·have:=g.bO ⟨j,h2,h4⟩;omega
  ·exact k3 (g.apart j a q h2 O6 h4 k)
  ·exact k4 (g.apart j b q h2 Mm h4 k)
 have ids:∀i,H i≠none→(h i≠none∧eU i=ψ i)∨N i:=fun i hi=>by
  by_cases k1:i=id+128
  ·exact .inr (k1▸nR0)
  by_cases k2:i=id+129
  ·exact .inr (k2▸nR1)
  ·rw[Hn i k1 k2]at hi;exact .inl ⟨hi,sn i k1 k2⟩
 refine⟨V,Z',eU,e1,⟨zs,fun q hq=>(zf q hq).imp (fun h=>h) fun k=>k.imp (oh q) fun h=>h,keep,ids,⟨fun i ty cs k=>?_,fun i ok x k=>?_,fun i q h1 h2=>?_,fun i j q h1 h2 h3 h4=>?_,gd.kx⟩⟩,?_⟩
 ·have k1:i≠id+128:=fun e=>by rw[e]at k;have k:H (id+128)=some (.box ty cs):=k;rw[H0]at k;cases k
  have k2:i≠id+129:=fun e=>by rw[e]at k;have k:H (id+129)=some (.box ty cs):=k;rw[H1]at k;cases k
  have k3:i≠a:=fun e=>by rw[e]at k;have k:H a=some (.box ty cs):=k;rw[Ha]at k;cases k
  have k4:i≠b:=fun e=>by rw[e]at k;have k:H b=some (.box ty cs):=k;rw[Hb]at k;cases k
  have rQ:h i=some (.box ty cs):=(Hn i k1 k2).symm.trans k;obtain⟨gg,vs,f1,f2,f3,f4⟩:=g.box i ty cs rQ;exact⟨gg,vs,(sn i k1 k2).trans f1,(cF i gg k3 k4 (by rw[rQ];simp) (by rw[f1];rfl)).trans f2,f3.move zs sm (fun j hj bz=>(ids j bz).resolve_right hj) (bj i ty cs rQ),f4⟩
 ·by_cases k1:i=id+128
  ·subst k1;have k:H (id+128)=some (.own ok x):=k;rw[H0]at k;cases k;rw[s0];exact gd.row 3000 _ _ o2
  by_cases k2:i=id+129
  ·subst k2;have k:H (id+129)=some (.own ok x):=k;rw[H1]at k;cases k;rw[s1];exact gd.row 3001 _ _ o3
  have rQ:h i=some (.own ok x):=(Hn i k1 k2).symm.trans k;rw[sn i k1 k2];by_cases k3:i=a
  ·subst k3;rw[ha]at rQ;cases rQ;rw[←q0];exact gd.row 1000 _ _ o0
  by_cases k4:i=b
  ·subst k4;rw[hb]at rQ;cases rQ;rw[←q1];exact gd.row 1020 _ _ o1
  exact(g.row i ok x rQ).kept zs sm fun q hq=>cF i q k3 k4 (by rw[rQ];simp) hq
 ·by_cases h4:XF i
  ·obtain⟨k1,k2⟩:=back i q h4 h2;refine⟨k1,?_⟩;rcases k2 with k|k|k
   ·exact .inl (acz hB k)
   ·exact(g.live a q O6 k).2
   ·exact(g.live b q Mm k).2
  ·obtain⟨r1,r2,r3,r4⟩:=rest i h4;have h1:h i≠none:=by rw[←Hn i r1 r2];exact h1
   rw[sn i r1 r2]at h2;refine⟨fun hz=>?_,(g.live i q h1 h2).2⟩;rcases zf q hz with k|k|k
   ·exact(g.live i q h1 h2).1 k
   ·rcases oin q k with k|k
    ·exact r3 (g.apart i a q h1 O6 h2 k)
    ·exact r4 (g.apart i b q h1 Mm h2 k)
   ·have:=g.bO ⟨i,h1,h2⟩;omega
 ·by_cases hi:XF i<;>by_cases hj:XF j
  ·obtain⟨k1,k2⟩:=kap i hi;obtain⟨k3,k4⟩:=kap j hj;rw[←k2]at h3;rw[←k4]at h4;exact ali i j hi hj (gd.apart _ _ q k1 k3 h3 h4)
  ·obtain⟨r1,r2,r3,r4⟩:=rest j hj;rw[sn j r1 r2]at h4;exact(mixed i j q hi hj (by rw[←Hn j r1 r2];exact h2) h3 h4).elim
  ·obtain⟨r1,r2,r3,r4⟩:=rest i hi;rw[sn i r1 r2]at h3;exact(mixed j i q hj hi (by rw[←Hn i r1 r2];exact h1) h4 h3).elim
  ·obtain⟨r1,r2,_,_⟩:=rest i hi;obtain⟨t1,t2,_,_⟩:=rest j hj;rw[sn i r1 r2]at h3;rw[sn j t1 t2]at h4;exact g.apart i j q (by rw[←Hn i r1 r2];exact h1) (by rw[←Hn j t1 t2];exact h2) h3 h4
 ·have hr:az Z' ψ' out w' (.agg [.bK 3000,.bK 3001]) V:=hr;simp only[az,au]at hr;obtain⟨vs,rfl,u1,_,oQ,⟨d1,d2⟩,u2,_,rfl,⟨d3,d4⟩,rfl⟩:=hr;show az Z' eU H w' (.agg [.bK (id+128),.bK (id+129)]) (.agg vs);simp only[az,au];exact⟨vs,rfl,u1,[u2],oQ,⟨d1,fun _=>(d2 (by rw[o2];simp)).trans s0.symm⟩,u2,[],rfl,⟨d3,fun _=>(d4 (by rw[o3];simp)).trans s1.symm⟩,rfl⟩
end Go.Vs
namespace Go.Vs
open Go.Proofs
abbrev Yo:(f:FuncId)→(g:aN)→Option (g.A→Option g.B):=fun _ _=>none
section
variable (SG:FuncId→Option aN) (AN:FuncId→Nat→Option Shape)
noncomputable abbrev Yp:FT:=Fix Tryz.prog Eqs SG AN Yo
noncomputable abbrev LXG(f:FuncId)(g:aN)(fn:Func):JT g:=Lp Tryz.prog Eqs SG AN Yo f g fn
end
theorem IE{SG:FuncId→Option aN}{AN:FuncId→Nat→Option Shape}{f:FuncId}{g:aN}{fn:Func}{x:g.A}{y:g.B}(hb:body Tryz.prog (f%1000)=some (fn,fn.body.getD .skip))(hc:(decide (g.ps.length≤fn.ntmps)&&decide (g.bs.length≤8))=true) (h:Vf SG AN f g fn (Yp SG AN) (LXG SG AN f g fn) x=some y):Yp SG AN f g x=some y:=OE rfl hb hc h
theorem Vg{SG:FuncId→Option aN}{AN:FuncId→Nat→Option Shape}{f j:Nat}{g:aN}{fn:Func}{sh:Shape}{x:sh.T}{y:g.B}(hs:(match aK Tryz.prog (f%1000) j with | .inLoop _::_=>true|_=>false)=true)
  (h:abW SG AN f j g fn sh (Yp SG AN) (LXG SG AN f g fn) x=some y):LXG SG AN f g fn sh (aK Tryz.prog (f%1000) j) x=some y:=by
 unfold abW at h;generalize aK Tryz.prog (f%1000) j=s at hs h ⊢
 split at hs
 ·exact T3 h
 ·cases hs
theorem Vh{α β:Type}{o:Option α}{f:α→Option β}{a:α}{r:Option β}(h:o=some a)(k:f a=r):o.bind f=r:=by simp_all
theorem D1{α:Type}{c:Bool}{x y r:α}(h:c=true)(k:x=r):cond c x y=r:=by simp_all
theorem Yq{α:Type}{c:Bool}{x y r:α}(h:c=false)(k:y=r):cond c x y=r:=by simp_all
theorem Vi{R:Type}{f:Nat→Option R}{r:R}(h0:f 0=some r)(h1:f 1=some r):su 2 f=some r :=me (by omega) fun j hj=>by
  grind
theorem afI(xs:List ai)(h:aL 0 xs.length=true):Yp Sg0 An0 500109 Yl ((),(xs,()))=some ((xs,()),(xs,())):=by
 refine IE (fn:=Tryz.f109) (by kernel_rfl) (by kernel_rfl) ((afD _ _ _).trans ?_)
 cases xs with
 |nil=>exact D1 rfl (Vi rfl rfl)
 |cons x r=>exact Yq rfl (D1 h rfl)
theorem afJ(xs:List ag)(h:aL 0 xs.length=true):Yp Sg0 An0 500110 Ym ((),(xs,()))=some ((xs,()),(xs,())):=by
 refine IE (fn:=Tryz.f110) (by kernel_rfl) (by kernel_rfl) ((afE _ _ _).trans ?_)
 cases xs with
 |nil=>exact D1 rfl (Vi rfl rfl)
 |cons x r=>exact Yq rfl (D1 h rfl)
theorem O7{f:FuncId}{g:aN}(h:Sg0 f=some g):(f,g)∈abT:=by
 unfold Sg0 at h;obtain⟨p,hp,rfl⟩:=ac9.1 h
 grind
theorem O8{f:FuncId}{g:aN}(h:XE f=some g):(f,g)∈abU:=by
 unfold XE at h;obtain⟨p,hp,rfl⟩:=ac9.1 h
 grind
noncomputable def Vj(l:List (Nat×aN)):Bool:=l.all fun p=>match Tryz.prog.funcs[p.1%1000]? with|some fn => !(fn.name== "runtime.NumGoroutine")&&fn.body.isSome|none=>false
theorem IF{l:List (Nat×aN)}(key:Vj l=true){f:FuncId}{g:aN}(hm:(f,g)∈l):jR Tryz.prog (f%1000):=by
 have:=adb.1 key _ hm;simp only at this
 split at this
 ·rename_i fn hf;simp only[Bool.and_eq_true,Bool.not_eq_true']at this;exact⟨fn,hf,this.1,this.2⟩
 ·cases this
theorem afK{f:FuncId}{g:aN}{x:g.A}{y:g.B}(hs:Sg0 f=some g)(h:Yp Sg0 An0 f g x=some y):Gn Tryz.prog f g x y :=BO (fun f g u hf hu=>by have hm:=O7 hf;simp only[abT,List.mem_cons,List.not_mem_nil,or_false,Prod.mk.injEq]at hm;rcases hm with⟨_,rfl⟩|⟨_,rfl⟩<;>cases hu) D0 (fun f g hf=>IF (by kernel_rfl) (O7 hf)) uo (fun f g u x y _ hu _=>by cases hu) hs h
theorem Yr:gE Tryz.prog 109 (uq 38 cP):=vo rfl fun xs h=>by have:=afK (by kernel_rfl) (afI xs h);exact this
theorem Ys:gE Tryz.prog 110 (uq 84 di):=vo rfl fun xs h=>by have:=afK (by kernel_rfl) (afJ xs h);exact this
theorem afL(l:List ab)(hl:l.length≤50000000):Yp XE An1 111 Bo ((l,()),())=some ((l,()),()):=by
 refine IE (fn:=Tryz.f111) (by kernel_rfl) (by kernel_rfl) ((afF _ _ _).trans ?_)
 cases l with
 |nil=>exact D1 rfl (Vi rfl rfl)
 |cons x r=>exact Yq rfl (D1 (decide_eq_true (show 0+(x::r).length≤1073741824 by omega)) rfl)
theorem Vk{i n:Nat}(h:i<n)(hn:n≤50000000):IntKind.wrap .i64 ((i:Int)+1)=((i+1:Nat):Int):=by
 grind [IntKind.wrap,IntKind.bits,IntKind.signed]
theorem afM(xs:List ai)(ys:List ag)(h:qO xs ys=true):Yp XE An1 500083 mh ((),(xs,(ys,())))=some (((xs,(ys,())),()),(xs,(ys,()))):=by
 unfold qO at h;simp only[Bool.and_eq_true,decide_eq_true_eq,List.all_eq_true]at h;obtain⟨hx,hy,hr⟩:=h;refine IE (fn:=Tryz.f83) (by kernel_rfl) (by kernel_rfl) ((afG _ _ _).trans ?_);refine D1 (decide_eq_true (show 0+xs.length≤1073741824 by omega)) (D1 (decide_eq_true (show 0+ys.length≤1073741824 by omega)) ?_);have loop:∀(n i:Nat) (out:List ai),i+n=xs.length→out=xs→LXG XE An1 500083 mh Tryz.f83 K5 (aK Tryz.prog 83 0) ((((xs.length:Nat):Int),((i:Int),())),(((([]:List ai),(([]:List ag),())),((out,(ys,())),())),(xs,(ys,()))))=some (((xs,(ys,())),()),(xs,(ys,()))):=by
  intro n
  induction n with
  |zero =>intro i out hi ho;subst ho;refine Vg (j:=0) (by kernel_rfl) ((O5 _ _ _).trans ?_);exact Yq (decide_eq_false (show ¬((i:Int)<((out.length:Nat):Int)) by omega)) rfl
  |succ n ih =>
   intro i out hi ho;have aO:i<xs.length:=by omega
   have Vd:out[i]? = some xs[i]:=by simp_all
   have hol:out.length=xs.length:=by rw[ho]
   have c1:(decide ((0:Int)≤(i:Int))&&decide ((i:Int)<((out.length:Nat):Int)))=true:=by simp_all
   refine Vg (j:=0) (by kernel_rfl) ((O5 _ _ _).trans ?_);refine D1 (decide_eq_true (show((i:Int)<((xs.length:Nat):Int)) by omega)) (D1 c1 (Vh Vd ?_));refine Vh (afL xs[i].2.1 (hr _ (ac8 aO))) ?_;refine D1 c1 (Vh Vd ?_);have hs:out.set i (xs[i].1,(xs[i].2.1,xs[i].2.2))=xs:=by
    grind [List.set_getElem_self]
   have:=ih (i+1) (out.set i (xs[i].1,(xs[i].2.1,xs[i].2.2))) (by omega) hs;rw[←Vk aO hx]at this;exact this
 exact loop xs.length 0 xs (by omega) rfl
theorem alj{f:FuncId}{g:aN}{x:g.A}{y:g.B}(hs:XE f=some g)(h:Yp XE An1 f g x=some y):Gn Tryz.prog f g x y :=BO (fun f g u hf hu=>by
  have hm:=O8 hf;simp only[abU,List.mem_cons,List.not_mem_nil,or_false,Prod.mk.injEq]at hm;rcases hm with⟨_,rfl⟩|⟨_,rfl⟩|⟨rfl,rfl⟩|⟨rfl,rfl⟩
  ·cases hu
  ·cases hu
  ·cases hu;grind [id,Yr]
  ·cases hu;grind [id,Ys]) D0 (fun f g hf=>IF (by kernel_rfl) (O8 hf)) uo (fun f g u x y _ hu _=>by cases hu) hs h
theorem Ru:gE Tryz.prog 83 Ie:=IC fun xs ys h=>by have:=alj (by kernel_rfl) (afM xs ys h);exact this
end Go.Vs
namespace Go.Vs
open Go.Proofs Go.RowKit
abbrev aaq:Array Value:=#[.slice none 0 0,.slice none 0 0,.slice none 0 0,.int .i64 0,.slice none 0 0]
theorem Yt(w:World):Calls Tryz.prog 28 #[] w fun e w'=>e=.returned (.pointer (some ⟨w.heap.size,0,none⟩))∧w'=w.alloc (.cells aaq 94):=by
 go_enter Tryz.func28,Tryz.ntmps28
 go_wp2
 go_ret
 simp_all
theorem Nm:gE Tryz.prog 28 abH:=by
 intro Z ψ h w B0 O N hh id e vs us g hB bu hN bj mK oQ Bh he;unfold abH at he
 split at he
 rotate_left
 ·cases he
 simp only[Option.some.injEq,Prod.mk.injEq,true_and]at he;subst he;simp only[au]at oQ;subst oQ;have k0:aI Z w OF (kf OF) aaq.toList:=by have z:∀(k:K),aI Z w (.sl k) [] [.slice none 0 0]:=fun k=>⟨_,rfl,none,0,rfl,acb _,fun _=>rfl,fun i x h=>by simp at h⟩;exact⟨[.slice none 0 0,.slice none 0 0,.slice none 0 0],[.int .i64 0,.slice none 0 0],rfl,⟨[.slice none 0 0,.slice none 0 0],[.slice none 0 0],rfl,⟨[.slice none 0 0],[.slice none 0 0],rfl,z _,z _⟩,z _⟩,[.int .i64 0],[.slice none 0 0],rfl,rfl,z _⟩
 have n0:N (id+128):=hN 128 (by omega);have b1:=wN g hB (id+128) 94 n0 (gY (h:=h) (ψ:=ψ) k0) k0.one (fun i ty cs hb=>aC.imp (p:=fun j=>¬N j) (q:=fun j=>j≠id+128) (fun j hj e=>hj (by simp_all)) (bj i ty cs hb)) (by show aC _ [.sl false cP [],.sl false di [],.sl false cw [],.int .i64 0,.sl false qN []];simp[aC,aJ]);refine(Yt w).mono fun en w' ⟨e1,e2⟩=>?_;subst e2;have hH:(bE.new (.ref (id+128) 0 0 0) [(id+128,.box 94 (enc OF (kf OF)))]).hp h=dV h (id+128) (some (.box 94 (enc OF (kf OF)))):=by
  funext i;show(match Heap.get _ i with|some o=>some o|none=>h i)=_;unfold dV;by_cases h2:i=id+128
  ·grind [Heap.get]
  ·simp[Heap.get,h2,Ne.symm h2]
 refine⟨_,Z,dV ψ (id+128) (.pointer (some ⟨w.heap.size,0,none⟩)),e1,?_,?_⟩
 ·simp_all
 ·rw[hH];simp only[bE.v,az];refine⟨_,rfl,fun _=>?_⟩;rw[bf];rfl
theorem Yu(w:World)(b:Nat)(v0 v1 v2 v3 v4:Value)(hg:w.heap[b]? = some (.cells #[v0,v1,v2,v3,v4] 94 (0,0))):Calls Tryz.prog 33 #[.pointer (some ⟨b,0,none⟩)] w fun e w'=>e=.returned v3∧w'=w:=by
 go_enter Tryz.func33,Tryz.ntmps33
 go_wp2_with (simp[World.cell?,hg])
 go_ret
 simp_all
theorem Vl{Z:Nat→Prop}{ψ:Nat→Value}{h:Hp}{w:World}{B0:Nat}{O:Nat→Prop}{hh:Heap}(g:Good Z ψ h w B0 O)(bu:∀id o,hh.get id=some o→h id=some o){i:Nat}{cs:List AV}(hb:B9 hh i 94=some cs){x:OF.T}(hd:dv OF cs=some x) {us:List Value} (oQ:au Z ψ h w [.ref i 0 0 0] us) :
  ∃(b:Nat) (p0 p1 p2 p4:Option Addr) (l0 c0 l1 c1 l2 c2 l4 c4:Nat),us=[.pointer (some ⟨b,0,none⟩)]∧w.heap[b]? = some (.cells #[.slice p0 l0 c0,.slice p1 l1 c1,.slice p2 l2 c2,.int .i64 x.2.1,.slice p4 l4 c4] 94 (0,0)) ∧ aI Z w OF x [.slice p0 l0 c0,.slice p1 l1 c1,.slice p2 l2 c2,.int .i64 x.2.1,.slice p4 l4 c4]:=by
 have hg:hh.get i=some (.box 94 cs):=by
  grind [B9]
 have h1:=bu _ _ hg;obtain⟨b,vs,e1,e2,e3,e4⟩:=g.box i 94 cs h1;have hk:=dw hd e3;have hu:us=[.pointer (some ⟨b,0,none⟩)]:=by simp only[au,az]at oQ;obtain⟨v,jk,rfl,⟨a,rfl,ha⟩,rfl⟩:=oQ;rw[ha (by rw[h1];simp),e1];rfl
 have qh:=hk;obtain⟨l⟩:=vs;obtain⟨ua,ub,hq,⟨ud,ug,rfl,⟨uv,ue,rfl,⟨_,rfl,p0,c0,rfl,_⟩,⟨_,rfl,p1,c1,rfl,_⟩⟩,⟨_,rfl,p2,c2,rfl,_⟩⟩,un,u4,rfl,hn,⟨_,rfl,p4,c4,rfl,_⟩⟩:=hk;have hn:un=[.int .i64 x.2.1]:=hn
 grind
theorem IG:gE Tryz.prog 33 M6:=by
 intro Z ψ h w B0 O N hh id e vs us g hB bu hN bj mK oQ Bh he;unfold M6 at he
 split at he
 rotate_left
 ·cases he
 split at he
 rotate_left
 ·cases he
 rename_i i cs hb
 split at he
 rotate_left
 ·cases he
 rename_i x hd
 cases he
 obtain⟨b,p0,p1,p2,p4,l0,c0,l1,c1,l2,c2,l4,c4,rfl,hg,_⟩:=Vl g bu hb hd oQ;refine(Yu w b _ _ _ _ _ hg).mono fun en w' ⟨e1,e2⟩=>?_;subst e2;refine⟨_,Z,ψ,e1,Next.refl g,?_⟩;rfl
theorem O9(w:World)(a:Option Addr)(n c:Nat)(hn:n≤c):Calls Tryz.prog 145 #[.slice a n c] w fun e w'=>e=.returned (.slice (if n=0 then a else a) n n)∧w'=w:=by
 go_enter Tryz.func145,Tryz.ntmps145
 go_wp2_with (simp)
 go_ret
 exact⟨rfl,rfl⟩
theorem Yv:gE Tryz.prog 145 Uj:=by
 intro Z ψ h w B0 O N hh id e vs us g hB bu hN bj mK oQ Bh he;unfold Uj at he
 split at he
 ·rename_i ex k xs
  cases he
  simp only[au,az,aI]at oQ;obtain⟨v,jk,rfl,⟨⟨v',hv,A,c,rfl,hl,hc,hx⟩,_⟩,rfl⟩:=oQ
  cases hv
  refine(O9 w A xs.length c hl).mono fun en w' ⟨e1,e2⟩=>?_;subst e2;refine⟨_,Z,ψ,e1,Next.refl g,?_⟩;simp only[bE.v,az,aI,ite_self];exact⟨⟨_,rfl,A,_,rfl,acb _,fun h0=>by have:=hc h0;omega,hx⟩,fun _=>⟨A,_,rfl⟩⟩
 ·cases he
  simp only[au,az]at oQ;obtain⟨v,jk,rfl,rfl,rfl⟩:=oQ;refine(O9 w none 0 0 (acb _)).mono fun en w' ⟨e1,e2⟩=>?_;subst e2;exact⟨_,Z,ψ,e1,Next.refl g,by simp only[bE.v,az,ite_self]⟩
 ·cases he
end Go.Vs
namespace Go.Vs
open Go.Proofs
theorem Vm:∀f g u,Sg f=some g→g.x=some u→gE Tryz.prog (f%1000) u:=fun f g u h hu=>by
 have hm:=Ve h;have key:(sgs.all fun p=>(p.2.x.isNone || (p.1==153 || (p.1==191 || (p.1==220 || (p.1==154 || (p.1==164 || (p.1==222 || (p.1==500083 || (p.1==28 || (p.1==33 || (p.1==145))))))))))))=true:=by kernel_rfl
 have:=adb.1 key _ hm;simp only[hu,Option.isNone_some,Bool.false_or,Bool.or_eq_true,beq_iff_eq]at this;rcases this with rfl|rfl|rfl|rfl|rfl|rfl|rfl|rfl|rfl|rfl
 ·have e:Sg 153=some ZT:=by kernel_rfl
  rw[e]at h;cases h;cases hu;intro Z ψ h w B0 O N hh id e vs us;exact wb (k:=cP) abM
 ·have e:Sg 191=some ZW:=by kernel_rfl
  rw[e]at h;cases h;cases hu;intro Z ψ h w B0 O N hh id e vs us;exact wb (k:=di) abQ
 ·have e:Sg 220=some ZX:=by kernel_rfl
  rw[e]at h;cases h;cases hu;intro Z ψ h w B0 O N hh id e vs us;exact wb (k:=cw) abS
 ·have e:Sg 154=some ZU:=by kernel_rfl
  rw[e]at h;cases h;cases hu;intro Z ψ h w B0 O N hh id e vs us;exact DZ (k:=cP) abO
 ·have e:Sg 164=some ZV:=by kernel_rfl
  rw[e]at h;cases h;cases hu;intro Z ψ h w B0 O N hh id e vs us;exact DZ (k:=di) abR
 ·have e:Sg 222=some ZY:=by kernel_rfl
  rw[e]at h;cases h;cases hu;intro Z ψ h w B0 O N hh id e vs us;exact K3 (k:=bg) Yk
 ·have e:Sg 500083=some KI:=by kernel_rfl
  rw[e]at h;cases h;cases hu;intro Z ψ h w B0 O N hh id e vs us;exact Ru
 ·have e:Sg 28=some aae:=by kernel_rfl
  rw[e]at h;cases h;cases hu;intro Z ψ h w B0 O N hh id e vs us;exact Nm
 ·have e:Sg 33=some aac:=by kernel_rfl
  rw[e]at h;cases h;cases hu;intro Z ψ h w B0 O N hh id e vs us;exact IG
 ·have e:Sg 145=some aad:=by kernel_rfl
  rw[e]at h;cases h;cases hu;intro Z ψ h w B0 O N hh id e vs us;exact Yv
end Go.Vs
