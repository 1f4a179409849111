/- slices.Insert -/
import Derived.Test.YtpkfpbpbkabkdaaGreatEngineD
import Derived.Lib.AppendZerosOnto
import Derived.Lib.Overlaps
import Derived.Lib.Walk
import Derived.Shelf.Spec.SlicesInsert
import Derived.Laws.NewBlocks
set_option linter.unusedVariables false
set_option linter.unusedSimpArgs false
namespace Go.Vs
variable {P:Program} {w:World}
theorem oK(w:World)(t ty e:TypeId)(sz g n c:Nat)(a:Addr)(m mc:Nat)(cur:Array Value)(news:List Value)(ht:P.underlying t=some (.slice e))(hs:(P.info? e).map (·.size)=some sz) (hg:w.heap[g]? = some (.cells cur e (0,0))) (hl:news.length=m*sz) (wW:∀(j:Nat) v,news[j]? = some v→w.cell? (a.add j)=some v) (h1:∀v∈news,v.oneCell'=true) (db:n+m≤c) (gE:c*sz≤cur.size) :
  (Builtin.append_ #[t,t] ty #[.slice (some ⟨g,0,none⟩) n c,.slice (some a) m mc]).run P w=.ok (.slice (some ⟨g,0,none⟩) (n+m) c) (w.setRow g (cur.toList.take (n*sz)++news++cur.toList.drop (n*sz+news.length)).toArray):=by
 have hle:n*sz+m*sz≤c*sz:=by rw[←Nat.add_mul];exact acs _ db
 have abm:=run_loadCells_list (P:=P) w a news wW;have u6:=run_storeCells_at P g (n*sz) e news 0 cur w hg (by omega) h1;simp only[Nat.add_zero]at u6;have ha:(⟨g,0,none⟩:Addr).add (n*sz)=⟨g,n*sz,none⟩:=by rw[cw,Nat.zero_add]
 cases hq:P.info? e with
 |none=>simp[hq]at hs
 |some i =>
  have hi:i.size=sz:=by simpa[hq] using hs
  simp[Builtin.append_,run_underlying ht,Builtin.lenOf,Builtin.firstCells,sizeOf,typeInfo,hq,hi,←hl,abm,db,ha,u6]
theorem rE(w:World)(t ty e:TypeId)(sz g o k c:Nat)(cur:Array Value)(i:TypeInfo)(z:Value)(ht:P.underlying t=some (.slice e))(hi:P.info? e=some i)(hz:i.zero=some z)(zH:z.cells.size=sz)(h1:∀v∈z.cells.toList,v.oneCell'=true) (hg:w.heap[g]? = some (.cells cur e (0,0))) (hk:0<k) (Nv:o+k*sz≤cur.size) :
  (Builtin.clear_ #[t] ty #[.slice (some ⟨g,o,none⟩) k c]).run P w=.ok (.tuple #[]) (w.setRow g (cur.toList.take o++(Builtin.zeroCells z.cells k).toList++cur.toList.drop (o+(Builtin.zeroCells z.cells k).toList.length)).toArray):=by
 have hl:(Builtin.zeroCells z.cells k).toList.length=k*sz:=by simp[Builtin.zeroCells,zH]
 have Fs:∀v∈(Builtin.zeroCells z.cells k).toList,v.oneCell'=true:=fun v hv=>by
  simp only[Builtin.zeroCells,Array.toList_map,List.mem_map]at hv;obtain⟨q,hq,rfl⟩:=hv;have hq':q<k*z.cells.size:=by simpa using hq
  have hp:0<z.cells.size:=by
   rcases Nat.eq_zero_or_pos z.cells.size with h|h
   ·rw[h,Nat.mul_zero]at hq';omega
   ·exact h
  have aF:q%z.cells.size<z.cells.size:=Nat.mod_lt _ hp;rw[getElem!_pos z.cells _ aF];exact h1 _ (by simp)
 have u6:=run_storeCells_at P g o e (Builtin.zeroCells z.cells k).toList 0 cur w hg (by omega) Fs;simp only[Nat.add_zero]at u6;obtain⟨m,rfl⟩:∃m,k=m+1:=⟨k-1,by omega⟩;simp[Builtin.clear_,run_underlying ht,zeroValue,typeInfo,hi,hz,u6]
end Go.Vs
namespace Go.Vs
open Go.Proofs Go.RowKit
def B6(P:Program)(f:FuncId)(e:TypeId)(size:Nat):Prop :=∀(w:World) (v u:Value) (n i:Nat) (xs ys:List Value),dx w e size v n xs→dx w e size u 1 ys→i≤n→n+1≤eE→(∀b,ob v=some b→ob u≠some b) →(∀q∈xs,q.oneCell'=true)→(∀q∈ys,q.oneCell'=true) → Calls P f #[v,.int .i64 i,u] w fun en w'=>∃v',en=.returned v'∧dx w' e size v' (n+1) (xs.take (i*size)++(ys++xs.drop (i*size)))∧w.grownBy w' (ob v)∧(ob v'=ob v∨∀b,ob v'=some b→w.heap.size≤b)
def FZ(P:Program)(f:FuncId)(e:TypeId)(sz:Nat):Prop:=∀(w:World) (v u:Value) (n:Nat) (xs ys:List Value) (hv:dx w e sz v n xs) (hu:dx w e sz u 1 ys) (hm:n+1≤eE) (h1:∀q∈ys,q.oneCell'=true),Calls P f #[v,.int .i64 n,u] w fun en w'=>∃v',en=.returned v'∧dx w' e sz v' (n+1) (xs++ys)∧w.grownBy w' (ob v)∧(ob v'=ob v∨∀b,ob v'=some b→w.heap.size≤b)
def wa(P:Program)(f:FuncId)(e:TypeId)(sz:Nat):Prop:=∀(w:World) (g c g2 c2 n i:Nat) (xs ys:List Value) (cur c7:Array Value) (hg:w.heap[g]? = some (.cells cur e (0,0))) (gE:cur.size=c*sz) (km:cur.toList.take (n*sz)=xs) (ug:xs.length=n*sz) (uQ:w.heap[g2]? = some (.cells c7 e (0,0))) (mT:c7.size=c2*sz) (nN:0<c2) (kR:c7.toList.take (1*sz)=ys) (C5:ys.length=1*sz) (aW:g2≠g) (hi:i<n) (db:n+1≤c) (hc:c≤maxLen) (h1:∀q∈xs,q.oneCell'=true) (h2:∀q∈ys,q.oneCell'=true),Calls P f #[.slice (some ⟨g,0,none⟩) n c,.int .i64 i,.slice (some ⟨g2,0,none⟩) 1 c2] w fun en w'=>en=.returned (.slice (some ⟨g,0,none⟩) (n+1) c) ∧ ∃fV:Array Value,w'.heap[g]? = some (.cells fV e (0,0))∧fV.size=cur.size∧fV.toList.take ((n+1)*sz)=xs.take (i*sz)++(ys++xs.drop (i*sz))∧w.grownBy w' (some g)
def Aa(P:Program)(f:FuncId)(e:TypeId)(sz:Nat):Prop:=∀(w:World) (g c g2 c2 n i:Nat) (xs ys:List Value) (cur c7:Array Value) (hg:w.heap[g]? = some (.cells cur e (0,0))) (gE:cur.size=c*sz) (km:cur.toList.take (n*sz)=xs) (ug:xs.length=n*sz) (uQ:w.heap[g2]? = some (.cells c7 e (0,0))) (mT:c7.size=c2*sz) (nN:0<c2) (kR:c7.toList.take (1*sz)=ys) (C5:ys.length=1*sz) (aW:g2≠g) (hi:i<n) (yk:n≤c) (db:c<n+1) (hm:n+1≤eE) (h1:∀q∈xs,q.oneCell'=true) (h2:∀q∈ys,q.oneCell'=true),Calls P f #[.slice (some ⟨g,0,none⟩) n c,.int .i64 i,.slice (some ⟨g2,0,none⟩) 1 c2] w fun en w'=>∃G,en=.returned (.slice (some ⟨w.heap.size,0,none⟩) (n+1) G) ∧ ∃fV:Array Value,w'.heap[w.heap.size]? = some (.cells fV e (0,0))∧fV.size=G*sz∧n+1≤G∧G≤maxLen∧fV.toList.take ((n+1)*sz)=xs.take (i*sz)++(ys++xs.drop (i*sz))∧w.grownBy w' (some g)
theorem F2{w:World}{e sz:Nat}{u:Value}{ys:List Value}(hu:dx w e sz u 1 ys)(h1:∀q∈ys,q.oneCell'=true):T1 w sz u 1 ys:=by
 refine⟨hu.1,h1,.inr ?_⟩;rcases hu.2 with⟨h0,_⟩|⟨g,cap,cur,rfl,_,hg,_,_,hc,km⟩
 ·cases h0
 ·refine⟨_,_,rfl,fun j q hj=>?_⟩;rw[cw,Nat.zero_add];rw[←km,List.getElem?_take]at hj
  split at hj
  ·simp[World.cell?,hg];simpa using hj
  ·cases hj
theorem Rl{α:Type}{cur xs ys cur1 cur3:List α}{i n sz:Nat}(km:cur.take (n*sz)=xs)(hl:(n+1)*sz≤cur.length)(hy:ys.length=sz)(hi:i≤n) (h1:cur1=cur.take ((i+1)*sz)++xs.drop (i*sz)++cur.drop ((i+1)*sz+(xs.drop (i*sz)).length)) (h3:cur3=cur1.take (i*sz)++ys++cur1.drop (i*sz+ys.length)) :
  cur3.take ((n+1)*sz)=xs.take (i*sz)++(ys++xs.drop (i*sz)):=by
 have yS:i*sz≤n*sz:=acs _ hi;rw[Nat.add_mul,Nat.one_mul]at hl h1 ⊢;have ug:xs.length=n*sz:=by rw[←km,List.length_take];omega
 generalize i*sz=a at *;generalize n*sz=b at *;have e1:cur1.take a=xs.take a:=by rw[h1,List.append_assoc,List.take_append_of_le_length (by rw[List.length_take];omega),List.take_take,←km,List.take_take];congr 1;omega
 have e2:cur1.drop (a+ys.length)=xs.drop a++cur.drop (a+1*sz+(xs.drop a).length):=by rw[h1,List.append_assoc,Nat.one_mul,hy];exact List.drop_left' (by rw[List.length_take];omega)
 rw[h3,e1,e2,←List.append_assoc,←List.append_assoc];rw[List.take_left' (by simp only[List.length_append,List.length_take,List.length_drop];omega)]
theorem uz{w:World}{e size:Nat}{g n:Nat}{cur:Array Value}{xs:List Value}(hg:w.heap[g]? = some (.cells cur e (0,0)))(km:cur.toList.take (n*size)=xs)(o:Nat):∀(j:Nat) q,(xs.drop o)[j]? = some q→w.cell? ((⟨g,o,none⟩:Addr).add j)=some q:=fun j q hj=>by
 rw[cw];rw[List.getElem?_drop,←km,List.getElem?_take]at hj
 split at hj
 ·simp[World.cell?,hg];simpa using hj
 ·cases hj
theorem uA{P:Program}{t e sz:Nat}(ht:P.underlying t=some (.slice e))(hz:(P.info? e).map (·.size)=some sz)(w:World)(g c g2 c2 n i:Nat)(xs ys:List Value)(cur c7:Array Value)(hg:w.heap[g]? = some (.cells cur e (0,0)))(gE:cur.size=c*sz)(km:cur.toList.take (n*sz)=xs)(ug:xs.length=n*sz)(uQ:w.heap[g2]? = some (.cells c7 e (0,0)))(mT:c7.size=c2*sz)(nN:0<c2)(kR:c7.toList.take (1*sz)=ys)(C5:ys.length=1*sz)(aW:g2≠g)(hi:i<n)(db:n+1≤c)(hc:c≤maxLen)(h1:∀q∈xs,q.oneCell'=true)(h2:∀q∈ys,q.oneCell'=true) :
  ∃cur1 cur3:Array Value,(∀(W:World),W.heap=w.heap→∀ty dc sc,(Builtin.copy_ #[t,t] ty #[.slice (some ⟨g,(i+1)*sz,none⟩) (n-i) dc,.slice (some ⟨g,i*sz,none⟩) (n+1-i) sc]).run P W=.ok (goInt (n-i:Nat)) (W.setRow g cur1))∧(∀ty dc sc,(Builtin.copy_ #[t,t] ty #[.slice (some ⟨g,i*sz,none⟩) (n+1-i) dc,.slice (some ⟨g2,0,none⟩) 1 sc]).run P (w.drew.setRow g cur1)=.ok (goInt 1) ((w.drew.setRow g cur1).setRow g cur3))∧cur3.size=cur.size∧cur3.toList.take ((n+1)*sz)=xs.take (i*sz)++(ys++xs.drop (i*sz)):=by
 have J4:=uz (size:=sz) (n:=1) uQ kR 0;have yl:=uz (size:=sz) (n:=n) hg km (i*sz);have h63:c≤9223372036854775807:=by unfold maxLen at hc;omega
 have m6:(n+1)*sz≤c*sz:=acs _ db;have m1:(n+1)*sz=n*sz+sz:=aef ..;have m2:(i+1)*sz=i*sz+sz:=aef ..;have m3:(n-i)*sz=n*sz-i*sz:=Nat.sub_mul ..;have m4:(i+1)*sz≤n*sz:=acs _ hi;have m5:1*sz=sz:=Nat.one_mul _;have hn5:n*sz≤cur.size:=by omega
 obtain⟨cur1,mD⟩:∃cur1:Array Value,cur1=(cur.toList.take ((i+1)*sz)++xs.drop (i*sz)++cur.toList.drop ((i+1)*sz+(xs.drop (i*sz)).length)).toArray:=⟨_,rfl⟩;have F3:(xs.drop (i*sz)).length=(n-i)*sz:=by rw[List.length_drop,ug];omega
 have KB:∀(W:World),W.heap=w.heap→∀ty dc sc,(Builtin.copy_ #[t,t] ty #[.slice (some ⟨g,(i+1)*sz,none⟩) (n-i) dc,.slice (some ⟨g,i*sz,none⟩) (n+1-i) sc]).run P W=.ok (goInt (n-i:Nat)) (W.setRow g cur1):=fun W hW ty dc sc=>by have:=g8 (P:=P) W t t ty e sz g ((i+1)*sz) (n-i) dc ⟨g,i*sz,none⟩ (n+1-i) sc cur e (xs.drop (i*sz)) ht hz (by rw[hW];exact hg) (by rw[F3];simp only[Nat.min_def];split<;>omega) (fun j v hj=>by have:=yl j v hj;simpa only[World.cell?,hW] using this) (by omega) (fun q hq=>h1 q (adW hq));rw[this,mD];congr 2;simp only[Nat.min_def];split<;>omega
 have JM:cur1.size=cur.size:=by rw[mD];simp;omega
 obtain⟨cur3,Rm⟩:∃cur3:Array Value,cur3=(cur1.toList.take (i*sz)++ys++cur1.toList.drop (i*sz+ys.length)).toArray:=⟨_,rfl⟩;have afN:∀(W:World),W.heap[g]? = some (.cells cur1 e (0,0))→W.heap[g2]? = w.heap[g2]?→∀ty dc sc,(Builtin.copy_ #[t,t] ty #[.slice (some ⟨g,i*sz,none⟩) (n+1-i) dc,.slice (some ⟨g2,0,none⟩) 1 sc]).run P W=.ok (goInt 1) (W.setRow g cur3):=fun W hW hW2 ty dc sc=>by have:=g8 (P:=P) W t t ty e sz g (i*sz) (n+1-i) dc ⟨g2,0,none⟩ 1 sc cur1 e ys ht hz hW (by rw[C5];simp only[Nat.min_def];split<;>omega) (fun j v hj=>by have:=J4 j v (by simpa using hj);simpa only[World.cell?,eY,hW2] using this) (by omega) h2;rw[this,Rm];congr 2;simp only[Nat.min_def];split<;>omega
 have Oa:cur3.size=cur.size:=by rw[Rm];simp;omega
 have js:cur3.toList.take ((n+1)*sz)=xs.take (i*sz)++(ys++xs.drop (i*sz)):=Rl (sz:=sz) (cur1:=cur1.toList) (cur3:=cur3.toList) km (by simp;omega) (by rw[C5,m5]) (Nat.le_of_lt hi) (by rw[mD]) (by rw[Rm]);exact⟨cur1,cur3,KB,afN (w.drew.setRow g cur1) (setRow_heap w.drew g cur _ e _ hg) (_root_.Go.setRow_other w.drew g g2 _ aW),Oa,js⟩
theorem uB{n i c:Nat}(hi:i<n)(db:n+1≤c)(hc:c≤maxLen):(IntKind.i64.wrap ((i:Int)+1)=(i:Int)+1)∧(IntKind.i64.wrap ((n:Int)+1)=(n:Int)+1)∧((0:Int)≤(i:Int)+1)∧(i≤n)∧(((i:Int)+1).toNat=i+1)∧(¬(c=i+1))∧((i:Int)≤(n:Int)+1)∧(¬(c=i))∧(¬((i:Int)=(n:Int)))∧(¬((c:Int)<(n:Int)+1)):=by unfold maxLen at hc;exact⟨by rw[IntKind.wrap_i64];omega,by rw[IntKind.wrap_i64];omega,by omega,by omega,by omega,by omega,by omega,by omega,by omega,by omega⟩
theorem Oc{α:Type}{row xs ys row2 row3:List α}{i n sz:Nat}(hA:row.take (i*sz)=xs.take (i*sz))(hl:(n+1)*sz≤row.length)(ug:xs.length=n*sz)(hy:ys.length=sz)(hi:i≤n) (h2:row2=row.take (i*sz)++ys++row.drop (i*sz+ys.length)) (h3:row3=row2.take ((i+1)*sz)++xs.drop (i*sz)++row2.drop ((i+1)*sz+(xs.drop (i*sz)).length)) :
  row3.take ((n+1)*sz)=xs.take (i*sz)++(ys++xs.drop (i*sz)):=by
 have yS:i*sz≤n*sz:=acs _ hi;rw[Nat.add_mul,Nat.one_mul]at hl h3 ⊢;generalize i*sz=a at *;generalize n*sz=b at *;have e1:row2.take (a+1*sz)=xs.take a++ys:=by rw[h2,hA,Nat.one_mul];exact List.take_left' (by simp only[List.length_append,List.length_take];omega)
 rw[Nat.one_mul]at e1;rw[h3,e1];rw[List.take_left' (by simp only[List.length_append,List.length_take,List.length_drop];omega)];rw[List.append_assoc]
theorem xp{P:Program}{t e sz:Nat}{k:K}{i0:TypeInfo}{z0:Value}(hk:k.sz=sz)(h0:0<sz)(ht:P.underlying t=some (.slice e))(Zh:P.underlying 3=some (.int .i64))(he:nK P e k i0 z0)(w:World)(g c g2 c2 n i:Nat)(xs ys:List Value)(cur c7:Array Value)(hg:w.heap[g]? = some (.cells cur e (0,0)))(gE:cur.size=c*sz)(km:cur.toList.take (n*sz)=xs)(ug:xs.length=n*sz)(uQ:w.heap[g2]? = some (.cells c7 e (0,0)))(mT:c7.size=c2*sz)(nN:0<c2)(kR:c7.toList.take (1*sz)=ys)(C5:ys.length=1*sz)(aW:g2≠g)(hi:i<n)(yk:n≤c)(db:c<n+1)(hm:n+1≤eE)(h1:∀q∈xs,q.oneCell'=true)(h2:∀q∈ys,q.oneCell'=true) :
  ∃(G:Nat) (sM row2 row3:Array Value) (W1:World),(∀ty,(Builtin.append_ #[t,3] ty #[.slice (some ⟨g,0,none⟩) i c,.int .i64 ((n:Int)+1-(i:Int))]).run P w=.ok (.slice (some ⟨w.heap.size,0,none⟩) (n+1) G) W1)∧W1.heap[w.heap.size]? = some (.cells sM e (0,0))∧(∀b,b<w.heap.size→W1.heap[b]? = w.heap[b]?)∧w.grownBy W1 none∧(∀(W:World),W.heap=W1.heap→∀ty dc sc,(Builtin.copy_ #[t,t] ty #[.slice (some ⟨w.heap.size,i*sz,none⟩) (n+1-i) dc,.slice (some ⟨g2,0,none⟩) 1 sc]).run P W=.ok (goInt 1) (W.setRow w.heap.size row2))∧(∀(W:World),W.heap=(W1.setRow w.heap.size row2).heap→∀ty dc sc,(Builtin.copy_ #[t,t] ty #[.slice (some ⟨w.heap.size,(i+1)*sz,none⟩) (n-i) dc,.slice (some ⟨g,i*sz,none⟩) (n-i) sc]).run P W=.ok (goInt (n-i:Nat)) (W.setRow w.heap.size row3))∧row3.size=G*sz∧n+1≤G∧G≤9223372036854775807∧row3.toList.take ((n+1)*sz)=xs.take (i*sz)++(ys++xs.drop (i*sz)):=by
 have GM:z0.cells.size=sz:=he.u9.trans hk;have zH:i0.size=sz:=he.size.trans hk;have hz:(P.info? e).map (·.size)=some sz:=by rw[he.info];exact congrArg some zH
 have Ij:=he.bytes;have J4:=uz (size:=sz) (n:=1) uQ kR 0;have yl:=uz (size:=sz) (n:=n) hg km (i*sz);have afO:=uz (size:=sz) (n:=n) hg km 0;have XU:g<w.heap.size:=(abX.1 hg).1;have afP:g2<w.heap.size:=(abX.1 uQ).1;unfold eE at hm;have m1:(n+1)*sz=n*sz+sz:=aef ..;have m2:(i+1)*sz=i*sz+sz:=aef ..;have m3:(n-i)*sz=n*sz-i*sz:=Nat.sub_mul ..;have m4:(i+1)*sz≤n*sz:=acs _ hi;have m5:1*sz=sz:=Nat.one_mul _;have m6:(n+1-i)*sz=n*sz+sz-i*sz:=by rw[Nat.sub_mul,m1]
 have py:(n+1)*i0.bytes≤140737488355328:=acB (aeh hm Ij) (by decide);have hold:(Builtin.firstCells i0.size i (.slice (some ⟨g,0,none⟩) i c)).run P w.drew=.ok (xs.take (i*sz)).toArray w.drew:=by
  rw[zH];exact run_firstCells_some w.drew sz i ⟨g,0,none⟩ i c (xs.take (i*sz)) (by rw[List.length_take];omega) (fun j v hj=>by
   rw[List.getElem?_take]at hj
   split at hj
   ·exact afO j v hj
   ·cases hj)
 obtain⟨G,hG⟩:∃G,G=grownCap w (n+1) c e:=⟨_,rfl⟩;obtain⟨sM,KC⟩:∃sM:Array Value,sM=(xs.take (i*sz)).toArray++Builtin.zeroCells z0.cells (n+1-i)++Builtin.zeroCells z0.cells (G-(n+1)):=⟨_,rfl⟩;have hik:i+(n+1-i)=n+1:=by omega
 have TI:∀ty,(Builtin.append_ #[t,3] ty #[.slice (some ⟨g,0,none⟩) i c,.int .i64 ((n:Int)+1-(i:Int))]).run P w=.ok (.slice (some ⟨w.heap.size,0,none⟩) (n+1) G) (w.drew.alloc (.cells sM e)):=fun ty=>by have h:=Lib.run_append_grow_zeros w t 3 ty e i0 z0 .i64 .i64 ht Zh he.info he.zero (some ⟨g,0,none⟩) i c (xs.take (i*sz)) hold (n+1-i) (by omega) (by omega) (by omega) (by omega) (acB (acs _ (show n+1-i≤n+1 by omega)) (by omega)) (by rw[hik];exact growslice_fits db py);rw[hik]at h;rw[show(n:Int)+1-(i:Int)=((n+1-i:Nat):Int) by omega,KC,hG];exact h
 have Od:n+1≤G:=by rw[hG];exact grownCap_ge w _ _ _
 have m7:(G-(n+1))*sz=G*sz-(n*sz+sz):=by rw[Nat.sub_mul,m1]
 have m8:(n+1)*sz≤G*sz:=acs _ Od;have F4:G≤9223372036854775807:=by have:=grownCap_le_maxLen w (n+1) c e (by unfold maxLen;omega);rw[←hG]at this;unfold maxLen at this;omega
 have hRs:sM.size=G*sz:=by rw[KC];simp[Builtin.zeroCells,GM,List.length_take,ug];rw[Nat.min_eq_left (by omega)];omega
 have hRt:sM.toList.take (i*sz)=xs.take (i*sz):=by rw[KC];simp only[Array.toList_append,List.append_assoc];exact List.take_left' (by rw[List.length_take];omega)
 obtain⟨W1,B7⟩:∃W1,W1=w.drew.alloc (.cells sM e):=⟨_,rfl⟩;have xq:W1.heap[w.heap.size]? = some (.cells sM e (0,0)):=by rw[B7];exact(MapKept.heap_alloc w.drew (.cells sM e)).1
 have zu:∀b,b<w.heap.size→W1.heap[b]? = w.heap[b]? := fun b hb=>by rw[B7];exact(Below.heap_alloc w.drew (.cells sM e) b hb).trans rfl
 have qJ:w.grownBy W1 none:=⟨by rw[B7];rfl,by rw[B7];rfl,by rw[B7];rfl,by have:=(abX.1 xq).1;omega,fun k hk _=>zu k hk⟩;obtain⟨row2,Rn⟩:∃row2:Array Value,row2=(sM.toList.take (i*sz)++ys++sM.toList.drop (i*sz+ys.length)).toArray:=⟨_,rfl⟩;have LQ:row2.size=sM.size:=by rw[Rn];simp;omega
 have KD:∀(W:World),W.heap=W1.heap→∀ty dc sc,(Builtin.copy_ #[t,t] ty #[.slice (some ⟨w.heap.size,i*sz,none⟩) (n+1-i) dc,.slice (some ⟨g2,0,none⟩) 1 sc]).run P W=.ok (goInt 1) (W.setRow w.heap.size row2):=fun W hW ty dc sc=>by have:=g8 (P:=P) W t t ty e sz w.heap.size (i*sz) (n+1-i) dc ⟨g2,0,none⟩ 1 sc sM e ys ht hz (by rw[hW];exact xq) (by rw[C5];simp only[Nat.min_def];split<;>omega) (fun j v hj=>by have:=J4 j v (by simpa using hj);simpa only[World.cell?,eY,hW,zu g2 afP] using this) (by omega) h2;rw[this,Rn];congr 2;simp only[Nat.min_def];split<;>omega
 obtain⟨row3,Ro⟩:∃row3:Array Value,row3=(row2.toList.take ((i+1)*sz)++xs.drop (i*sz)++row2.toList.drop ((i+1)*sz+(xs.drop (i*sz)).length)).toArray:=⟨_,rfl⟩;have F3:(xs.drop (i*sz)).length=(n-i)*sz:=by rw[List.length_drop,ug];omega
 have Oa:row3.size=sM.size:=by rw[Ro];simp;omega
 have KE:∀(W:World),W.heap=(W1.setRow w.heap.size row2).heap→∀ty dc sc,(Builtin.copy_ #[t,t] ty #[.slice (some ⟨w.heap.size,(i+1)*sz,none⟩) (n-i) dc,.slice (some ⟨g,i*sz,none⟩) (n-i) sc]).run P W=.ok (goInt (n-i:Nat)) (W.setRow w.heap.size row3):=fun W hW ty dc sc=>by have:=g8 (P:=P) W t t ty e sz w.heap.size ((i+1)*sz) (n-i) dc ⟨g,i*sz,none⟩ (n-i) sc row2 e (xs.drop (i*sz)) ht hz (by rw[hW];exact setRow_heap W1 w.heap.size sM _ e _ xq) (by rw[F3];simp only[Nat.min_def];split<;>omega) (fun j v hj=>by have:=yl j v hj;simpa only[World.cell?,eY,hW,_root_.Go.setRow_other W1 w.heap.size g _ (Nat.ne_of_lt XU),zu g XU] using this) (by omega) (fun q hq=>h1 q (adW hq));rw[this,Ro];congr 2;simp only[Nat.min_def];split<;>omega
 have js:row3.toList.take ((n+1)*sz)=xs.take (i*sz)++(ys++xs.drop (i*sz)):=Oc (sz:=sz) (row:=sM.toList) (row2:=row2.toList) (row3:=row3.toList) hRt (by simp;omega) ug (by rw[C5,m5]) (by omega) (by rw[Rn]) (by rw[Ro]);rw[←B7]at TI;exact⟨G,sM,row2,row3,W1,TI,xq,zu,qJ,KD,KE,by omega,Od,F4,js⟩
theorem xt{n i c G:Nat}(hi:i<n)(yk:n≤c)(db:c<n+1)(hm:n+1≤eE)(Od:n+1≤G):(IntKind.i64.wrap ((i:Int)+1)=(i:Int)+1)∧(IntKind.i64.wrap ((n:Int)+1)=(n:Int)+1)∧(IntKind.i64.wrap ((n:Int)+1-(i:Int))=(n:Int)+1-(i:Int))∧((0:Int)≤(i:Int)+1)∧(i≤n)∧(((i:Int)+1).toNat=i+1)∧(¬(G=i))∧(¬(G=i+1))∧(¬(c=i))∧((i:Int)≤(n:Int))∧(¬((i:Int)=(n:Int)))∧((c:Int)<(n:Int)+1):=by unfold eE at hm;exact⟨by rw[IntKind.wrap_i64];omega,by rw[IntKind.wrap_i64];omega,by rw[IntKind.wrap_i64];omega,by omega,by omega,by omega,by omega,by omega,by omega,by omega,by omega,by omega⟩
theorem KF{P:Program}{f:FuncId}{e:TypeId}{sz:Nat}(hE:FZ P f e sz)(hS:wa P f e sz)(hG:Aa P f e sz):B6 P f e sz:=fun w v u n i xs ys hv hu hi hm UC h1 h2=>by
 by_cases he:i=n
 ·subst he;refine(hE w v u i xs ys hv hu hm h2).mono fun en w' ⟨v',e1,e2,e3,e4⟩=>⟨v',e1,?_,e3,e4⟩;have hl:=hv.1;rw[List.take_of_length_le (by omega),List.drop_eq_nil_of_le (by omega),List.append_nil];exact e2
 ·have qH:i<n:=by omega
  have m1:(n+1)*sz=n*sz+sz:=aef ..;have m4:i*sz≤n*sz:=acs _ hi;have m5:1*sz=sz:=Nat.one_mul _;rcases hv.2 with⟨h0,_⟩|⟨g,c,cur,rfl,Ww,hg,yk,Oe,gE,km⟩
  ·omega
  rcases hu.2 with⟨h0,_⟩|⟨g2,c2,c7,rfl,abo,uQ,_,_,mT,kR⟩
  ·omega
  have la:ob (.slice (some ⟨g,0,none⟩) n c)=some g:=by simp only[ob];rw[if_neg (by omega)]
  have afQ:ob (.slice (some ⟨g2,0,none⟩) 1 c2)=some g2:=by simp only[ob];rw[if_neg (by omega)]
  have aW:g2≠g:=fun e=>UC g la (by rw[afQ,e]);by_cases db:n+1≤c
  ·refine(hS w g c g2 c2 n i xs ys cur c7 hg gE km hv.1 uQ mT abo kR hu.1 aW qH db Oe h1 h2).mono fun en w' ⟨e1,fV,e2,e3,e4,e5⟩=>?_;refine⟨_,e1,⟨?_,.inr ⟨g,c,fV,rfl,Ww,e2,db,Oe,by rw[e3,gE],e4⟩⟩,by rw[la];exact e5,.inl ?_⟩
   ·have hl:=hv.1;have zm:=hu.1;simp only[List.length_append,List.length_take,List.length_drop];omega
   ·rw[la];simp only[ob];rw[if_neg (by omega)]
  ·refine(hG w g c g2 c2 n i xs ys cur c7 hg gE km hv.1 uQ mT abo kR hu.1 aW qH yk (by omega) hm h1 h2).mono fun en w' ⟨G,e1,fV,e2,e3,e4,e5,e6,e7⟩=>?_;refine⟨_,e1,⟨?_,.inr ⟨w.heap.size,G,fV,rfl,by omega,e2,e4,e5,e3,e6⟩⟩,by rw[la];exact e7,.inr fun b hb=>?_⟩
   ·have hl:=hv.1;have zm:=hu.1;simp only[List.length_append,List.length_take,List.length_drop];omega
   ·simp only[ob]at hb;rw[if_neg (by omega)]at hb;cases hb;omega
set_option maxHeartbeats 4000000 in
set_option maxRecDepth 100000 in
theorem KG:FZ Tryz.prog 176 52 5:=fun w v u n xs ys hv hu hm h1=>by
 have ht:Tryz.prog.underlying 38=some (.slice 52):=by kernel_rfl
 obtain⟨i0,z0,he⟩:=b7 (P:=Tryz.prog) (e:=52) (k:=.pair (.pair (.int .i64) (.int .i64)) (.pair (.sl (.pair (.pair (.int .i64) (.int .i64)) (.int .i64))) (.pair .str (.int .i64)))) (by kernel_rfl);have wW:=F2 hu h1;obtain⟨v',w',cJ,h4,h5,h6⟩:=dD (P:=Tryz.prog) (ty:=38) ht he hv wW hm;obtain⟨A,c,rfl⟩:=hv.slice;have yk:n≤c:=by
  rcases hv.2 with⟨h0,A,e⟩|⟨g,cap,cur,e,hc,h2,h3,_⟩
  ·omega
  ·cases e;exact h3
 obtain⟨B,cu,rfl⟩:=hu.slice;have abp:n≤1073741824:=by unfold eE at hm;omega
 go_enter Tryz.func176,Tryz.ntmps176
 go_wp2_with (at_builtin;refine Lib.wpList_append_run _ rfl _ _ _ _ rfl _ _ rfl rfl _ _ cJ ?_)
 all_goals go_ret
 all_goals first|exact⟨_,rfl,h4,h5,h6⟩|(subst_vars;exact⟨_,rfl,h4,h5,h6⟩)
set_option maxHeartbeats 4000000 in
set_option maxRecDepth 100000 in
theorem F5:wa Tryz.prog 176 52 5:=fun w g c g2 c2 n i xs ys cur c7 hg gE km ug uQ mT nN kR C5 aW hi db hc h1 h2=>by
 have ht:Tryz.prog.underlying 38=some (.slice 52):=by kernel_rfl
 have hz:(Tryz.prog.info? 52).map (·.size)=some 5:=by kernel_rfl
 have zH:∀w,(Go.sizeOf 52).run Tryz.prog w=.ok 5 w:=fun w=>by
  cases hq:Tryz.prog.info? 52 with
  |none=>rw[hq]at hz;cases hz
  |some i=>rw[hq]at hz;simp at hz;simp[sizeOf,typeInfo,hq,hz]
 have TJ:∀a2 lb cb,(callFunc 209 #[.slice (some ⟨g2,0,none⟩) 1 c2,.slice (some ⟨g,a2,none⟩) lb cb]).run Tryz.prog w=.ok (.value (.bool false)) w:=fun a2 lb cb=>by rw[run_callFunc_extern Tryz.func209 (by kernel_rfl) (by kernel_rfl) (by kernel_rfl) (e:=Extern.SlicesOverlaps.overlaps #[38,38] #[4]) (by kernel_rfl),Lib.run_overlaps_apart w 38 4 52 ht 5 zH ⟨g2,0,none⟩ ⟨g,a2,none⟩ 1 c2 lb cb aW 52 52 c7.size cur.size (by simp[World.shape?,uQ]) (by simp[World.shape?,hg]) (by omega) (by simp[World.frozen?,uQ]) (by simp[World.frozen?,uQ])];rfl
 obtain⟨cur1,cur3,KB,Ik,Oa,js⟩:=uA ht hz w g c g2 c2 n i xs ys cur c7 hg gE km ug uQ mT nN kR C5 aW hi db hc h1 h2;have h63:c≤9223372036854775807:=by unfold maxLen at hc;omega
 obtain⟨Km,KH,UD,qH,Zh,zK,hb3,hb4,zG,JC⟩:=uB hi db hc;clear km kR;have mixed:Tryz.prog.follows .mixedOrders=true:=by kernel_rfl
 go_enter Tryz.func176,Tryz.ntmps176
 go_wp2_with (simp only[TJ])
 go_region_law (go_loud (refine step_copy_runI rfl _ _ 38 38 rfl (.slice (some ⟨g,(i+1)*5,none⟩) (n-i) (c-(i+1))) (.slice (some ⟨g,i*5,none⟩) (n+1-i) (c-i)) (by simp[Act.eval,Act.put]) (by simp[Act.eval,Act.put]) (KB w.drew rfl 3 (c-(i+1)) (c-i)) ?_))
 go_wp2_with (simp only[Ik])
 go_ret
 refine⟨rfl,cur3,setRow_heap _ g cur1 _ 52 _ (setRow_heap w.drew g cur _ 52 _ hg),Oa,js,⟨rfl,rfl,rfl,by simp[World.setRow],fun k hk Og=>?_⟩⟩;have wK:k≠g:=fun e=>Og (by rw[e]);rw[_root_.Go.setRow_other _ g k _ wK,_root_.Go.setRow_other _ g k _ wK];rfl
set_option maxHeartbeats 4000000 in
set_option maxRecDepth 100000 in
theorem Il:Aa Tryz.prog 176 52 5:=fun w g c g2 c2 n i xs ys cur c7 hg gE km ug uQ mT nN kR C5 aW hi yk db hm h1 h2=>by
 have ht:Tryz.prog.underlying 38=some (.slice 52):=by kernel_rfl
 obtain⟨i0,z0,he⟩:=b7 (P:=Tryz.prog) (e:=52) (k:=.pair (.pair (.int .i64) (.int .i64)) (.pair (.sl (.pair (.pair (.int .i64) (.int .i64)) (.int .i64))) (.pair .str (.int .i64)))) (by kernel_rfl);obtain⟨G,sM,row2,row3,W1,TI,xq,zu,qJ,KD,KE,Oa,Od,F4,js⟩:=xp (sz:=5) rfl (by decide) ht (by kernel_rfl) he w g c g2 c2 n i xs ys cur c7 hg gE km ug uQ mT nN kR C5 aW hi yk db hm h1 h2;obtain⟨Km,KH,hw3,UD,qH,abt,hGi,abu,hci,hb3,zG,JC⟩:=xt hi yk db hm Od;unfold eE at hm;clear km kR;have mixed:Tryz.prog.follows .mixedOrders=true:=by kernel_rfl
 go_enter Tryz.func176,Tryz.ntmps176
 go_wp2_with (first
  |(at_builtin;refine Lib.wpList_append_run _ rfl _ _ _ _ rfl _ _ rfl rfl _ _ (TI _) ?_)
  |(at_builtin;refine wpList_copy_runI _ rfl _ _ 38 38 rfl _ _ rfl rfl (KD _ (by rfl) _ _ _) ?_))
 go_region_law (go_loud (refine step_copy_runI rfl _ _ 38 38 rfl (.slice (some ⟨w.heap.size,(i+1)*5,none⟩) (n-i) (G-(i+1))) (.slice (some ⟨g,i*5,none⟩) (n-i) (c-i)) (by simp[Act.eval,Act.put]) (by simp[Act.eval,Act.put]) (KE (W1.setRow w.heap.size row2).drew rfl 3 (G-(i+1)) (c-i)) ?_))
 go_wp2
 go_ret
 refine⟨G,rfl,row3,setRow_heap _ w.heap.size row2 _ 52 _ (setRow_heap W1 w.heap.size sM _ 52 _ xq),by omega,Od,F4,js,⟨qJ.os,qJ.tape,qJ.output,by have:=qJ.size;simpa[World.setRow] using this,fun k hk _=>?_⟩⟩;rw[_root_.Go.setRow_other _ w.heap.size k _ (Nat.ne_of_lt hk)];exact(_root_.Go.setRow_other W1 w.heap.size k _ (Nat.ne_of_lt hk)).trans (zu k hk)
theorem XV:B6 Tryz.prog 176 52 5:=KF KG F5 Il
def KI(P:Program)(f:FuncId)(e:TypeId)(size:Nat):Prop :=∀(w:World) (v:Value) (n i j:Nat) (xs:List Value),dx w e size v n xs→i<j→j≤n→n≤eE→(∀q∈xs,q.oneCell'=true) → Calls P f #[v,.int .i64 i,.int .i64 j] w fun en w'=>∃v',en=.returned v'∧dx w' e size v' (i+(n-j)) (xs.take (i*size)++xs.drop (j*size))∧w.grownBy w' (ob v)∧ob v'=ob v
theorem iE{P:Program}{ops:Array Oper}{o:Oper}{a:Act}{w:World}{K:Act→World→Prop}{Q:Exit→Act→World→Prop}{E:Prop} (hg:o.guard=none) (d x:Operand) (dT sT:TypeId) (C3:o.op=Op.call { callee:=Callee.builtin Builtin.append,args:=#[d,x],argTypes:=#[dT,sT] }) (v u:Value) (hd:a.eval d=v) (hx:a.eval x=u) {v':Value} {w':World} (hr:(Builtin.append_ #[dT,sT] o.type #[v,u]).run P w=.ok v' w') (hK:K (a.put o.dst v') w') :
  if Region.wanted o (yielded ops a.tmps)=true then Oper.wp P o a w K Q else E:=by
 have hw:Region.wanted o (yielded ops a.tmps)=true:=by simp[Region.wanted,hg]
 rw[if_pos hw];unfold Oper.wp;simp[execOp,C3,resolve,invoke,builtin,hd,hx,hr,Result.andThen];exact hK
theorem Im{α:Type}{cur xs cur1 c7 zs:List α}{i j n sz:Nat}(km:cur.take (n*sz)=xs)(hl:n*sz≤cur.length)(AT:i≤j)(Po:j≤n) (h1:cur1=cur.take (i*sz)++xs.drop (j*sz)++cur.drop (i*sz+(xs.drop (j*sz)).length)) (h2:c7=cur1.take ((i+(n-j))*sz)++zs++cur1.drop ((i+(n-j))*sz+zs.length)) :
  c7.take ((i+(n-j))*sz)=xs.take (i*sz)++xs.drop (j*sz):=by
 have ha:i*sz≤j*sz:=acs _ AT;have hb:j*sz≤n*sz:=acs _ Po;rw[Nat.add_mul,Nat.sub_mul]at h2 ⊢;have ug:xs.length=n*sz:=by rw[←km,List.length_take];omega
 generalize i*sz=a at *;generalize j*sz=b at *;generalize n*sz=c at *;have e0:cur.take a=xs.take a:=by rw[←km,List.take_take];congr 1;omega
 have e1:cur1.take (a+(c-b))=xs.take a++xs.drop b:=by rw[h1,e0];exact List.take_left' (by simp only[List.length_append,List.length_take,List.length_drop];omega)
 rw[h2,e1,List.append_assoc];exact List.take_left' (by simp only[List.length_append,List.length_take,List.length_drop];omega)
set_option maxHeartbeats 4000000 in
set_option maxRecDepth 100000 in
theorem Io(w:World)(g c n i j X:Nat)(xs:List Value)(cur:Array Value)(hg:w.heap[g]? = some (.cells cur 52 (0,0)))(gE:cur.size=c*5)(km:cur.toList.take (n*5)=xs)(ug:xs.length=n*5) (AT:i<j) (Po:j≤n) (yk:n≤c) (hc:c≤maxLen) (hX:if c=j then X=0 else X=j*5)
  (h1:∀q∈xs,q.oneCell'=true) :
  Calls Tryz.prog 177 #[.slice (some ⟨g,0,none⟩) n c,.int .i64 i,.int .i64 j] w fun en w'=>en=.returned (.slice (some ⟨g,0,none⟩) (i+(n-j)) c) ∧ ∃fV:Array Value,w'.heap[g]? = some (.cells fV 52 (0,0))∧fV.size=cur.size∧fV.toList.take ((i+(n-j))*5)=xs.take (i*5)++xs.drop (j*5)∧w.grownBy w' (some g):=by
 have ht:Tryz.prog.underlying 38=some (.slice 52):=by kernel_rfl
 have hz:(Tryz.prog.info? 52).map (·.size)=some 5:=by kernel_rfl
 obtain⟨zs,zH⟩:∃zs,Aq Tryz.prog 52=some zs:=acv.1 (by kernel_rfl);obtain⟨i0,z0,XW,T5,rfl,ve⟩:=pz zH;obtain⟨i1,z1,he⟩:=b7 (P:=Tryz.prog) (e:=52) (k:=.pair (.pair (.int .i64) (.int .i64)) (.pair (.sl (.pair (.pair (.int .i64) (.int .i64)) (.int .i64))) (.pair .str (.int .i64)))) (by kernel_rfl);have ei:i1=i0:=by have:=he.info;rw[XW]at this;cases this;rfl
 subst ei;have ez:z1=z0:=by have:=he.zero;rw[T5]at this;cases this;rfl
 subst ez;have GM:z1.cells.size=5:=he.u9;clear he zH;have F3:(xs.drop (j*5)).length=(n-j)*5:=by rw[List.length_drop,ug];omega
 obtain⟨cur1,mD⟩:∃cur1:Array Value,cur1=(cur.toList.take (i*5)++xs.drop (j*5)++cur.toList.drop (i*5+(xs.drop (j*5)).length)).toArray:=⟨_,rfl⟩;have JM:cur1.size=cur.size:=by rw[mD];simp;omega
 have UC:∀ty sc,(Builtin.append_ #[38,38] ty #[.slice (some ⟨g,0,none⟩) i c,.slice (some ⟨g,X,none⟩) (n-j) sc]).run Tryz.prog w.drew=.ok (.slice (some ⟨g,0,none⟩) (i+(n-j)) c) (w.drew.setRow g cur1):=fun ty sc=>by
  by_cases Oh:c=j
  ·have hnj:n=j:=by omega
   have:n-j=0:=by omega
   rw[this]at F3 ⊢;have G2:xs.drop (j*5)=[]:=ace (by omega);rw[eZ ht XW _ _ _ (by omega) _ _,mD,G2];simp only[List.append_nil,List.length_nil,Nat.add_zero,List.take_append_drop,Array.toArray_toList];rw[setRow_self w.drew g cur 52 (0,0) hg]
  ·rw[if_neg Oh]at hX;subst hX;rw[mD];exact oK (P:=Tryz.prog) w.drew 38 ty 52 5 g i c ⟨g,j*5,none⟩ (n-j) sc cur (xs.drop (j*5)) ht hz hg F3 (uz (size:=5) (n:=n) (w:=w.drew) hg km (j*5)) (fun q hq=>h1 q (adW hq)) (by omega) (by omega)
 obtain⟨c7,wb⟩:∃c7:Array Value,c7=(cur1.toList.take ((i+(n-j))*5)++(Builtin.zeroCells z1.cells (j-i)).toList++cur1.toList.drop ((i+(n-j))*5+(Builtin.zeroCells z1.cells (j-i)).toList.length)).toArray:=⟨_,rfl⟩;have Zi:(Builtin.zeroCells z1.cells (j-i)).toList.length=(j-i)*5:=by simp[Builtin.zeroCells,GM]
 have LQ:c7.size=cur.size:=by rw[wb];simp[Zi];omega
 have rh:∀ty sc,(Builtin.clear_ #[38] ty #[.slice (some ⟨g,(i+(n-j))*5,none⟩) (n-(i+(n-j))) sc]).run Tryz.prog (w.drew.setRow g cur1)=.ok (.tuple #[]) ((w.drew.setRow g cur1).setRow g c7):=fun ty sc=>by have:=rE (P:=Tryz.prog) (w.drew.setRow g cur1) 38 ty 52 5 g ((i+(n-j))*5) (j-i) sc cur1 i1 z1 ht XW T5 GM ve (setRow_heap w.drew g cur _ 52 _ hg) (by omega) (by omega);rw[show n-(i+(n-j))=j-i by omega,this,wb]
 have js:c7.toList.take ((i+(n-j))*5)=xs.take (i*5)++xs.drop (j*5):=Im (cur1:=cur1.toList) km (by simp;omega) (by omega) Po (by rw[mD]) (by rw[wb]);clear mD wb km F3;have h63:c≤9223372036854775807:=by unfold maxLen at hc;omega
 have qH:i≤n:=by omega
 have hic:¬(c=i):=by omega
 have hjc:j≤c:=by omega
 have aW:¬((i:Int)=(j:Int)):=by omega
 have o5:i≤j:=by omega
 have afR:i≤c:=by omega
 have afS:i+(n-j)≤n:=by omega
 have afT:i+(n-j)≤c:=by omega
 have afU:¬(c=i+(n-j)):=by omega
 have afV:(i:Int)+((n-j:Nat):Int)≤(n:Int):=by omega
 have mixed:Tryz.prog.follows .mixedOrders=true:=by kernel_rfl
 by_cases Oh:c=j
 ·rw[if_pos Oh]at hX;subst hX;subst Oh;obtain rfl:n=c:=by omega
  simp only[Nat.sub_self,Nat.add_zero]at UC rh js ⊢
  go_enter Tryz.func177,Tryz.ntmps177
  go_wp2_with fail
  go_region_law (go_loud (refine iE rfl _ _ 38 38 rfl (.slice (some ⟨g,0,none⟩) i n) (.slice (some ⟨g,0,none⟩) 0 0) (by simp[Act.eval,Act.put]) (by simp[Act.eval,Act.put]) (UC 38 0) ?_))
  go_wp2_with (simp only[rh])
  go_ret
  refine⟨rfl,c7,setRow_heap _ g cur1 _ 52 _ (setRow_heap w.drew g cur _ 52 _ hg),LQ,js,⟨rfl,rfl,rfl,by simp[World.setRow],fun k hk Og=>?_⟩⟩;have wK:k≠g:=fun e=>Og (by rw[e]);rw[_root_.Go.setRow_other _ g k _ wK,_root_.Go.setRow_other _ g k _ wK];rfl
 ·rw[if_neg Oh]at hX;subst hX
  go_enter Tryz.func177,Tryz.ntmps177
  go_wp2_with fail
  go_region_law (go_loud (refine iE rfl _ _ 38 38 rfl (.slice (some ⟨g,0,none⟩) i c) (.slice (some ⟨g,j*5,none⟩) (n-j) (c-j)) (by simp[Act.eval,Act.put]) (by simp[Act.eval,Act.put]) (UC 38 (c-j)) ?_))
  go_wp2_with (simp only[rh])
  go_ret
  refine⟨rfl,c7,setRow_heap _ g cur1 _ 52 _ (setRow_heap w.drew g cur _ 52 _ hg),LQ,js,⟨rfl,rfl,rfl,by simp[World.setRow],fun k hk Og=>?_⟩⟩;have wK:k≠g:=fun e=>Og (by rw[e]);rw[_root_.Go.setRow_other _ g k _ wK,_root_.Go.setRow_other _ g k _ wK];rfl
theorem XX:KI Tryz.prog 177 52 5:=fun w v n i j xs hv AT Po hm h1=>by
 rcases hv.2 with⟨h0,_⟩|⟨g,c,cur,rfl,Ww,hg,yk,Oe,gE,km⟩
 ·omega
 have la:ob (.slice (some ⟨g,0,none⟩) n c)=some g:=by simp only[ob];rw[if_neg (by omega)]
 refine(Io w g c n i j (if c=j then 0 else j*5) xs cur hg gE km hv.1 AT Po yk Oe (by split<;>rfl) h1).mono fun en w' ⟨e1,fV,e2,e3,e4,e5⟩=>?_;refine⟨_,e1,⟨?_,.inr ⟨g,c,fV,rfl,Ww,e2,by omega,Oe,by rw[e3,gE],e4⟩⟩,by rw[la];exact e5,?_⟩
 ·have hl:=hv.1;simp only[List.length_append,List.length_take,List.length_drop];omega
 ·rw[la];simp only[ob];rw[if_neg (by omega)]
end Go.Vs
namespace Go.Vs
open Go.Proofs
variable {P:Program}
theorem B8{Z:Nat→Prop}{w:World}{k:K}{xs:List k.T}{vs:List Value}(hv:ku Z w k xs vs)(hl:vs.length=xs.length*k.sz):∀q∈vs,q.oneCell'=true:=fun q hq=>by
 obtain⟨p,hp⟩:=adX hq;have aF:p<vs.length:=(abr.1 hp).1;have hs:=k.gh;have hd:p / k.sz<xs.length:=Nat.div_lt_of_lt_mul (by rw[Nat.mul_comm];omega);have hr:=hv (p / k.sz) _ (abv hd);refine hr.one q ?_;have hm:=Nat.mod_add_div p k.sz;have hml:=Nat.mod_lt p hs;have:((vs.drop (p / k.sz*k.sz)).take k.sz)[p%k.sz]? = some q:=by rw[List.getElem?_take,if_pos hml,List.getElem?_drop,Nat.mul_comm,Nat.add_comm,hm,hp]
 exact acy this
theorem EF{Z:Nat→Prop}{w:World}{k:K}{xs:List k.T}{vs:List Value}(hv:ku Z w k xs vs)(n:Nat):ku Z w k (xs.take n) (vs.take (n*k.sz)):=fun i x hx=>by
 rw[List.getElem?_take]at hx
 split at hx
 ·rename_i hi;have:=hv i x hx;have e:((vs.take (n*k.sz)).drop (i*k.sz)).take k.sz=(vs.drop (i*k.sz)).take k.sz:=by rw[List.drop_take,List.take_take];congr 1;have:(i+1)*k.sz≤n*k.sz:=acs _ hi;rw[Nat.add_mul]at this;omega
  rw[e];exact this
 ·cases hx
theorem EG{Z:Nat→Prop}{w:World}{k:K}{xs:List k.T}{vs:List Value}(hv:ku Z w k xs vs)(n:Nat):ku Z w k (xs.drop n) (vs.drop (n*k.sz)):=fun i x hx=>by rw[List.getElem?_drop]at hx;have:=hv (n+i) x hx;rw[List.drop_drop,←Nat.add_mul];exact this
theorem uC{f:FuncId}{ty:TypeId}{k:K}(hr:B6 P f ty k.sz):gV P f (PF ty k):=by
 intro Z ψ h w B0 O N hh id e vs us g hB ba hN aX lZ qN A1 he;unfold PF at he
 split at he
 rotate_left
 ·cases he
 rename_i o i j
 split at he
 rotate_left
 ·cases he
 rename_i xs ys yl J4
 split at he
 ·cases he
 rename_i hoj;simp only[Option.some.injEq,Prod.mk.injEq]at he;obtain⟨ki,rfl⟩:=he;have hhg:hh.get=h:=lZ _ _ rfl;have TK:hh.get o=some (.own (.row ty k) xs):=jW yl;have hgj:hh.get j=some (.own (.row ty k) ys):=jW J4;simp only[an,au]at qN;obtain⟨v,_,rfl,⟨_,hv⟩,n,_,rfl,rfl,u,_,rfl,⟨_,hu⟩,rfl⟩:=qN;simp only[qW,Bool.and_eq_true,decide_eq_true_eq,bJ]at ki;obtain⟨h0,h1,h2,h3⟩:=ki;obtain⟨m,rfl⟩:∃m:Nat,i=m:=⟨i.toNat,by omega⟩;subst hhg;have hvo:v=ψ o:=hv (by rw[TK];simp);have huj:u=ψ j:=hu (by rw[hgj];simp);obtain⟨vs,QA,vj⟩:=g.row o (.row ty k) xs TK;obtain⟨iI,ho2,yj⟩:=g.row j (.row ty k) ys hgj;simp only[av,aD]at A1;have br:N id:=hN 0 (by omega);have aW:o≠id:=fun e=>A1.1 (e▸br);rw[h2]at ho2;subst hvo;subst huj;refine(hr w _ _ xs.length m vs iI QA ho2 (by omega) (by omega) (fun b hb zK=>hoj (g.apart o j b (by rw[TK];simp) (by rw[hgj];simp) hb zK)) (B8 vj QA.1) (B8 yj (by rw[ho2.1,h2]))).mono fun en w' ⟨v',e1,e2,e3,e4⟩=>?_;have kk:cE ψ hh.get w w':=cE.grown e3 (fun b e=>⟨o,by rw[TK];simp,e⟩);have sm:=kk.same g;have hlen:(fZ xs (m:Int) ys).length=xs.length+1:=by simp only[fZ,Int.toNat_natCast,List.length_append,List.length_take,List.length_drop];omega
 have htl:(vs.take (m*k.sz)).length=(xs.take m).length*k.sz:=by have:m*k.sz≤xs.length*k.sz:=acs _ (by omega);rw[List.length_take,List.length_take,QA.1,Nat.min_eq_left this,Nat.min_eq_left (by omega)]
 have mR:ku Z w k (fZ xs (m:Int) ys) (vs.take (m*k.sz)++(iI++vs.drop (m*k.sz))):=(EF vj m).append (yj.append (EG vj m) (by rw[ho2.1,h2])) htl;have El:=mX (N:=N) g hB id o br TK aW e3 (v:=v') (ok:=.row ty k) (y:=fZ xs m ys) ⟨_,by rw[hlen];exact e2,mR.AK sm⟩ e4 (fun i ty cs hb=>av.imp (p:=fun i=>¬N i) (q:=fun i=>i≠id) (fun a ha e=>ha (by rw[e];exact br)) (aX i ty cs hb));have hhp:Heap.get ((id,Ob.own (.row ty k) (fZ xs (m:Int) ys))::hh.del o)=dO (dO hh.get o none) id (some (.own (.row ty k) (fZ xs m ys))):=by rw[AQ,sd]
 refine⟨v',Z,dO ψ id v',e1,?_,?_⟩
 ·show Next Z ψ hh.get w B0 O N Z (dO ψ id v') (Heap.get ((id,Ob.own (.row ty k) (fZ xs (m:Int) ys))::hh.del o)) w';rw[hhp];exact El
 ·simp only[bq.v,au];exact⟨e2.one,fun _=>(aU _ _ _).symm⟩
theorem B9{f:FuncId}{ty:TypeId}{k:K}(hr:KI P f ty k.sz):gV P f (TV ty k):=by
 intro Z ψ h w B0 O N hh id e vs us g hB ba hN aX lZ qN A1 he;unfold TV at he
 split at he
 rotate_left
 ·cases he
 rename_i o i j
 split at he
 rotate_left
 ·cases he
 rename_i xs yl;simp only[Option.some.injEq,Prod.mk.injEq]at he;obtain⟨ki,rfl⟩:=he;have hhg:hh.get=h:=lZ _ _ rfl;have TK:hh.get o=some (.own (.row ty k) xs):=jW yl;simp only[an,au]at qN;obtain⟨v,_,rfl,⟨_,hv⟩,n,_,rfl,rfl,u,_,rfl,rfl,rfl⟩:=qN;simp only[jP,Bool.and_eq_true,decide_eq_true_eq,bJ]at ki;obtain⟨h0,h1,h2,h3⟩:=ki;obtain⟨m,rfl⟩:∃m:Nat,i=m:=⟨i.toNat,by omega⟩;obtain⟨q,rfl⟩:∃m:Nat,j=m:=⟨j.toNat,by omega⟩;subst hhg;have hvo:v=ψ o:=hv (by rw[TK];simp);obtain⟨vs,QA,vj⟩:=g.row o (.row ty k) xs TK;simp only[av,aD]at A1;have br:N id:=hN 0 (by omega);have aW:o≠id:=fun e=>A1.1 (e▸br);subst hvo;refine(hr w _ xs.length m q vs QA (by omega) (by omega) (by omega) (B8 vj QA.1)).mono fun en w' ⟨v',e1,e2,e3,e4⟩=>?_;have kk:cE ψ hh.get w w':=cE.grown e3 (fun b e=>⟨o,by rw[TK];simp,e⟩);have sm:=kk.same g;have hlen:(dh xs (m:Int) q).length=m+(xs.length-q):=by simp only[dh,Int.toNat_natCast,List.length_append,List.length_take,List.length_drop];omega
 have htl:(vs.take (m*k.sz)).length=(xs.take m).length*k.sz:=by have:m*k.sz≤xs.length*k.sz:=acs _ (by omega);rw[List.length_take,List.length_take,QA.1,Nat.min_eq_left this,Nat.min_eq_left (by omega)]
 have mR:ku Z w k (dh xs (m:Int) q) (vs.take (m*k.sz)++vs.drop (q*k.sz)):=(EF vj m).append (EG vj q) htl;have El:=mX (N:=N) g hB id o br TK aW e3 (v:=v') (ok:=.row ty k) (y:=dh xs m q) ⟨_,by rw[hlen];exact e2,mR.AK sm⟩ (.inl e4) (fun i ty cs hb=>av.imp (p:=fun i=>¬N i) (q:=fun i=>i≠id) (fun a ha e=>ha (by rw[e];exact br)) (aX i ty cs hb));have hhp:Heap.get ((id,Ob.own (.row ty k) (dh xs (m:Int) q))::hh.del o)=dO (dO hh.get o none) id (some (.own (.row ty k) (dh xs m q))):=by rw[AQ,sd]
 refine⟨v',Z,dO ψ id v',e1,?_,?_⟩
 ·show Next Z ψ hh.get w B0 O N Z (dO ψ id v') (Heap.get ((id,Ob.own (.row ty k) (dh xs (m:Int) q))::hh.del o)) w';rw[hhp];exact El
 ·simp only[bq.v,au];exact⟨e2.one,fun _=>(aU _ _ _).symm⟩
end Go.Vs
namespace Go.Vs
open Go.Proofs Go.RowKit
set_option maxHeartbeats 4000000 in
set_option maxRecDepth 100000 in
theorem KJ:FZ Tryz.prog 211 118 4:=fun w v u n xs ys hv hu hm h1=>by
 have ht:Tryz.prog.underlying 39=some (.slice 118):=by kernel_rfl
 obtain⟨i0,z0,he⟩:=b7 (P:=Tryz.prog) (e:=118) (k:=.pair (.pair (.int .i64) (.int .i64)) (.pair .str (.int .i64))) (by kernel_rfl);have wW:=F2 hu h1;obtain⟨v',w',cJ,h4,h5,h6⟩:=dD (P:=Tryz.prog) (ty:=39) ht he hv wW hm;obtain⟨A,c,rfl⟩:=hv.slice;have yk:n≤c:=by
  rcases hv.2 with⟨h0,A,e⟩|⟨g,cap,cur,e,hc,h2,h3,_⟩
  ·omega
  ·cases e;exact h3
 obtain⟨B,cu,rfl⟩:=hu.slice;have abp:n≤1073741824:=by unfold eE at hm;omega
 go_enter Tryz.func211,Tryz.ntmps211
 go_wp2_with (at_builtin;refine Lib.wpList_append_run _ rfl _ _ _ _ rfl _ _ rfl rfl _ _ cJ ?_)
 all_goals go_ret
 all_goals first|exact⟨_,rfl,h4,h5,h6⟩|(subst_vars;exact⟨_,rfl,h4,h5,h6⟩)
set_option maxHeartbeats 4000000 in
set_option maxRecDepth 100000 in
theorem F6:wa Tryz.prog 211 118 4:=fun w g c g2 c2 n i xs ys cur c7 hg gE km ug uQ mT nN kR C5 aW hi db hc h1 h2=>by
 have ht:Tryz.prog.underlying 39=some (.slice 118):=by kernel_rfl
 have hz:(Tryz.prog.info? 118).map (·.size)=some 4:=by kernel_rfl
 have zH:∀w,(Go.sizeOf 118).run Tryz.prog w=.ok 4 w:=fun w=>by
  cases hq:Tryz.prog.info? 118 with
  |none=>rw[hq]at hz;cases hz
  |some i=>rw[hq]at hz;simp at hz;simp[sizeOf,typeInfo,hq,hz]
 have TJ:∀a2 lb cb,(callFunc 228 #[.slice (some ⟨g2,0,none⟩) 1 c2,.slice (some ⟨g,a2,none⟩) lb cb]).run Tryz.prog w=.ok (.value (.bool false)) w:=fun a2 lb cb=>by rw[run_callFunc_extern Tryz.func228 (by kernel_rfl) (by kernel_rfl) (by kernel_rfl) (e:=Extern.SlicesOverlaps.overlaps #[39,39] #[4]) (by kernel_rfl),Lib.run_overlaps_apart w 39 4 118 ht 4 zH ⟨g2,0,none⟩ ⟨g,a2,none⟩ 1 c2 lb cb aW 118 118 c7.size cur.size (by simp[World.shape?,uQ]) (by simp[World.shape?,hg]) (by omega) (by simp[World.frozen?,uQ]) (by simp[World.frozen?,uQ])];rfl
 obtain⟨cur1,cur3,KB,Ik,Oa,js⟩:=uA ht hz w g c g2 c2 n i xs ys cur c7 hg gE km ug uQ mT nN kR C5 aW hi db hc h1 h2;have h63:c≤9223372036854775807:=by unfold maxLen at hc;omega
 obtain⟨Km,KH,UD,qH,Zh,zK,hb3,hb4,zG,JC⟩:=uB hi db hc;clear km kR;have mixed:Tryz.prog.follows .mixedOrders=true:=by kernel_rfl
 go_enter Tryz.func211,Tryz.ntmps211
 go_wp2_with (simp only[TJ])
 go_region_law (go_loud (refine step_copy_runI rfl _ _ 39 39 rfl (.slice (some ⟨g,(i+1)*4,none⟩) (n-i) (c-(i+1))) (.slice (some ⟨g,i*4,none⟩) (n+1-i) (c-i)) (by simp[Act.eval,Act.put]) (by simp[Act.eval,Act.put]) (KB w.drew rfl 3 (c-(i+1)) (c-i)) ?_))
 go_wp2_with (simp only[Ik])
 go_ret
 refine⟨rfl,cur3,setRow_heap _ g cur1 _ 118 _ (setRow_heap w.drew g cur _ 118 _ hg),Oa,js,⟨rfl,rfl,rfl,by simp[World.setRow],fun k hk Og=>?_⟩⟩;have wK:k≠g:=fun e=>Og (by rw[e]);rw[_root_.Go.setRow_other _ g k _ wK,_root_.Go.setRow_other _ g k _ wK];rfl
set_option maxHeartbeats 4000000 in
set_option maxRecDepth 100000 in
theorem Ip:Aa Tryz.prog 211 118 4:=fun w g c g2 c2 n i xs ys cur c7 hg gE km ug uQ mT nN kR C5 aW hi yk db hm h1 h2=>by
 have ht:Tryz.prog.underlying 39=some (.slice 118):=by kernel_rfl
 obtain⟨i0,z0,he⟩:=b7 (P:=Tryz.prog) (e:=118) (k:=.pair (.pair (.int .i64) (.int .i64)) (.pair .str (.int .i64))) (by kernel_rfl);obtain⟨G,sM,row2,row3,W1,TI,xq,zu,qJ,KD,KE,Oa,Od,F4,js⟩:=xp (sz:=4) rfl (by decide) ht (by kernel_rfl) he w g c g2 c2 n i xs ys cur c7 hg gE km ug uQ mT nN kR C5 aW hi yk db hm h1 h2;obtain⟨Km,KH,hw3,UD,qH,abt,hGi,abu,hci,hb3,zG,JC⟩:=xt hi yk db hm Od;unfold eE at hm;clear km kR;have mixed:Tryz.prog.follows .mixedOrders=true:=by kernel_rfl
 go_enter Tryz.func211,Tryz.ntmps211
 go_wp2_with (first
  |(at_builtin;refine Lib.wpList_append_run _ rfl _ _ _ _ rfl _ _ rfl rfl _ _ (TI _) ?_)
  |(at_builtin;refine wpList_copy_runI _ rfl _ _ 39 39 rfl _ _ rfl rfl (KD _ (by rfl) _ _ _) ?_))
 go_region_law (go_loud (refine step_copy_runI rfl _ _ 39 39 rfl (.slice (some ⟨w.heap.size,(i+1)*4,none⟩) (n-i) (G-(i+1))) (.slice (some ⟨g,i*4,none⟩) (n-i) (c-i)) (by simp[Act.eval,Act.put]) (by simp[Act.eval,Act.put]) (KE (W1.setRow w.heap.size row2).drew rfl 3 (G-(i+1)) (c-i)) ?_))
 go_wp2
 go_ret
 refine⟨G,rfl,row3,setRow_heap _ w.heap.size row2 _ 118 _ (setRow_heap W1 w.heap.size sM _ 118 _ xq),by omega,Od,F4,js,⟨qJ.os,qJ.tape,qJ.output,by have:=qJ.size;simpa[World.setRow] using this,fun k hk _=>?_⟩⟩;rw[_root_.Go.setRow_other _ w.heap.size k _ (Nat.ne_of_lt hk)];exact(_root_.Go.setRow_other W1 w.heap.size k _ (Nat.ne_of_lt hk)).trans (zu k hk)
theorem XY:B6 Tryz.prog 211 118 4:=KF KJ F6 Ip
set_option maxHeartbeats 4000000 in
set_option maxRecDepth 100000 in
theorem Iq(w:World)(g c n i j X:Nat)(xs:List Value)(cur:Array Value)(hg:w.heap[g]? = some (.cells cur 118 (0,0)))(gE:cur.size=c*4)(km:cur.toList.take (n*4)=xs)(ug:xs.length=n*4) (AT:i<j) (Po:j≤n) (yk:n≤c) (hc:c≤maxLen) (hX:if c=j then X=0 else X=j*4)
  (h1:∀q∈xs,q.oneCell'=true) :
  Calls Tryz.prog 186 #[.slice (some ⟨g,0,none⟩) n c,.int .i64 i,.int .i64 j] w fun en w'=>en=.returned (.slice (some ⟨g,0,none⟩) (i+(n-j)) c) ∧ ∃fV:Array Value,w'.heap[g]? = some (.cells fV 118 (0,0))∧fV.size=cur.size∧fV.toList.take ((i+(n-j))*4)=xs.take (i*4)++xs.drop (j*4)∧w.grownBy w' (some g):=by
 have ht:Tryz.prog.underlying 39=some (.slice 118):=by kernel_rfl
 have hz:(Tryz.prog.info? 118).map (·.size)=some 4:=by kernel_rfl
 obtain⟨zs,zH⟩:∃zs,Aq Tryz.prog 118=some zs:=acv.1 (by kernel_rfl);obtain⟨i0,z0,XW,T5,rfl,ve⟩:=pz zH;obtain⟨i1,z1,he⟩:=b7 (P:=Tryz.prog) (e:=118) (k:=.pair (.pair (.int .i64) (.int .i64)) (.pair .str (.int .i64))) (by kernel_rfl);have ei:i1=i0:=by have:=he.info;rw[XW]at this;cases this;rfl
 subst ei;have ez:z1=z0:=by have:=he.zero;rw[T5]at this;cases this;rfl
 subst ez;have GM:z1.cells.size=4:=he.u9;clear he zH;have F3:(xs.drop (j*4)).length=(n-j)*4:=by rw[List.length_drop,ug];omega
 obtain⟨cur1,mD⟩:∃cur1:Array Value,cur1=(cur.toList.take (i*4)++xs.drop (j*4)++cur.toList.drop (i*4+(xs.drop (j*4)).length)).toArray:=⟨_,rfl⟩;have JM:cur1.size=cur.size:=by rw[mD];simp;omega
 have UC:∀ty sc,(Builtin.append_ #[39,39] ty #[.slice (some ⟨g,0,none⟩) i c,.slice (some ⟨g,X,none⟩) (n-j) sc]).run Tryz.prog w.drew=.ok (.slice (some ⟨g,0,none⟩) (i+(n-j)) c) (w.drew.setRow g cur1):=fun ty sc=>by
  by_cases Oh:c=j
  ·have hnj:n=j:=by omega
   have:n-j=0:=by omega
   rw[this]at F3 ⊢;have G2:xs.drop (j*4)=[]:=ace (by omega);rw[eZ ht XW _ _ _ (by omega) _ _,mD,G2];simp only[List.append_nil,List.length_nil,Nat.add_zero,List.take_append_drop,Array.toArray_toList];rw[setRow_self w.drew g cur 118 (0,0) hg]
  ·rw[if_neg Oh]at hX;subst hX;rw[mD];exact oK (P:=Tryz.prog) w.drew 39 ty 118 4 g i c ⟨g,j*4,none⟩ (n-j) sc cur (xs.drop (j*4)) ht hz hg F3 (uz (size:=4) (n:=n) (w:=w.drew) hg km (j*4)) (fun q hq=>h1 q (adW hq)) (by omega) (by omega)
 obtain⟨c7,wb⟩:∃c7:Array Value,c7=(cur1.toList.take ((i+(n-j))*4)++(Builtin.zeroCells z1.cells (j-i)).toList++cur1.toList.drop ((i+(n-j))*4+(Builtin.zeroCells z1.cells (j-i)).toList.length)).toArray:=⟨_,rfl⟩;have Zi:(Builtin.zeroCells z1.cells (j-i)).toList.length=(j-i)*4:=by simp[Builtin.zeroCells,GM]
 have LQ:c7.size=cur.size:=by rw[wb];simp[Zi];omega
 have rh:∀ty sc,(Builtin.clear_ #[39] ty #[.slice (some ⟨g,(i+(n-j))*4,none⟩) (n-(i+(n-j))) sc]).run Tryz.prog (w.drew.setRow g cur1)=.ok (.tuple #[]) ((w.drew.setRow g cur1).setRow g c7):=fun ty sc=>by have:=rE (P:=Tryz.prog) (w.drew.setRow g cur1) 39 ty 118 4 g ((i+(n-j))*4) (j-i) sc cur1 i1 z1 ht XW T5 GM ve (setRow_heap w.drew g cur _ 118 _ hg) (by omega) (by omega);rw[show n-(i+(n-j))=j-i by omega,this,wb]
 have js:c7.toList.take ((i+(n-j))*4)=xs.take (i*4)++xs.drop (j*4):=Im (cur1:=cur1.toList) km (by simp;omega) (by omega) Po (by rw[mD]) (by rw[wb]);clear mD wb km F3;have h63:c≤9223372036854775807:=by unfold maxLen at hc;omega
 have qH:i≤n:=by omega
 have hic:¬(c=i):=by omega
 have hjc:j≤c:=by omega
 have aW:¬((i:Int)=(j:Int)):=by omega
 have o5:i≤j:=by omega
 have afR:i≤c:=by omega
 have afS:i+(n-j)≤n:=by omega
 have afT:i+(n-j)≤c:=by omega
 have afU:¬(c=i+(n-j)):=by omega
 have afV:(i:Int)+((n-j:Nat):Int)≤(n:Int):=by omega
 have mixed:Tryz.prog.follows .mixedOrders=true:=by kernel_rfl
 by_cases Oh:c=j
 ·rw[if_pos Oh]at hX;subst hX;subst Oh;obtain rfl:n=c:=by omega
  simp only[Nat.sub_self,Nat.add_zero]at UC rh js ⊢
  go_enter Tryz.func186,Tryz.ntmps186
  go_wp2_with fail
  go_region_law (go_loud (refine iE rfl _ _ 39 39 rfl (.slice (some ⟨g,0,none⟩) i n) (.slice (some ⟨g,0,none⟩) 0 0) (by simp[Act.eval,Act.put]) (by simp[Act.eval,Act.put]) (UC 39 0) ?_))
  go_wp2_with (simp only[rh])
  go_ret
  refine⟨rfl,c7,setRow_heap _ g cur1 _ 118 _ (setRow_heap w.drew g cur _ 118 _ hg),LQ,js,⟨rfl,rfl,rfl,by simp[World.setRow],fun k hk Og=>?_⟩⟩;have wK:k≠g:=fun e=>Og (by rw[e]);rw[_root_.Go.setRow_other _ g k _ wK,_root_.Go.setRow_other _ g k _ wK];rfl
 ·rw[if_neg Oh]at hX;subst hX
  go_enter Tryz.func186,Tryz.ntmps186
  go_wp2_with fail
  go_region_law (go_loud (refine iE rfl _ _ 39 39 rfl (.slice (some ⟨g,0,none⟩) i c) (.slice (some ⟨g,j*4,none⟩) (n-j) (c-j)) (by simp[Act.eval,Act.put]) (by simp[Act.eval,Act.put]) (UC 39 (c-j)) ?_))
  go_wp2_with (simp only[rh])
  go_ret
  refine⟨rfl,c7,setRow_heap _ g cur1 _ 118 _ (setRow_heap w.drew g cur _ 118 _ hg),LQ,js,⟨rfl,rfl,rfl,by simp[World.setRow],fun k hk Og=>?_⟩⟩;have wK:k≠g:=fun e=>Og (by rw[e]);rw[_root_.Go.setRow_other _ g k _ wK,_root_.Go.setRow_other _ g k _ wK];rfl
theorem XZ:KI Tryz.prog 186 118 4:=fun w v n i j xs hv AT Po hm h1=>by
 rcases hv.2 with⟨h0,_⟩|⟨g,c,cur,rfl,Ww,hg,yk,Oe,gE,km⟩
 ·omega
 have la:ob (.slice (some ⟨g,0,none⟩) n c)=some g:=by simp only[ob];rw[if_neg (by omega)]
 refine(Iq w g c n i j (if c=j then 0 else j*4) xs cur hg gE km hv.1 AT Po yk Oe (by split<;>rfl) h1).mono fun en w' ⟨e1,fV,e2,e3,e4,e5⟩=>?_;refine⟨_,e1,⟨?_,.inr ⟨g,c,fV,rfl,Ww,e2,by omega,Oe,by rw[e3,gE],e4⟩⟩,by rw[la];exact e5,?_⟩
 ·have hl:=hv.1;simp only[List.length_append,List.length_take,List.length_drop];omega
 ·rw[la];simp only[ob];rw[if_neg (by omega)]
set_option maxHeartbeats 4000000 in
set_option maxRecDepth 100000 in
theorem KK:FZ Tryz.prog 233 54 6:=fun w v u n xs ys hv hu hm h1=>by
 have ht:Tryz.prog.underlying 42=some (.slice 54):=by kernel_rfl
 obtain⟨i0,z0,he⟩:=b7 (P:=Tryz.prog) (e:=54) (k:=.pair (.pair (.pair (.int .i64) (.int .i64)) (.int .i64)) (.pair (.pair (.int .i64) (.int .i64)) (.int .i64))) (by kernel_rfl);have wW:=F2 hu h1;obtain⟨v',w',cJ,h4,h5,h6⟩:=dD (P:=Tryz.prog) (ty:=42) ht he hv wW hm;obtain⟨A,c,rfl⟩:=hv.slice;have yk:n≤c:=by
  rcases hv.2 with⟨h0,A,e⟩|⟨g,cap,cur,e,hc,h2,h3,_⟩
  ·omega
  ·cases e;exact h3
 obtain⟨B,cu,rfl⟩:=hu.slice;have abp:n≤1073741824:=by unfold eE at hm;omega
 go_enter Tryz.func233,Tryz.ntmps233
 go_wp2_with (at_builtin;refine Lib.wpList_append_run _ rfl _ _ _ _ rfl _ _ rfl rfl _ _ cJ ?_)
 all_goals go_ret
 all_goals first|exact⟨_,rfl,h4,h5,h6⟩|(subst_vars;exact⟨_,rfl,h4,h5,h6⟩)
set_option maxHeartbeats 4000000 in
set_option maxRecDepth 100000 in
theorem F7:wa Tryz.prog 233 54 6:=fun w g c g2 c2 n i xs ys cur c7 hg gE km ug uQ mT nN kR C5 aW hi db hc h1 h2=>by
 have ht:Tryz.prog.underlying 42=some (.slice 54):=by kernel_rfl
 have hz:(Tryz.prog.info? 54).map (·.size)=some 6:=by kernel_rfl
 have zH:∀w,(Go.sizeOf 54).run Tryz.prog w=.ok 6 w:=fun w=>by
  cases hq:Tryz.prog.info? 54 with
  |none=>rw[hq]at hz;cases hz
  |some i=>rw[hq]at hz;simp at hz;simp[sizeOf,typeInfo,hq,hz]
 have TJ:∀a2 lb cb,(callFunc 246 #[.slice (some ⟨g2,0,none⟩) 1 c2,.slice (some ⟨g,a2,none⟩) lb cb]).run Tryz.prog w=.ok (.value (.bool false)) w:=fun a2 lb cb=>by rw[run_callFunc_extern Tryz.func246 (by kernel_rfl) (by kernel_rfl) (by kernel_rfl) (e:=Extern.SlicesOverlaps.overlaps #[42,42] #[4]) (by kernel_rfl),Lib.run_overlaps_apart w 42 4 54 ht 6 zH ⟨g2,0,none⟩ ⟨g,a2,none⟩ 1 c2 lb cb aW 54 54 c7.size cur.size (by simp[World.shape?,uQ]) (by simp[World.shape?,hg]) (by omega) (by simp[World.frozen?,uQ]) (by simp[World.frozen?,uQ])];rfl
 obtain⟨cur1,cur3,KB,Ik,Oa,js⟩:=uA ht hz w g c g2 c2 n i xs ys cur c7 hg gE km ug uQ mT nN kR C5 aW hi db hc h1 h2;have h63:c≤9223372036854775807:=by unfold maxLen at hc;omega
 obtain⟨Km,KH,UD,qH,Zh,zK,hb3,hb4,zG,JC⟩:=uB hi db hc;clear km kR;have mixed:Tryz.prog.follows .mixedOrders=true:=by kernel_rfl
 go_enter Tryz.func233,Tryz.ntmps233
 go_wp2_with (simp only[TJ])
 go_region_law (go_loud (refine step_copy_runI rfl _ _ 42 42 rfl (.slice (some ⟨g,(i+1)*6,none⟩) (n-i) (c-(i+1))) (.slice (some ⟨g,i*6,none⟩) (n+1-i) (c-i)) (by simp[Act.eval,Act.put]) (by simp[Act.eval,Act.put]) (KB w.drew rfl 3 (c-(i+1)) (c-i)) ?_))
 go_wp2_with (simp only[Ik])
 go_ret
 refine⟨rfl,cur3,setRow_heap _ g cur1 _ 54 _ (setRow_heap w.drew g cur _ 54 _ hg),Oa,js,⟨rfl,rfl,rfl,by simp[World.setRow],fun k hk Og=>?_⟩⟩;have wK:k≠g:=fun e=>Og (by rw[e]);rw[_root_.Go.setRow_other _ g k _ wK,_root_.Go.setRow_other _ g k _ wK];rfl
set_option maxHeartbeats 4000000 in
set_option maxRecDepth 100000 in
theorem Ir:Aa Tryz.prog 233 54 6:=fun w g c g2 c2 n i xs ys cur c7 hg gE km ug uQ mT nN kR C5 aW hi yk db hm h1 h2=>by
 have ht:Tryz.prog.underlying 42=some (.slice 54):=by kernel_rfl
 obtain⟨i0,z0,he⟩:=b7 (P:=Tryz.prog) (e:=54) (k:=.pair (.pair (.pair (.int .i64) (.int .i64)) (.int .i64)) (.pair (.pair (.int .i64) (.int .i64)) (.int .i64))) (by kernel_rfl);obtain⟨G,sM,row2,row3,W1,TI,xq,zu,qJ,KD,KE,Oa,Od,F4,js⟩:=xp (sz:=6) rfl (by decide) ht (by kernel_rfl) he w g c g2 c2 n i xs ys cur c7 hg gE km ug uQ mT nN kR C5 aW hi yk db hm h1 h2;obtain⟨Km,KH,hw3,UD,qH,abt,hGi,abu,hci,hb3,zG,JC⟩:=xt hi yk db hm Od;unfold eE at hm;clear km kR;have mixed:Tryz.prog.follows .mixedOrders=true:=by kernel_rfl
 go_enter Tryz.func233,Tryz.ntmps233
 go_wp2_with (first
  |(at_builtin;refine Lib.wpList_append_run _ rfl _ _ _ _ rfl _ _ rfl rfl _ _ (TI _) ?_)
  |(at_builtin;refine wpList_copy_runI _ rfl _ _ 42 42 rfl _ _ rfl rfl (KD _ (by rfl) _ _ _) ?_))
 go_region_law (go_loud (refine step_copy_runI rfl _ _ 42 42 rfl (.slice (some ⟨w.heap.size,(i+1)*6,none⟩) (n-i) (G-(i+1))) (.slice (some ⟨g,i*6,none⟩) (n-i) (c-i)) (by simp[Act.eval,Act.put]) (by simp[Act.eval,Act.put]) (KE (W1.setRow w.heap.size row2).drew rfl 3 (G-(i+1)) (c-i)) ?_))
 go_wp2
 go_ret
 refine⟨G,rfl,row3,setRow_heap _ w.heap.size row2 _ 54 _ (setRow_heap W1 w.heap.size sM _ 54 _ xq),by omega,Od,F4,js,⟨qJ.os,qJ.tape,qJ.output,by have:=qJ.size;simpa[World.setRow] using this,fun k hk _=>?_⟩⟩;rw[_root_.Go.setRow_other _ w.heap.size k _ (Nat.ne_of_lt hk)];exact(_root_.Go.setRow_other W1 w.heap.size k _ (Nat.ne_of_lt hk)).trans (zu k hk)
theorem X0:B6 Tryz.prog 233 54 6:=KF KK F7 Ir
def Mh(P:Program)(f:FuncId)(e:TypeId)(size:Nat):Prop :=∀(w:World) (n:Nat),n≤eE→Calls P f #[.slice none 0 0,.int .i64 n] w fun en w'=>∃v',en=.returned v'∧dx w' e size v' 0 []∧w.grownBy w' none∧∀b,ob v'=some b→w.heap.size≤b
set_option maxHeartbeats 4000000 in
set_option maxRecDepth 100000 in
theorem UE:Mh Tryz.prog 220 33 3:=fun w n hm=>by
 have ht:Tryz.prog.underlying 50=some (.slice 33):=by kernel_rfl
 have Zh:Tryz.prog.underlying 3=some (.int .i64):=by kernel_rfl
 obtain⟨i0,z0,he⟩:=b7 (P:=Tryz.prog) (e:=33) (k:=.pair (.pair (.int .i64) (.int .i64)) (.int .i64)) (by kernel_rfl);have GM:z0.cells.size=3:=he.u9;have zH:i0.size=3:=he.size;have Ij:=he.bytes;unfold eE at hm;by_cases hn:n=0
 ·subst hn;have la:ob (.slice none 0 0)=none:=rfl
  go_enter Tryz.func220,Tryz.ntmps220
  go_wp2
  go_ret
  exact⟨_,rfl,⟨by simp,.inl ⟨rfl,none,rfl⟩⟩,World.grownBy.refl w _,fun b hb=>by simp[ob]at hb⟩
 ·have py:n*i0.bytes≤281474976710656:=acB (aeh hm Ij) (by decide);obtain⟨G,hG⟩:∃G,G=grownCap w n 0 33:=⟨_,rfl⟩;obtain⟨sM,KC⟩:∃sM,sM=Builtin.zeroCells z0.cells n++Builtin.zeroCells z0.cells (G-n):=⟨_,rfl⟩;obtain⟨W1,B7⟩:∃W1,W1=w.drew.alloc (.cells sM 33):=⟨_,rfl⟩;have TI:∀ty,(Builtin.append_ #[50,3] ty #[.slice none 0 0,.int .i64 n]).run Tryz.prog w=.ok (.slice (some ⟨w.heap.size,0,none⟩) n G) W1:=fun ty=>by rw[B7,KC,hG];exact Lib.run_append_nil_zeros w 50 3 ty 33 i0 z0 .i64 .i64 ht Zh he.info he.zero n (by omega) (by omega) (by omega) py
  have Od:n≤G:=by rw[hG];exact grownCap_ge w _ _ _
  have F4:G≤9223372036854775807:=by have:=grownCap_le_maxLen w n 0 33 (by unfold maxLen;omega);rw[←hG]at this;unfold maxLen at this;omega
  have hRs:sM.size=G*3:=by rw[KC];simp[Builtin.zeroCells,GM];omega
  have xq:W1.heap[w.heap.size]? = some (.cells sM 33 (0,0)):=by rw[B7];exact(MapKept.heap_alloc w.drew (.cells sM 33)).1
  have zu:∀b,b<w.heap.size→W1.heap[b]? = w.heap[b]? := fun b hb=>by rw[B7];exact(Below.heap_alloc w.drew (.cells sM 33) b hb).trans rfl
  have qJ:w.grownBy W1 none:=⟨by rw[B7];rfl,by rw[B7];rfl,by rw[B7];rfl,by have:=(abX.1 xq).1;omega,fun k hk _=>zu k hk⟩;clear KC B7 hG;have hn0:¬((n:Int)<0):=by omega
  have ZY:0<(n:Int):=by omega
  have hn2:IntKind.i64.wrap (n:Int)=n:=by rw[IntKind.wrap_i64];omega
  have hG0:¬(G=0):=by omega
  go_enter Tryz.func220,Tryz.ntmps220
  go_wp2_with (at_builtin;refine Lib.wpList_append_run _ rfl _ _ _ _ rfl _ _ rfl rfl _ _ (TI _) ?_)
  go_ret
  refine⟨.slice (some ⟨w.heap.size,0,none⟩) 0 G,rfl,⟨by simp,.inr ⟨w.heap.size,G,sM,rfl,by omega,xq,by omega,F4,hRs,by simp⟩⟩,qJ,fun b hb=>?_⟩;simp only[ob]at hb;rw[if_neg (by omega)]at hb;cases hb;omega
theorem Is{P:Program}{f:FuncId}{ty:TypeId}{k:K}(hr:Mh P f ty k.sz):gV P f (PH ty k):=by
 intro Z ψ h w B0 O N hh id e vs us g hB ba hN aX lZ qN A1 he;unfold PH at he
 split at he
 rotate_left
 ·cases he
 rename_i n;simp only[Option.some.injEq,Prod.mk.injEq]at he;obtain⟨ki,rfl⟩:=he;simp only[Ax,Bool.and_eq_true,decide_eq_true_eq]at ki;obtain⟨h0,h1⟩:=ki;obtain⟨m,rfl⟩:∃m:Nat,n=m:=⟨n.toNat,by omega⟩;simp only[an,au]at qN;obtain⟨v,_,rfl,rfl,u,_,rfl,rfl,rfl⟩:=qN;have br:N id:=hN 0 (by omega);refine(hr w m (by omega)).mono fun en w' ⟨v',e1,e2,e3,e4⟩=>?_;have kk:cE ψ h w w':=cE.grown e3 (fun b e=>by cases e);have El:=oq (N:=N) g hB id ty br (k:=k) (xs:=[]) (vs:=[]) kk (fun b hb=>e3.block b (g.bF hb) (by simp)) e2 (fun i x hx=>by simp at hx) e4 (fun i ty cs hb=>av.imp (p:=fun i=>¬N i) (q:=fun i=>i≠id) (fun a ha e=>ha (by rw[e];exact br)) (aX i ty cs hb));refine⟨v',Z,dO ψ id v',e1,?_,?_⟩
 ·have hhp:(bq.new (.bC id) [(id,Ob.own (.row ty k) [])]).hp h=dO h id (some (.own (.row ty k) [])):=gj id _ h;rw[hhp];exact El
 ·simp only[bq.v,au];exact⟨e2.one,fun _=>(aU _ _ _).symm⟩
end Go.Vs
namespace Go.Vs
variable {P:Program}
def zw(P:Program)(g:TypeId→K→Bool):List Field→Nat→K→Bool
 |[],_,_=>false
 |[f],off,k=>(f.name != "_")&&(decide (f.offset=off)&&(decide (P.cellsOf f.type=k.sz)&&g f.type k))
 |f::f'::r,off,.pair a b=>(f.name != "_")&&(decide (f.offset=off)&&(decide (P.cellsOf f.type=a.sz)&&(g f.type a&&zw P g (f'::r) (off+a.sz) b)))
 |_,_,_=>false
def Rp(P:Program):Nat→TypeId→K→Bool
 |0,_,_=>false
 |d+1,t,k =>
  match P.underlying t,k with
  |some (.int a),.int b=>decide (a=b)
  |some .bool,.bool=>true
  |some .string,.str=>true
  |some (.struct fs),.pair a b => !P.stoodInHeld t&&zw P (Rp P d) fs.toList 0 (.pair a b)
  |_,_=>false
def VK(w:World)(Z:Nat→Prop):(k:K)→k.T→Value→Prop
 |.pair a b,x,v=>∃cs:Array Value,v=.agg cs∧aB Z w (.pair a b) x cs.toList
 |.one k,x,v=>False
 |k,x,v=>aB Z w k x [v]
theorem Ab{Z:Nat→Prop}{w:World}{d:Nat}{t:TypeId}{k:K}(hk:Rp P d t k=true)(hc:P.cellsOf t=k.sz){cs:Array Value}{off:Nat}{x:k.T}(hr:aB Z w k x ((cs.toList.drop off).take k.sz)) :
  ∃v,(part t cs off).run P w=.ok v w∧VK w Z k x v:=by
 cases d with
 |zero=>simp[Rp]at hk
 |succ d =>
  have plain:k.sz=1→(P.underlying t).map JO=some false→∃v,(part t cs off).run P w=.ok v w∧aB Z w k x [v]:=fun h1 h2=>by
   rw[h1]at hr;have hl:=hr.len;rw[h1,List.length_take,List.length_drop,Array.length_toList]at hl;have aF:off<cs.size:=by omega
   refine⟨cs[off],?_,?_⟩
   ·simp[part,gi h2,aF]
   ·have:(cs.toList.drop off).take 1=[cs[off]]:=by rw[List.drop_eq_getElem_cons (by simpa using aF)];simp
    rwa [this]at hr
  unfold Rp at hk
  split at hk
  ·rename_i a b hu;exact plain rfl (by rw[hu];rfl)
  ·rename_i hu;exact plain rfl (by rw[hu];rfl)
  ·rename_i hu;exact plain rfl (by rw[hu];rfl)
  ·rename_i fs a b hu;obtain⟨i,hi⟩:=tx hu;refine⟨.agg (cs.extract off (off+P.cellsOf t)),?_,_,rfl,?_⟩
   ·have h2:(P.underlying t).map JO=some true:=by rw[hu];rfl
    simp[part,gi h2,dn hi]
   ·rw[Array.toList_extract,hc];simpa[List.extract] using hr
  ·cases hk
def iZ(em:Bool)(d:Nat)(cs:Array Value):List Field→Sem Unit
 |[]=>pure ()
 |f::fs =>
  if f.name≠ "_" then do
   let a ←part f.type cs f.offset
   Instr.checkKey em d f.type a
   iZ em d cs fs
  else iZ em d cs fs
theorem tl(em:Bool)(w:World)(d:Nat)(t:TypeId)(cs:Array Value)(fs:Array Field)(ht:P.underlying t=some (.struct fs)) :
  (Instr.checkKey em (d+1) t (.agg cs)).run P w=(iZ em d cs fs.toList).run P w:=by
 simp only[Instr.checkKey,Sem.run_bind,run_underlying ht,Result.andThen_ok];rw[←Array.forIn_toList];generalize fs.toList=l;clear ht
 induction l generalizing w with
 |nil=>simp[iZ]
 |cons f fs ih =>
  simp only[List.forIn_cons,iZ,Sem.run_bind,Sem.run_ite]
  split
  ·generalize (part f.type cs f.offset).run P w=r1
   cases r1 with
   |ok a w1 =>
    simp only[Result.andThen_ok];generalize (Instr.checkKey em d f.type a).run P w1=r2
    cases r2 with
    |ok b w2 =>simp only[Result.andThen_ok,Sem.run_pure];exact ih w2
    |halt x w2=>simp[Result.andThen]
   |halt x w1=>simp[Result.andThen]
  ·simp only[Sem.run_pure,Result.andThen_ok];exact ih w
theorem It{Z:Nat→Prop}{D d:Nat}(em:Bool)(hg:∀t k,Rp P d t k=true→∀(w:World) (x y:k.T) (u v:Value),VK w Z k x u→VK w Z k y v→(Op.equalIn (D+d) t u v).run P w=.ok (rQ k x y) w∧(Instr.checkKey em (D+d) t u).run P w=.ok () w)(w:World)(xs ys:Array Value) :
  ∀(fs:List Field) (off:Nat) (k:K),zw P (Rp P d) fs off k=true→∀(x y:k.T),aB Z w k x ((xs.toList.drop off).take k.sz)→aB Z w k y ((ys.toList.drop off).take k.sz) →(Op.eqFields (D+d) xs ys fs).run P w=.ok (rQ k x y) w∧(iZ em (D+d) xs fs).run P w=.ok () w
 |[],_,_,h,_,_,_,_=>by simp[zw]at h
 |[f],off,k,h,x,y,hx,hy=>by
  have h':f.name≠ "_"∧f.offset=off∧P.cellsOf f.type=k.sz∧Rp P d f.type k=true:=by cases k<;>simpa[zw] using h
  obtain⟨h0,h1,h2,h3⟩:=h';subst h1;obtain⟨u,hu,hu'⟩:=Ab h3 h2 hx;obtain⟨v,hv,zn⟩:=Ab h3 h2 hy;obtain⟨e1,e2⟩:=hg _ _ h3 w x y u v hu' zn;constructor
  ·simp only[Op.eqFields,if_pos h0,Sem.run_bind,hu,hv,e1,Result.andThen_ok]
   cases rQ k x y<;>simp
  ·simp[iZ,h0,hu,e2]
 |f::f'::r,off,.pair a b,h,x,y,hx,hy=>by
  simp only[zw,Bool.and_eq_true,decide_eq_true_eq,bne_iff_ne,ne_eq]at h;obtain⟨h0,h1,h2,h3,h4⟩:=h;subst h1;simp only[aB,K.sz]at hx hy;obtain⟨us,ws,ex,Rq,ZJ⟩:=hx;obtain⟨iI,ws',ey,Wx,Wy⟩:=hy;have sp:∀(zs:Array Value) (us ws:List Value),us.length=a.sz→ws.length=b.sz→(zs.toList.drop f.offset).take (a.sz+b.sz)=us++ws→us=(zs.toList.drop f.offset).take a.sz∧ws=(zs.toList.drop (f.offset+a.sz)).take b.sz:=fun zs us ws l1 l2 e=>by
   rw[List.take_add,]at e;have hl:((zs.toList.drop f.offset).take a.sz).length=us.length:=by have:=congrArg List.length e;simp only[List.length_append,List.length_take,List.length_drop]at this ⊢;omega
   obtain⟨e1,e2⟩:=List.append_inj e hl;exact⟨e1.symm,by rw[←e2,List.drop_drop]⟩
  obtain⟨rfl,rfl⟩:=sp xs us ws Rq.len ZJ.len ex;obtain⟨rfl,rfl⟩:=sp ys iI ws' Wx.len Wy.len ey;obtain⟨u,hu,hu'⟩:=Ab h3 h2 Rq;obtain⟨v,hv,zn⟩:=Ab h3 h2 Wx;obtain⟨e1,e2⟩:=hg _ _ h3 w x.1 y.1 u v hu' zn;obtain⟨e3,e4⟩:=It em hg w xs ys (f'::r) (f.offset+a.sz) b h4 x.2 y.2 ZJ Wy;constructor
  ·rw[Op.eqFields,if_pos h0];simp only[Sem.run_bind,hu,hv,e1,Result.andThen_ok,Sem.run_ite,e3,rQ]
   cases rQ a x.1 y.1<;>simp
  ·rw[iZ,if_pos h0];simp only[Sem.run_bind,hu,e2,Result.andThen_ok];exact e4
 |f::f'::r,off,.int _,h,_,_,_,_=>by simp[zw]at h
 |f::f'::r,off,.bool,h,_,_,_,_=>by simp[zw]at h
 |f::f'::r,off,.str,h,_,_,_,_=>by simp[zw]at h
 |f::f'::r,off,.sl _,h,_,_,_,_=>by simp[zw]at h
 |f::f'::r,off,.one _,h,_,_,_,_=>by simp[zw]at h
 |f::f'::r,off,.mp _ _,h,_,_,_,_=>by simp[zw]at h
theorem Mi{Z:Nat→Prop}(D:Nat)(em:Bool):∀(d:Nat) (t:TypeId) (k:K),Rp P d t k=true→∀(w:World) (x y:k.T) (u v:Value),VK w Z k x u→VK w Z k y v →(Op.equalIn (D+d) t u v).run P w=.ok (rQ k x y) w∧(Instr.checkKey em (D+d) t u).run P w=.ok () w
 |0,_,_,h,_,_,_,_,_,_,_=>by simp[Rp]at h
 |d+1,t,k,h,w,x,y,u,v,hu,hv=>by
  rw[←Nat.add_assoc];unfold Rp at h
  split at h
  ·rename_i a b ht;simp only[decide_eq_true_eq]at h;subst h;simp only[VK,aB,List.cons.injEq,and_true]at hu hv;subst hu;subst hv;exact⟨run_equalIn_int w _ _ _ _ _ _ ht,by simp[Instr.checkKey,run_underlying ht]⟩
  ·rename_i ht;simp only[VK,aB,List.cons.injEq,and_true]at hu hv;subst hu;subst hv;exact⟨run_equalIn_bool' w _ _ _ _ ht,by simp[Instr.checkKey,run_underlying ht]⟩
  ·rename_i ht;simp only[VK,aB,List.cons.injEq,and_true]at hu hv;subst hu;subst hv;exact⟨(run_equalIn_string w _ _ _ _ ht).trans (congrArg (fun b=>Result.ok b w) (beq_toListBytes (show ByteArray from x) (show ByteArray from y)).symm),by simp[Instr.checkKey,run_underlying ht]⟩
  ·rename_i fs a b ht;simp only[Bool.and_eq_true,Bool.not_eq_true']at h;obtain⟨hs,hf⟩:=h;obtain⟨xs,rfl,hx⟩:=hu;obtain⟨ys,rfl,hy⟩:=hv;have UF:P.fieldsOf t=fs:=by simp[Program.fieldsOf,ht]
   have ug:=hx.len;have C5:=hy.len;obtain⟨e1,e2⟩:=It (D:=D) (Z:=Z) em (fun t k hk w x y u v hu hv=>Mi D em d t k hk w x y u v hu hv) w xs ys fs.toList 0 (.pair a b) hf x y (by rw[List.drop_zero,List.take_of_length_le (by omega)];exact hx) (by rw[List.drop_zero,List.take_of_length_le (by omega)];exact hy);constructor
   ·rw[run_equalIn_struct w (D+d) t xs ys (by rw[UF];exact ht) hs,UF];exact e1
   ·rw[tl em w (D+d) t xs fs ht];exact e2
  ·cases h
theorem Oi{d:Nat}{t:TypeId}{a b:K}(hd:d≤10000)(hk:Rp P d t (.pair a b)=true)(hg:P.eqGuardType P.depth t=false):l6 P t (.pair a b):=fun Z w x y xs ys hx hy=>by
 have e:10000-d+d=10000:=by omega
 have key:=fun em=>Mi (Z:=Z) (10000-d) em d t (.pair a b) hk w x y (.agg xs) (.agg ys) ⟨xs,rfl,hx⟩ ⟨ys,rfl,hy⟩;rw[e]at key;exact⟨(key true).1,fun op p q=>run_eqGuard_agg w op t p q xs ys hg,fun em=>(key em).2⟩
end Go.Vs
namespace Go.Vs
open Go.Proofs
theorem Rr{f:FuncId}{g:aO}(h:Sg f=some g):(f,g)∈sgs:=by
 unfold Sg at h;obtain⟨p,hp,rfl⟩:=ac7.1 h;have h1:=adj hp;have h2:=adP hp;have:p.1=f:=by simpa using h2
 subst this;exact h1
theorem ly:∀f g,Sg f=some g→jv Tryz.prog (f%1000):=fun f g h=>by
 have hm:=Rr h;have key:(sgs.all fun p=>match Tryz.prog.funcs[p.1%1000]? with|some fn => !(fn.name== "runtime.NumGoroutine")&&fn.body.isSome|none=>false)=true:=by kernel_rfl
 have:=acH.1 key _ hm;simp only at this
 split at this
 ·rename_i fn hf;simp only[Bool.and_eq_true,Bool.not_eq_true']at this;exact⟨fn,hf,this.1,this.2⟩
 ·cases this
theorem sN:Tryz.prog.follows .mixedOrders=true:=by kernel_rfl
theorem Ca:∀t k,Eqs t=some k→l6 Tryz.prog t k:=fun t k h=>by
 unfold Eqs at h;obtain⟨p,hp,rfl⟩:=ac7.1 h;have h1:=adj hp;have h2:=adP hp;have e:p.1=t:=by simpa using h2
 subst e;simp only[eqs,List.mem_cons,List.not_mem_nil,or_false]at h1;rcases h1 with rfl|rfl|rfl|rfl|rfl|rfl
 all_goals exact Oi (d:=5) (by omega) (by kernel_rfl) (by kernel_rfl)
end Go.Vs
set_option maxRecDepth 1000000
set_option maxHeartbeats 0
namespace Go.Vs
open Go.Proofs
def UG:aO:={ ps:=[.own],bs:=[.own (.row 52 dP)],rs:=[.own (.row 52 dP)] }
def UH:aO:={ ps:=[.own],bs:=[.own (.row 118 fJ)],rs:=[.own (.row 118 fJ)] }
def lz:aO:={ ps:=[.agg 2],bs:=[.own (.row 52 dP),.own (.row 118 fJ)],rs:=[.agg [.own (.row 52 dP),.own (.row 118 fJ)]] }
def sO(ty:TypeId)(k:K)(h:Heap)(id:Nat):List AV→Option (Bool×bq)
 |[.bC a]=>match dN h (.row ty k) (.bC a) with
  |some xs=>some (bJ 0 xs.length,.new (.bC (id+128)) [(id+128,.own (.row ty k) xs)])
  |_=>none
 |_=>none
def af1:aO:={ ps:=[],bs:=[],rs:=[],x:=some (sO 52 dP) }
def af2:aO:={ ps:=[],bs:=[],rs:=[],x:=some (sO 118 fJ) }
def X1:List (Nat×aO):=[(500127,UG),(500128,UH)]
def Wz(f:FuncId):Option aO:=(X1.find? (fun p=>p.1==f)).map (fun p=>p.2)
def X2:List (Nat×aO):=[(110,zq),(500096,lz),(500127,af1),(500128,af2)]
def TL(f:FuncId):Option aO:=(X2.find? (fun p=>p.1==f)).map (fun p=>p.2)
def Iu:Shape:=⟨[(14,.int .i64),(15,.int .i64)],[(.slot 2,20000,.box 41 [.own (.row 52 dP),.own (.row 118 fJ)]),(.slot 3,20001,.box 41 [.own (.row 52 dP),.own (.row 118 fJ)])],[(6,1000,(.row 52 (.pair (.pair (.int .i64) (.int .i64)) (.pair (.sl (.pair (.pair (.int .i64) (.int .i64)) (.int .i64))) (.pair .str (.int .i64)))))),(9,1020,(.row 118 (.pair (.pair (.int .i64) (.int .i64)) (.pair .str (.int .i64)))))],[]⟩
def An0(f:FuncId)(key:Nat):Option Shape:=none
def X3(f:FuncId)(key:Nat):Option Shape:=if f=500096 then(if key=3 then some Iu else none) else none
noncomputable def Rs(SG:FuncId→Option aO)(AN:FuncId→Nat→Option Shape)(f:FuncId)(g:aO)(fn:Func)(F:FT)(J:JT g)(x:g.A):Option g.B:=ax Tryz.prog Eqs SG F fn.ntmps (AN f) J (q9 Tryz.prog g fn) fuel [.code (fn.body.getD .skip)] (entry g x)
noncomputable def X4(SG:FuncId→Option aO)(AN:FuncId→Nat→Option Shape)(f j:Nat)(g:aO)(fn:Func)(sh:Shape)(F:FT)(J:JT g)(x:sh.T):Option g.B:=ax Tryz.prog Eqs SG F fn.ntmps (AN f) J (q9 Tryz.prog g fn) fuel (round (aZ Tryz.prog (f%1000) j)) (ar sh x)
theorem aby(F:FT)(J:JT UG)(x:(Unit×((List ai)×Unit))):Rs Wz An0 500127 UG Tryz.f127 F J x = cond (List.isEmpty x.2.1) (th 2 fun(j1:Nat) =>cond ((j1==0)==true) (some ((([]:List ai),()),x.2)) (cond (bJ (List.length ([]:List ai)) (List.length x.2.1)) (some (((([]:List ai)++x.2.1),()),x.2)) (none))) (cond (bJ (List.length ([]:List ai)) (List.length x.2.1)) (some (((([]:List ai)++x.2.1),()),x.2)) (none)):=by kernel_rfl
theorem abz(F:FT)(J:JT UH)(x:(Unit×((List aq)×Unit))):Rs Wz An0 500128 UH Tryz.f128 F J x = cond (List.isEmpty x.2.1) (th 2 fun(j1:Nat) =>cond ((j1==0)==true) (some ((([]:List aq),()),x.2)) (cond (bJ (List.length ([]:List aq)) (List.length x.2.1)) (some (((([]:List aq)++x.2.1),()),x.2)) (none))) (cond (bJ (List.length ([]:List aq)) (List.length x.2.1)) (some (((([]:List aq)++x.2.1),()),x.2)) (none)):=by kernel_rfl
theorem abA(F:FT)(J:JT zq)(x:(((List ab)×Unit)×Unit)):Rs TL X3 110 zq Tryz.f110 F J x = cond (List.isEmpty x.1.1) (th 2 fun(j1:Nat) =>cond ((j1==0)==true) (some ((([]:List ab),()),())) (cond (bJ (List.length ([]:List ab)) (List.length x.1.1)) (some (((([]:List ab)++x.1.1),()),())) (none))) (cond (bJ (List.length ([]:List ab)) (List.length x.1.1)) (some (((([]:List ab)++x.1.1),()),())) (none)):=by kernel_rfl
theorem abB(F:FT)(J:JT lz)(x:(Unit×((List ai)×((List aq)×Unit)))):Rs TL X3 500096 lz Tryz.f96 F J x = cond (bJ 0 (List.length x.2.1)) (cond (bJ 0 (List.length x.2.2.1)) (J Iu (aZ Tryz.prog 96 0) (((((List.length x.2.1):Nat):Int),((0:Int),())),(((([]:List ai),(([]:List aq),())),((x.2.1,x.2.2),())),(x.2.1,x.2.2)))) (none)) (none):=by kernel_rfl
theorem Mj(F:FT)(J:JT lz)(x:((Int×(Int×Unit))×((((List ai)×((List aq)×Unit))×(((List ai)×((List aq)×Unit))×Unit))×((List ai)×((List aq)×Unit))))):X4 TL X3 500096 0 lz Tryz.f96 Iu F J x = cond (decide (x.1.2.1<x.1.1)) (cond ((decide ((0:Int)≤x.1.2.1))&&(decide (x.1.2.1<(((List.length x.2.1.2.1.1):Nat):Int)))) (((x.2.1.2.1.1)[(Int.toNat x.1.2.1)]?).bind fun(y1:ai) =>(F 110 zq ((y1.2.1,()),())).bind fun(y2:(((List ab)×Unit)×Unit)) =>cond ((decide ((0:Int)≤x.1.2.1))&&(decide (x.1.2.1<(((List.length x.2.1.2.1.1):Nat):Int)))) (((x.2.1.2.1.1)[(Int.toNat x.1.2.1)]?).bind fun(y3:ai) =>J Iu (aZ Tryz.prog 96 0) ((x.1.1,((IntKind.wrap .i64 (x.1.2.1+(1:Int))),())),(((x.2.1.1.1,x.2.1.1.2),(((List.set x.2.1.2.1.1 (Int.toNat x.1.2.1) (y3.1,(y2.1.1,y3.2.2))),x.2.1.2.1.2),())),(x.2.2.1,x.2.2.2)))) (none)) (none)) (some (((x.2.1.2.1.1,x.2.1.2.1.2),()),(x.2.2.1,x.2.2.2))):=by kernel_rfl
end Go.Vs
namespace Go.Vs
open Go.Proofs
variable {P:Program}
theorem tP{f:FuncId}{ty:TypeId}{k:K}(hf:f%1000=f)(hc:∀(xs:List k.T),bJ 0 xs.length=true→Ef P f ⟨[.own],[.own (.row ty k)],[.own (.row ty k)],none⟩ ((),(xs,())) ((xs,()),(xs,()))):gV P f (sO ty k):=by
 intro Z ψ h w B0 O N hh id e vs us g hB ba hN aX lZ qN A1 he;unfold sO at he
 split at he
 rotate_left
 ·cases he
 rename_i a
 split at he
 rotate_left
 ·cases he
 rename_i xs yl;simp only[Option.some.injEq,Prod.mk.injEq]at he;obtain⟨ki,rfl⟩:=he;have ha:h a=some (.own (.row ty k) xs):=ba _ _ (jW yl);have KM:h a≠none:=by rw[ha];simp
 simp only[an,au]at qN;obtain⟨v1,_,rfl,⟨_,vj⟩,rfl⟩:=qN;have vj:=vj KM;subst vj;simp only[av,aD]at A1;have Zj:N (id+128):=hN 128 (by omega);have na:¬N a:=A1.1;have a0:a≠id+128:=fun e=>na (e▸Zj)
 let ψ0:Nat→Value:=fun i=>if i=1000 then ψ a else ψ i
 have p0:ψ0 1000=ψ a:=if_pos rfl
 let g0:aO:=⟨[.own],[.own (.row ty k)],[.own (.row ty k)],none⟩
 have qH:pR g0 ((),(xs,()))=Heap.get [(1000,.own (.row ty k) xs)]:=rfl;have i0:pR g0 ((),(xs,())) 1000=some (.own (.row ty k) xs):=rfl;have iN:∀i,pR g0 ((),(xs,())) i≠none→i=1000:=fun i hi=>by
  by_cases e0:i=1000
  ·exact e0
  rw[qH]at hi;simp[Heap.get,Ne.symm e0]at hi
 have UI:∀q,Own ψ0 (pR g0 ((),(xs,()))) q→ob (ψ a)=some q:=fun q ⟨i,h1,h2⟩=>by have:=iN i h1;subst this;rw[←p0];exact h2
 have oh:∀q,Own ψ0 (pR g0 ((),(xs,()))) q→Own ψ h q:=fun q hq=>⟨a,KM,UI q hq⟩;have G0:Good Z ψ0 (pR g0 ((),(xs,()))) w w.heap.size (Own ψ0 (pR g0 ((),(xs,())))):=by
  refine⟨fun i ty cs k=>?_,fun i ok x k=>?_,fun i q h1 h2=>⟨fun hz=>?_,.inr ⟨i,h1,h2⟩⟩,fun i j q h1 h2 h3 h4=>?_,g.jO⟩
  ·have:=iN i (by rw[k];simp);subst this;rw[i0]at k;cases k
  ·have:=iN i (by rw[k];simp);subst this;rw[i0]at k;cases k;rw[p0];exact g.row a _ _ ha
  ·have:=iN i h1;subst this;rw[p0]at h2;exact(g.live a q KM h2).1 hz
  ·rw[iN i h1,iN j h2]
 have c0:(ψ a).cells=#[ψ a]∧(ψ a).oneCell'=true:=(g.row a _ _ ha).one;have R0:an Z ψ0 (pR g0 ((),(xs,()))) w (Fz g0 ((),(xs,()))) [ψ a]:=by show an Z ψ0 (pR g0 ((),(xs,()))) w [.bC 1000] [ψ a];simp only[an,au];exact⟨ψ a,[],rfl,⟨c0,fun _=>p0.symm⟩,rfl⟩
 have P1:=hc xs ki Z ψ0 w [ψ a] G0 R0;rw[hf]at P1;refine P1.mono fun en w' ⟨V,Z',ψ',e1,zs,zf,kp,gd,br,hr⟩=>?_;have q0:ψ' 1000=ψ a:=(br 1000 (by show 1000∈[1000];simp)).trans p0;have o0:(jY g0 ((xs,()),(xs,()))).get 1000=some (.own (.row ty k) xs):=rfl;have o2:(jY g0 ((xs,()),(xs,()))).get 3000=some (.own (.row ty k) xs):=rfl;have gd:Good Z' ψ' (jY g0 ((xs,()),(xs,()))).get w' w.heap.size (Own ψ0 (pR g0 ((),(xs,())))):=gd;have hr:au Z' ψ' (jY g0 ((xs,()),(xs,()))).get w' (.bC 3000) V:=hr;generalize (jY g0 ((xs,()),(xs,()))).get=out at *;have keep:cE ψ h w w':=⟨kp.os,kp.tape,kp.output,kp.size,fun q hq hn=>kp.block q hq fun ho=>hn (oh q ho)⟩;have sm:cj Z w w':=keep.same g;have cQ:∀i q,i≠a→h i≠none→ob (ψ i)=some q→w'.heap[q]? = w.heap[q]? := fun i q k1 h1 h2 =>kp.block q (g.bF ⟨i,h1,h2⟩) fun ho=>k1 (g.apart i a q h1 KM h2 (UI q ho))
 let dR:Nat→Value:=fun i=>if i=id+128 then ψ' 3000 else ψ i
 let H:Hp:=(bq.new (.bC (id+128)) [(id+128,.own (.row ty k) xs)]).hp h
 have s0:dR (id+128)=ψ' 3000:=if_pos rfl;have sn:∀i,i≠id+128→dR i=ψ i:=fun i k1=>if_neg k1;have H0:H (id+128)=some (.own (.row ty k) xs):=by show(bq.hp h _) _=_;simp[bq.hp,Heap.get]
 have Hn:∀i,i≠id+128→H i=h i:=fun i k1=>by show(bq.hp h _) _=_;simp[bq.hp,Heap.get,Ne.symm k1]
 have two:∀q,ob (ψ' 3000)=some q→¬Z' q∧(w.heap.size≤q∨ob (ψ a)=some q):=fun q h2=>by obtain⟨h3,h4⟩:=gd.live 3000 q (by rw[o2];simp) h2;exact⟨h3,h4.imp (fun h=>h) (UI q)⟩
 have one:∀q,ob (ψ a)=some q→¬Z' q:=fun q h2=>(gd.live 1000 q (by rw[o0];simp) (by rw[q0];exact h2)).1;have UJ:∀q,ob (ψ' 3000)=some q→ob (ψ a)=some q→False:=fun q h2 h3=>by have:=gd.apart 3000 1000 q (by rw[o2];simp) (by rw[o0];simp) h2 (by rw[q0];exact h3);omega
 have fresh:∀q,ob (ψ' 3000)=some q→w.heap.size≤q:=fun q h2=>(two q h2).2.resolve_right (UJ q h2);have ids:∀i,H i≠none→(h i≠none∧dR i=ψ i)∨N i:=fun i hi=>by
  by_cases k1:i=id+128
  ·exact .inr (k1▸Zj)
  ·rw[Hn i k1]at hi;exact .inl ⟨hi,sn i k1⟩
 have live:∀i q,i≠id+128→h i≠none→ob (ψ i)=some q→¬Z' q:=fun i q k1 h1 h2 hz=>by
  by_cases k3:i=a
  ·subst k3;exact one q h2 hz
  rcases zf q hz with k|k|k
  ·exact(g.live i q h1 h2).1 k
  ·exact k3 (g.apart i a q h1 KM h2 (UI q k))
  ·have:=g.bF ⟨i,h1,h2⟩;omega
 refine⟨V,Z',dR,e1,⟨zs,fun q hq=>(zf q hq).imp (fun h=>h) fun k=>k.imp (oh q) fun h=>h,keep,ids,⟨fun i zg cs k=>?_,fun i ok x k=>?_,fun i q h1 h2=>?_,fun i j q h1 h2 h3 h4=>?_,gd.jO⟩⟩,?_⟩
 ·have k1:i≠id+128:=fun e=>by rw[e]at k;have k:H (id+128)=some (.box zg cs):=k;rw[H0]at k;cases k
  have k3:i≠a:=fun e=>by rw[e]at k;have k:H a=some (.box zg cs):=k;rw[(Hn a a0).trans ha]at k;cases k
  have qF:h i=some (.box zg cs):=(Hn i k1).symm.trans k;obtain⟨gg,vs,f1,f2,f3,f4⟩:=g.box i zg cs qF;exact⟨gg,vs,(sn i k1).trans f1,(cQ i gg k3 (by rw[qF];simp) (by rw[f1];rfl)).trans f2,f3.move zs sm (fun j hj aW=>(ids j aW).resolve_right hj) (aX i zg cs qF),f4⟩
 ·by_cases k1:i=id+128
  ·subst k1;have k:H (id+128)=some (.own ok x):=k;rw[H0]at k;cases k;rw[s0];exact gd.row 3000 _ _ o2
  have qF:h i=some (.own ok x):=(Hn i k1).symm.trans k;rw[sn i k1];by_cases k3:i=a
  ·subst k3;rw[ha]at qF;cases qF;rw[←q0];exact gd.row 1000 _ _ o0
  exact(g.row i ok x qF).kept zs sm fun q hq=>cQ i q k3 (by rw[qF];simp) hq
 ·by_cases k1:i=id+128
  ·subst k1;have h2:ob (dR (id+128))=some q:=h2;rw[s0]at h2;exact⟨(two q h2).1,.inl (acB hB (fresh q h2))⟩
  ·have h1:h i≠none:=by rw[←Hn i k1];exact h1
   rw[sn i k1]at h2;exact⟨live i q k1 h1 h2,(g.live i q h1 h2).2⟩
 ·have lt:∀j,j≠id+128→H j≠none→ob (dR j)=some q→q<w.heap.size:=fun j k1 k2 k3=>by rw[Hn j k1]at k2;rw[sn j k1]at k3;exact g.bF ⟨j,k2,k3⟩
  by_cases k1:i=id+128<;>by_cases k2:j=id+128
  ·exact k1.trans k2.symm
  ·subst k1;have h3:ob (dR (id+128))=some q:=h3;rw[s0]at h3;have:=fresh q h3;have:=lt j k2 h2 h4;omega
  ·subst k2;have h4:ob (dR (id+128))=some q:=h4;rw[s0]at h4;have:=fresh q h4;have:=lt i k1 h1 h3;omega
  ·rw[sn i k1]at h3;rw[sn j k2]at h4;exact g.apart i j q (by rw[←Hn i k1];exact h1) (by rw[←Hn j k2];exact h2) h3 h4
 ·simp only[au]at hr;show au Z' dR H w' (.bC (id+128)) V;simp only[au];exact⟨hr.1,fun _=>(hr.2 (by rw[o2];simp)).trans s0.symm⟩
theorem F8(hc:∀(xs:List dP.T) (ys:List fJ.T),pW xs ys=true→Ef P 96 lz ((),(xs,(ys,()))) (((xs,(ys,())),()),(xs,(ys,())))):gV P 96 FM:=by
 intro Z ψ h w B0 O N hh id e vs us g hB ba hN aX lZ qN A1 he;unfold FM at he
 split at he
 rotate_left
 ·cases he
 rename_i a b
 split at he
 rotate_left
 ·cases he
 rename_i xs ys yl J4
 split at he
 ·cases he
 rename_i yS;simp only[Option.some.injEq,Prod.mk.injEq]at he;obtain⟨ki,rfl⟩:=he;have ha:h a=some (.own (.row 52 dP) xs):=ba _ _ (jW yl);have hb:h b=some (.own (.row 118 fJ) ys):=ba _ _ (jW J4);have KM:h a≠none:=by rw[ha];simp
 have Ij:h b≠none:=by rw[hb];simp
 simp only[an,au]at qN;obtain⟨v,_,rfl,⟨cs,rfl,v1,_,Fq,⟨_,vj⟩,v2,_,rfl,⟨_,yj⟩,rfl⟩,rfl⟩:=qN;have vj:=vj KM;have yj:=yj Ij;subst vj yj;simp only[av,aD]at A1;have Zj:N (id+128):=hN 128 (by omega);have nR1:N (id+129):=hN 129 (by omega);have na:¬N a:=A1.1.1;have nb:¬N b:=A1.1.2.1;have a0:a≠id+128:=fun e=>na (e▸Zj);have a1:a≠id+129:=fun e=>na (e▸nR1);have b0:b≠id+128:=fun e=>nb (e▸Zj);have b1:b≠id+129:=fun e=>nb (e▸nR1)
 let ψ0:Nat→Value:=fun i=>if i=1000 then ψ a else if i=1020 then ψ b else ψ i
 have p0:ψ0 1000=ψ a:=if_pos rfl;have p1:ψ0 1020=ψ b:=(if_neg (by decide)).trans (if_pos rfl);have qH:pR lz ((),(xs,(ys,())))=Heap.get [(1000,.own (.row 52 dP) xs),(1020,.own (.row 118 fJ) ys)]:=rfl;have i0:pR lz ((),(xs,(ys,()))) 1000=some (.own (.row 52 dP) xs):=rfl;have i1:pR lz ((),(xs,(ys,()))) 1020=some (.own (.row 118 fJ) ys):=rfl;have iN:∀i,pR lz ((),(xs,(ys,()))) i≠none→i=1000∨i=1020:=fun i hi=>by
  by_cases e0:i=1000
  ·exact .inl e0
  by_cases e1:i=1020
  ·exact .inr e1
  rw[qH]at hi;simp[Heap.get,Ne.symm e0,Ne.symm e1]at hi
 have UI:∀q,Own ψ0 (pR lz ((),(xs,(ys,())))) q→ob (ψ a)=some q∨ob (ψ b)=some q:=fun q ⟨i,h1,h2⟩=>by
  rcases iN i h1 with rfl|rfl
  ·exact .inl (by rw[←p0];exact h2)
  ·exact .inr (by rw[←p1];exact h2)
 have oh:∀q,Own ψ0 (pR lz ((),(xs,(ys,())))) q→Own ψ h q:=fun q hq=>(UI q hq).elim (fun k=>⟨a,KM,k⟩) fun k=>⟨b,Ij,k⟩;have G0:Good Z ψ0 (pR lz ((),(xs,(ys,())))) w w.heap.size (Own ψ0 (pR lz ((),(xs,(ys,()))))):=by
  refine⟨fun i ty cs k=>?_,fun i ok x k=>?_,fun i q h1 h2=>⟨fun hz=>?_,.inr ⟨i,h1,h2⟩⟩,fun i j q h1 h2 h3 h4=>?_,g.jO⟩
  ·rcases iN i (by rw[k];simp) with rfl|rfl
   ·rw[i0]at k;cases k
   ·rw[i1]at k;cases k
  ·rcases iN i (by rw[k];simp) with rfl|rfl
   ·rw[i0]at k;cases k;rw[p0];exact g.row a _ _ ha
   ·rw[i1]at k;cases k;rw[p1];exact g.row b _ _ hb
  ·rcases iN i h1 with rfl|rfl
   ·rw[p0]at h2;exact(g.live a q KM h2).1 hz
   ·rw[p1]at h2;exact(g.live b q Ij h2).1 hz
  ·rcases iN i h1 with rfl|rfl<;>rcases iN j h2 with rfl|rfl
   ·rfl
   ·rw[p0]at h3;rw[p1]at h4;exact absurd (g.apart a b q KM Ij h3 h4) yS
   ·rw[p1]at h3;rw[p0]at h4;exact absurd (g.apart a b q KM Ij h4 h3) yS
   ·rfl
 have c0:(ψ a).cells=#[ψ a]∧(ψ a).oneCell'=true:=(g.row a _ _ ha).one;have c1:(ψ b).cells=#[ψ b]∧(ψ b).oneCell'=true:=(g.row b _ _ hb).one;have R0:an Z ψ0 (pR lz ((),(xs,(ys,())))) w (Fz lz ((),(xs,(ys,())))) [.agg cs]:=by show an Z ψ0 (pR lz ((),(xs,(ys,())))) w [.agg [.bC 1000,.bC 1020]] [.agg cs];simp only[an,au];exact⟨.agg cs,[],rfl,⟨cs,rfl,ψ a,[ψ b],Fq,⟨c0,fun _=>p0.symm⟩,ψ b,[],rfl,⟨c1,fun _=>p1.symm⟩,rfl⟩,rfl⟩
 refine(hc xs ys ki Z ψ0 w [.agg cs] G0 R0).mono fun en w' ⟨V,Z',ψ',e1,zs,zf,kp,gd,br,hr⟩=>?_;have q0:ψ' 1000=ψ a:=(br 1000 (by show 1000∈[1000,1020];simp)).trans p0;have q1:ψ' 1020=ψ b:=(br 1020 (by show 1020∈[1000,1020];simp)).trans p1;have o0:(jY lz (((xs,(ys,())),()),(xs,(ys,())))).get 1000=some (.own (.row 52 dP) xs):=rfl;have o1:(jY lz (((xs,(ys,())),()),(xs,(ys,())))).get 1020=some (.own (.row 118 fJ) ys):=rfl;have o2:(jY lz (((xs,(ys,())),()),(xs,(ys,())))).get 3000=some (.own (.row 52 dP) xs):=rfl;have o3:(jY lz (((xs,(ys,())),()),(xs,(ys,())))).get 3001=some (.own (.row 118 fJ) ys):=rfl;generalize (jY lz (((xs,(ys,())),()),(xs,(ys,())))).get=out at *;have keep:cE ψ h w w':=⟨kp.os,kp.tape,kp.output,kp.size,fun q hq hn=>kp.block q hq fun ho=>hn (oh q ho)⟩;have sm:cj Z w w':=keep.same g;have cQ:∀i q,i≠a→i≠b→h i≠none→ob (ψ i)=some q→w'.heap[q]? = w.heap[q]? := fun i q k1 k2 h1 h2 =>kp.block q (g.bF ⟨i,h1,h2⟩) fun ho=>(UI q ho).elim (fun k=>k1 (g.apart i a q h1 KM h2 k)) fun k=>k2 (g.apart i b q h1 Ij h2 k)
 let κ:Nat→Nat:=fun i=>if i=id+128 then 3000 else if i=id+129 then 3001 else if i=a then 1000 else 1020
 let TM:Nat→Prop:=fun i=>i=id+128∨i=id+129∨i=a∨i=b
 let dR:Nat→Value:=fun i=>if i=id+128 then ψ' 3000 else if i=id+129 then ψ' 3001 else ψ i
 let H:Hp:=(bq.new (.agg [.bC (id+128),.bC (id+129)]) [(id+128,.own (.row 52 dP) xs),(id+129,.own (.row 118 fJ) ys)]).hp h
 have s0:dR (id+128)=ψ' 3000:=if_pos rfl;have s1:dR (id+129)=ψ' 3001:=(if_neg (by omega)).trans (if_pos rfl);have sn:∀i,i≠id+128→i≠id+129→dR i=ψ i:=fun i k1 k2=>(if_neg k1).trans (if_neg k2);have H0:H (id+128)=some (.own (.row 52 dP) xs):=by show(bq.hp h _) _=_;simp[bq.hp,Heap.get]
 have H1:H (id+129)=some (.own (.row 118 fJ) ys):=by show(bq.hp h _) _=_;simp[bq.hp,Heap.get]
 have Hn:∀i,i≠id+128→i≠id+129→H i=h i:=fun i k1 k2=>by show(bq.hp h _) _=_;simp[bq.hp,Heap.get,Ne.symm k1,Ne.symm k2]
 have Ha:H a=some (.own (.row 52 dP) xs):=(Hn a a0 a1).trans ha;have Hb:H b=some (.own (.row 118 fJ) ys):=(Hn b b0 b1).trans hb;have kap:∀i,TM i→out (κ i)≠none∧ψ' (κ i)=dR i:=fun i hi=>by
  rcases hi with rfl|rfl|rfl|rfl
  ·have:κ (id+128)=3000:=if_pos rfl;rw[this,o2,s0];exact⟨by simp,rfl⟩
  ·have:κ (id+129)=3001:=(if_neg (by omega)).trans (if_pos rfl);rw[this,o3,s1];exact⟨by simp,rfl⟩
  ·have:κ i=1000:=(if_neg a0).trans ((if_neg a1).trans (if_pos rfl));rw[this,o0,q0,sn i a0 a1];exact⟨by simp,rfl⟩
  ·have:κ i=1020:=(if_neg b0).trans ((if_neg b1).trans (if_neg (fun k=>yS k.symm)));rw[this,o1,q1,sn i b0 b1];exact⟨by simp,rfl⟩
 have af5:∀i j,TM i→TM j→κ i=κ j→i=j:=fun i j hi hj hk=>by have v1:κ (id+128)=3000:=if_pos rfl;have v2:κ (id+129)=3001:=(if_neg (by omega)).trans (if_pos rfl);have v3:κ a=1000:=(if_neg a0).trans ((if_neg a1).trans (if_pos rfl));have v4:κ b=1020:=(if_neg b0).trans ((if_neg b1).trans (if_neg (fun k=>yS k.symm)));rcases hi with rfl|rfl|rfl|rfl<;>rcases hj with rfl|rfl|rfl|rfl<;>first|rfl|(rw[v1]at hk;first|(rw[v2]at hk;cases hk)|(rw[v3]at hk;cases hk)|(rw[v4]at hk;cases hk))|(rw[v2]at hk;first|(rw[v1]at hk;cases hk)|(rw[v3]at hk;cases hk)|(rw[v4]at hk;cases hk))|(rw[v3,v4]at hk;cases hk)|(rw[v4,v3]at hk;cases hk)
 have back:∀i q,TM i→ob (dR i)=some q→¬Z' q∧(w.heap.size≤q∨ob (ψ a)=some q∨ob (ψ b)=some q):=fun i q hi h2=>by obtain⟨k1,k2⟩:=kap i hi;rw[←k2]at h2;obtain⟨h3,h4⟩:=gd.live (κ i) q k1 h2;exact⟨h3,h4.imp (fun h=>h) (UI q)⟩
 have rest:∀i,¬TM i→i≠id+128∧i≠id+129∧i≠a∧i≠b:=fun i hi=>⟨fun k=>hi (.inl k),fun k=>hi (.inr (.inl k)),fun k=>hi (.inr (.inr (.inl k))),fun k=>hi (.inr (.inr (.inr k)))⟩;have mixed:∀i j q,TM i→¬TM j→h j≠none→ob (dR i)=some q→ob (ψ j)=some q→False:=fun i j q hi hj h2 h3 h4=>by
  obtain⟨_,_,k3,k4⟩:=rest j hj;rcases (back i q hi h3).2 with k|k|k
  ·have:=g.bF ⟨j,h2,h4⟩;omega
  ·exact k3 (g.apart j a q h2 KM h4 k)
  ·exact k4 (g.apart j b q h2 Ij h4 k)
 have ids:∀i,H i≠none→(h i≠none∧dR i=ψ i)∨N i:=fun i hi=>by
  by_cases k1:i=id+128
  ·exact .inr (k1▸Zj)
  by_cases k2:i=id+129
  ·exact .inr (k2▸nR1)
  ·rw[Hn i k1 k2]at hi;exact .inl ⟨hi,sn i k1 k2⟩
 refine⟨V,Z',dR,e1,⟨zs,fun q hq=>(zf q hq).imp (fun h=>h) fun k=>k.imp (oh q) fun h=>h,keep,ids,⟨fun i ty cs k=>?_,fun i ok x k=>?_,fun i q h1 h2=>?_,fun i j q h1 h2 h3 h4=>?_,gd.jO⟩⟩,?_⟩
 ·have k1:i≠id+128:=fun e=>by rw[e]at k;have k:H (id+128)=some (.box ty cs):=k;rw[H0]at k;cases k
  have k2:i≠id+129:=fun e=>by rw[e]at k;have k:H (id+129)=some (.box ty cs):=k;rw[H1]at k;cases k
  have k3:i≠a:=fun e=>by rw[e]at k;have k:H a=some (.box ty cs):=k;rw[Ha]at k;cases k
  have k4:i≠b:=fun e=>by rw[e]at k;have k:H b=some (.box ty cs):=k;rw[Hb]at k;cases k
  have qF:h i=some (.box ty cs):=(Hn i k1 k2).symm.trans k;obtain⟨gg,vs,f1,f2,f3,f4⟩:=g.box i ty cs qF;exact⟨gg,vs,(sn i k1 k2).trans f1,(cQ i gg k3 k4 (by rw[qF];simp) (by rw[f1];rfl)).trans f2,f3.move zs sm (fun j hj aW=>(ids j aW).resolve_right hj) (aX i ty cs qF),f4⟩
 ·by_cases k1:i=id+128
  ·subst k1;have k:H (id+128)=some (.own ok x):=k;rw[H0]at k;cases k;rw[s0];exact gd.row 3000 _ _ o2
  by_cases k2:i=id+129
  ·subst k2;have k:H (id+129)=some (.own ok x):=k;rw[H1]at k;cases k;rw[s1];exact gd.row 3001 _ _ o3
  have qF:h i=some (.own ok x):=(Hn i k1 k2).symm.trans k;rw[sn i k1 k2];by_cases k3:i=a
  ·subst k3;rw[ha]at qF;cases qF;rw[←q0];exact gd.row 1000 _ _ o0
  by_cases k4:i=b
  ·subst k4;rw[hb]at qF;cases qF;rw[←q1];exact gd.row 1020 _ _ o1
  exact(g.row i ok x qF).kept zs sm fun q hq=>cQ i q k3 k4 (by rw[qF];simp) hq
 ·by_cases h4:TM i
  ·obtain⟨k1,k2⟩:=back i q h4 h2;refine⟨k1,?_⟩;rcases k2 with k|k|k
   ·exact .inl (acB hB k)
   ·exact(g.live a q KM k).2
   ·exact(g.live b q Ij k).2
  ·obtain⟨r1,r2,r3,r4⟩:=rest i h4;have h1:h i≠none:=by rw[←Hn i r1 r2];exact h1
   rw[sn i r1 r2]at h2;refine⟨fun hz=>?_,(g.live i q h1 h2).2⟩;rcases zf q hz with k|k|k
   ·exact(g.live i q h1 h2).1 k
   ·rcases UI q k with k|k
    ·exact r3 (g.apart i a q h1 KM h2 k)
    ·exact r4 (g.apart i b q h1 Ij h2 k)
   ·have:=g.bF ⟨i,h1,h2⟩;omega
 ·by_cases hi:TM i<;>by_cases hj:TM j
  ·obtain⟨k1,k2⟩:=kap i hi;obtain⟨k3,k4⟩:=kap j hj;rw[←k2]at h3;rw[←k4]at h4;exact af5 i j hi hj (gd.apart _ _ q k1 k3 h3 h4)
  ·obtain⟨r1,r2,r3,r4⟩:=rest j hj;rw[sn j r1 r2]at h4;exact(mixed i j q hi hj (by rw[←Hn j r1 r2];exact h2) h3 h4).elim
  ·obtain⟨r1,r2,r3,r4⟩:=rest i hi;rw[sn i r1 r2]at h3;exact(mixed j i q hj hi (by rw[←Hn i r1 r2];exact h1) h4 h3).elim
  ·obtain⟨r1,r2,_,_⟩:=rest i hi;obtain⟨t1,t2,_,_⟩:=rest j hj;rw[sn i r1 r2]at h3;rw[sn j t1 t2]at h4;exact g.apart i j q (by rw[←Hn i r1 r2];exact h1) (by rw[←Hn j t1 t2];exact h2) h3 h4
 ·have hr:au Z' ψ' out w' (.agg [.bC 3000,.bC 3001]) V:=hr;simp only[au,an]at hr;obtain⟨vs,rfl,u1,_,qN,⟨d1,d2⟩,u2,_,rfl,⟨d3,d4⟩,rfl⟩:=hr;show au Z' dR H w' (.agg [.bC (id+128),.bC (id+129)]) (.agg vs);simp only[au,an];exact⟨vs,rfl,u1,[u2],qN,⟨d1,fun _=>(d2 (by rw[o2];simp)).trans s0.symm⟩,u2,[],rfl,⟨d3,fun _=>(d4 (by rw[o3];simp)).trans s1.symm⟩,rfl⟩
end Go.Vs
namespace Go.Vs
open Go.Proofs
abbrev UK:(f:FuncId)→(g:aO)→Option (g.A→Option g.B):=fun _ _=>none
section
variable (SG:FuncId→Option aO) (AN:FuncId→Nat→Option Shape)
noncomputable abbrev UL:FT:=Fix Tryz.prog Eqs SG AN UK
noncomputable abbrev LXG(f:FuncId)(g:aO)(fn:Func):JT g:=Lp Tryz.prog Eqs SG AN UK f g fn
end
theorem F9{SG:FuncId→Option aO}{AN:FuncId→Nat→Option Shape}{f:FuncId}{g:aO}{fn:Func}{x:g.A}{y:g.B}(hb:body Tryz.prog (f%1000)=some (fn,fn.body.getD .skip))(hc:(decide (g.ps.length≤fn.ntmps)&&decide (g.bs.length≤8))=true) (h:Rs SG AN f g fn (UL SG AN) (LXG SG AN f g fn) x=some y):UL SG AN f g x=some y:=LZ rfl hb hc h
theorem Rt{SG:FuncId→Option aO}{AN:FuncId→Nat→Option Shape}{f j:Nat}{g:aO}{fn:Func}{sh:Shape}{x:sh.T}{y:g.B}(hs:(match aZ Tryz.prog (f%1000) j with | .inLoop _::_=>true|_=>false)=true)
  (h:X4 SG AN f j g fn sh (UL SG AN) (LXG SG AN f g fn) x=some y):LXG SG AN f g fn sh (aZ Tryz.prog (f%1000) j) x=some y:=by
 unfold X4 at h;generalize aZ Tryz.prog (f%1000) j=s at hs h ⊢
 split at hs
 ·exact QH h
 ·cases hs
theorem Ru{α β:Type}{o:Option α}{f:α→Option β}{a:α}{r:Option β}(h:o=some a)(k:f a=r):o.bind f=r:=by rw[h];exact k
theorem Cb{α:Type}{c:Bool}{x y r:α}(h:c=true)(k:x=r):cond c x y=r:=by subst h;exact k
theorem UM{α:Type}{c:Bool}{x y r:α}(h:c=false)(k:y=r):cond c x y=r:=by subst h;exact k
theorem Rv{R:Type}{f:Nat→Option R}{r:R}(h0:f 0=some r)(h1:f 1=some r):th 2 f=some r :=np (by omega) fun j hj=>by
  rcases j with _|_|j
  ·exact h0
  ·exact h1
  ·omega
theorem abC(xs:List ai)(h:bJ 0 xs.length=true):UL Wz An0 500127 UG ((),(xs,()))=some ((xs,()),(xs,())):=by
 refine F9 (fn:=Tryz.f127) (by kernel_rfl) (by kernel_rfl) ((aby _ _ _).trans ?_)
 cases xs with
 |nil=>exact Cb rfl (Rv rfl rfl)
 |cons x r=>exact UM rfl (Cb h rfl)
theorem abD(xs:List aq)(h:bJ 0 xs.length=true):UL Wz An0 500128 UH ((),(xs,()))=some ((xs,()),(xs,())):=by
 refine F9 (fn:=Tryz.f128) (by kernel_rfl) (by kernel_rfl) ((abz _ _ _).trans ?_)
 cases xs with
 |nil=>exact Cb rfl (Rv rfl rfl)
 |cons x r=>exact UM rfl (Cb h rfl)
theorem Mk{f:FuncId}{g:aO}(h:Wz f=some g):(f,g)∈X1:=by
 unfold Wz at h;obtain⟨p,hp,rfl⟩:=ac7.1 h;have h1:=adj hp;have h2:=adP hp;have:p.1=f:=by simpa using h2
 subst this;exact h1
theorem Ml{f:FuncId}{g:aO}(h:TL f=some g):(f,g)∈X2:=by
 unfold TL at h;obtain⟨p,hp,rfl⟩:=ac7.1 h;have h1:=adj hp;have h2:=adP hp;have:p.1=f:=by simpa using h2
 subst this;exact h1
noncomputable def KN(l:List (Nat×aO)):Bool:=l.all fun p=>match Tryz.prog.funcs[p.1%1000]? with|some fn => !(fn.name== "runtime.NumGoroutine")&&fn.body.isSome|none=>false
theorem Ac{l:List (Nat×aO)}(key:KN l=true){f:FuncId}{g:aO}(hm:(f,g)∈l):jv Tryz.prog (f%1000):=by
 have:=acH.1 key _ hm;simp only at this
 split at this
 ·rename_i fn hf;simp only[Bool.and_eq_true,Bool.not_eq_true']at this;exact⟨fn,hf,this.1,this.2⟩
 ·cases this
theorem abE{f:FuncId}{g:aO}{x:g.A}{y:g.B}(hs:Wz f=some g)(h:UL Wz An0 f g x=some y):Ef Tryz.prog f g x y :=z5 (fun f g u hf hu=>by have hm:=Mk hf;simp only[X1,List.mem_cons,List.not_mem_nil,or_false,Prod.mk.injEq]at hm;rcases hm with⟨_,rfl⟩|⟨_,rfl⟩<;>cases hu) Ca (fun f g hf=>Ac (by kernel_rfl) (Mk hf)) sN (fun f g u x y _ hu _=>by cases hu) hs h
theorem UN:gV Tryz.prog 127 (sO 52 dP):=tP rfl fun xs h=>by have:=abE (by kernel_rfl) (abC xs h);exact this
theorem UO:gV Tryz.prog 128 (sO 118 fJ):=tP rfl fun xs h=>by have:=abE (by kernel_rfl) (abD xs h);exact this
theorem abF(l:List ab)(hl:l.length≤50000000):UL TL X3 110 zq ((l,()),())=some ((l,()),()):=by
 refine F9 (fn:=Tryz.f110) (by kernel_rfl) (by kernel_rfl) ((abA _ _ _).trans ?_)
 cases l with
 |nil=>exact Cb rfl (Rv rfl rfl)
 |cons x r=>exact UM rfl (Cb (decide_eq_true (show 0+(x::r).length≤1073741824 by omega)) rfl)
theorem Rx{i n:Nat}(h:i<n)(hn:n≤50000000):IntKind.wrap .i64 ((i:Int)+1)=((i+1:Nat):Int):=by
 unfold IntKind.wrap;simp only[IntKind.bits,IntKind.signed];simp
 split<;>omega
theorem abG(xs:List ai)(ys:List aq)(h:pW xs ys=true):UL TL X3 500096 lz ((),(xs,(ys,())))=some (((xs,(ys,())),()),(xs,(ys,()))):=by
 unfold pW at h;simp only[Bool.and_eq_true,decide_eq_true_eq,List.all_eq_true]at h;obtain⟨hx,hy,hr⟩:=h;refine F9 (fn:=Tryz.f96) (by kernel_rfl) (by kernel_rfl) ((abB _ _ _).trans ?_);refine Cb (decide_eq_true (show 0+xs.length≤1073741824 by omega)) (Cb (decide_eq_true (show 0+ys.length≤1073741824 by omega)) ?_);have loop:∀(n i:Nat) (out:List ai),i+n=xs.length→out=xs→LXG TL X3 500096 lz Tryz.f96 Iu (aZ Tryz.prog 96 0) ((((xs.length:Nat):Int),((i:Int),())),(((([]:List ai),(([]:List aq),())),((out,(ys,())),())),(xs,(ys,()))))=some (((xs,(ys,())),()),(xs,(ys,()))):=by
  intro n
  induction n with
  |zero =>intro i out hi ho;subst ho;refine Rt (j:=0) (by kernel_rfl) ((Mj _ _ _).trans ?_);exact UM (decide_eq_false (show ¬((i:Int)<((out.length:Nat):Int)) by omega)) rfl
  |succ n ih =>
   intro i out hi ho;have aF:i<xs.length:=by omega
   have Rq:out[i]? = some xs[i]:=by rw[ho];exact abv aF
   have hol:out.length=xs.length:=by rw[ho]
   have c1:(decide ((0:Int)≤(i:Int))&&decide ((i:Int)<((out.length:Nat):Int)))=true:=by rw[decide_eq_true (show(0:Int)≤(i:Int) by omega),decide_eq_true (show(i:Int)<((out.length:Nat):Int) by omega)];rfl
   refine Rt (j:=0) (by kernel_rfl) ((Mj _ _ _).trans ?_);refine Cb (decide_eq_true (show((i:Int)<((xs.length:Nat):Int)) by omega)) (Cb c1 (Ru Rq ?_));refine Ru (abF xs[i].2.1 (hr _ (acC aF))) ?_;refine Cb c1 (Ru Rq ?_);have hs:out.set i (xs[i].1,(xs[i].2.1,xs[i].2.2))=xs:=by subst ho;exact List.set_getElem_self aF
   have:=ih (i+1) (out.set i (xs[i].1,(xs[i].2.1,xs[i].2.2))) (by omega) hs;rw[←Rx aF hx]at this;exact this
 exact loop xs.length 0 xs (by omega) rfl
theorem af6{f:FuncId}{g:aO}{x:g.A}{y:g.B}(hs:TL f=some g)(h:UL TL X3 f g x=some y):Ef Tryz.prog f g x y :=z5 (fun f g u hf hu=>by
  have hm:=Ml hf;simp only[X2,List.mem_cons,List.not_mem_nil,or_false,Prod.mk.injEq]at hm;rcases hm with⟨_,rfl⟩|⟨_,rfl⟩|⟨rfl,rfl⟩|⟨rfl,rfl⟩
  ·cases hu
  ·cases hu
  ·cases hu;intro Z ψ h w B0 O N hh id e vs us;exact UN
  ·cases hu;intro Z ψ h w B0 O N hh id e vs us;exact UO) Ca (fun f g hf=>Ac (by kernel_rfl) (Ml hf)) sN (fun f g u x y _ hu _=>by cases hu) hs h
theorem Oj:gV Tryz.prog 96 FM:=F8 fun xs ys h=>by have:=af6 (by kernel_rfl) (abG xs ys h);exact this
end Go.Vs
namespace Go.Vs
open Go.Proofs Go.RowKit
abbrev aix:Array Value:=#[.slice none 0 0,.slice none 0 0,.slice none 0 0,.int .i64 0,.slice none 0 0]
theorem Mm(w:World)(a:Option Addr)(n c:Nat)(hn:n≤c):Calls Tryz.prog 205 #[.slice a n c] w fun e w'=>e=.returned (.slice (if n=0 then a else a) n n)∧w'=w:=by
 go_enter Tryz.func205,Tryz.ntmps205
 go_wp2_with (simp)
 go_ret
 exact⟨rfl,rfl⟩
theorem UP:gV Tryz.prog 205 QO:=by
 intro Z ψ h w B0 O N hh id e vs us g hB ba hN aX lZ qN A1 he;unfold QO at he
 split at he
 ·rename_i ex k xs
  cases he
  simp only[an,au,aB]at qN;obtain⟨v,iI,rfl,⟨⟨v',hv,A,c,rfl,hl,hc,hx⟩,_⟩,rfl⟩:=qN
  cases hv
  refine(Mm w A xs.length c hl).mono fun en w' ⟨e1,e2⟩=>?_;subst e2;refine⟨_,Z,ψ,e1,Next.refl g,?_⟩;simp only[bq.v,au,aB,ite_self];exact⟨⟨_,rfl,A,_,rfl,acn _,fun h0=>by have:=hc h0;omega,hx⟩,fun _=>⟨A,_,rfl⟩⟩
 ·cases he
  simp only[an,au]at qN;obtain⟨v,iI,rfl,rfl,rfl⟩:=qN;refine(Mm w none 0 0 (acn _)).mono fun en w' ⟨e1,e2⟩=>?_;subst e2;exact⟨_,Z,ψ,e1,Next.refl g,by simp only[bq.v,au,ite_self]⟩
 ·cases he
end Go.Vs
namespace Go.Vs
open Go.Proofs
theorem Ry:∀f g u,Sg f=some g→g.x=some u→gV Tryz.prog (f%1000) u:=fun f g u h hu=>by
 have hm:=Rr h;have key:(sgs.all fun p=>(p.2.x.isNone || (p.1==176 || (p.1==211 || (p.1==233 || (p.1==177 || (p.1==186 || (p.1==220 || (p.1==500096 || (p.1==205))))))))))=true:=by kernel_rfl
 have:=acH.1 key _ hm;simp only[hu,Option.isNone_some,Bool.false_or,Bool.or_eq_true,beq_iff_eq]at this;rcases this with rfl|rfl|rfl|rfl|rfl|rfl|rfl|rfl
 ·have e:Sg 176=some We:=by kernel_rfl
  rw[e]at h;cases h;cases hu;intro Z ψ h w B0 O N hh id e vs us;exact uC (k:=dP) XV
 ·have e:Sg 211=some Wi:=by kernel_rfl
  rw[e]at h;cases h;cases hu;intro Z ψ h w B0 O N hh id e vs us;exact uC (k:=fJ) XY
 ·have e:Sg 233=some Wj:=by kernel_rfl
  rw[e]at h;cases h;cases hu;intro Z ψ h w B0 O N hh id e vs us;exact uC (k:=di) X0
 ·have e:Sg 177=some Wg:=by kernel_rfl
  rw[e]at h;cases h;cases hu;intro Z ψ h w B0 O N hh id e vs us;exact B9 (k:=dP) XX
 ·have e:Sg 186=some Wh:=by kernel_rfl
  rw[e]at h;cases h;cases hu;intro Z ψ h w B0 O N hh id e vs us;exact B9 (k:=fJ) XZ
 ·have e:Sg 220=some Wl:=by kernel_rfl
  rw[e]at h;cases h;cases hu;intro Z ψ h w B0 O N hh id e vs us;exact Is (k:=bL) UE
 ·have e:Sg 500096=some Ia:=by kernel_rfl
  rw[e]at h;cases h;cases hu;intro Z ψ h w B0 O N hh id e vs us;exact Oj
 ·have e:Sg 205=some Wq:=by kernel_rfl
  rw[e]at h;cases h;cases hu;intro Z ψ h w B0 O N hh id e vs us;exact UP
end Go.Vs
