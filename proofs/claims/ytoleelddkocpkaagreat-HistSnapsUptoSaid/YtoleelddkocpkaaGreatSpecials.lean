/- slices.Insert -/
import Derived.Test.YtoleelddkocpkaaGreatEngineD
import Derived.Lib.AppendZerosOnto
import Derived.Lib.Overlaps
import Derived.Lib.Walk
import Derived.Shelf.Spec.SlicesInsert
import Derived.Laws.NewBlocks
set_option linter.unusedVariables false
set_option linter.unusedSimpArgs false
namespace Go.Vs
variable {P:Program} {w:World}
theorem qC(w:World)(t ty e:TypeId)(sz g n c:Nat)(a:Addr)(m mc:Nat)(cur:Array Value)(news:List Value)(ht:P.underlying t=some (.slice e))(hs:(P.info? e).map (·.size)=some sz) (hg:w.heap[g]? = some (.cells cur e (0,0))) (hl:news.length=m*sz) (Ar:∀(j:Nat) v,news[j]? = some v→w.cell? (a.add j)=some v) (h1:∀v∈news,v.oneCell'=true) (ep:n+m≤c) (iY:c*sz≤cur.size) :
  (Builtin.append_ #[t,t] ty #[.slice (some ⟨g,0,none⟩) n c,.slice (some a) m mc]).run P w=.ok (.slice (some ⟨g,0,none⟩) (n+m) c) (w.setRow g (cur.toList.take (n*sz)++news++cur.toList.drop (n*sz+news.length)).toArray):=by
 have hle:n*sz+m*sz≤c*sz:=by rw[←Nat.add_mul];exact ab0 _ ep
 have agP:=run_loadCells_list (P:=P) w a news Ar;have BH:=run_storeCells_at P g (n*sz) e news 0 cur w hg (by omega) h1;simp only[Nat.add_zero]at BH;have ha:(⟨g,0,none⟩:Addr).add (n*sz)=⟨g,n*sz,none⟩:=by rw[cF,Nat.zero_add]
 cases hq:P.info? e with
 |none=>simp_all
 |some i =>
  have hi:i.size=sz:=by simp_all
  simp[Builtin.append_,run_underlying ht,Builtin.lenOf,Builtin.firstCells,sizeOf,typeInfo,hq,hi,←hl,agP,ep,ha,BH]
theorem uc(w:World)(t ty e:TypeId)(sz g o k c:Nat)(cur:Array Value)(i:TypeInfo)(z:Value)(ht:P.underlying t=some (.slice e))(hi:P.info? e=some i)(hz:i.zero=some z)(KH:z.cells.size=sz)(h1:∀v∈z.cells.toList,v.oneCell'=true) (hg:w.heap[g]? = some (.cells cur e (0,0))) (hk:0<k) (R4:o+k*sz≤cur.size) :
  (Builtin.clear_ #[t] ty #[.slice (some ⟨g,o,none⟩) k c]).run P w=.ok (.tuple #[]) (w.setRow g (cur.toList.take o++(Builtin.zeroCells z.cells k).toList++cur.toList.drop (o+(Builtin.zeroCells z.cells k).toList.length)).toArray):=by
 have hl:(Builtin.zeroCells z.cells k).toList.length=k*sz:=by simp[Builtin.zeroCells,KH]
 have Jh:∀v∈(Builtin.zeroCells z.cells k).toList,v.oneCell'=true:=fun v hv=>by
  simp only[Builtin.zeroCells,Array.toList_map,List.mem_map]at hv;obtain⟨q,hq,rfl⟩:=hv;have hq':q<k*z.cells.size:=by simpa using hq
  have hp:0<z.cells.size:=by
   rcases Nat.eq_zero_or_pos z.cells.size with h|h
   ·rw[h,Nat.mul_zero]at hq';omega
   ·exact h
  have aG:q%z.cells.size<z.cells.size:=aeM _ hp;rw[getElem!_pos z.cells _ aG];exact h1 _ (by simp)
 have BH:=run_storeCells_at P g o e (Builtin.zeroCells z.cells k).toList 0 cur w hg (by omega) Jh;simp only[Nat.add_zero]at BH;obtain⟨m,rfl⟩:∃m,k=m+1:=⟨k-1,by omega⟩;simp[Builtin.clear_,run_underlying ht,zeroValue,typeInfo,hi,hz,BH]
end Go.Vs
namespace Go.Vs
open Go.Proofs Go.RowKit
def Fb(P:Program)(f:FuncId)(e:TypeId)(size:Nat):Prop :=∀(w:World) (v u:Value) (n i:Nat) (xs ys:List Value),eE w e size v n xs→eE w e size u 1 ys→i≤n→n+1≤fH→(∀b,ob v=some b→ob u≠some b) →(∀q∈xs,q.oneCell'=true)→(∀q∈ys,q.oneCell'=true) → Calls P f #[v,.int .i64 i,u] w fun en w'=>∃v',en=.returned v'∧eE w' e size v' (n+1) (xs.take (i*size)++(ys++xs.drop (i*size)))∧w.grownBy w' (ob v)∧(ob v'=ob v∨∀b,ob v'=some b→w.heap.size≤b)
def JW(P:Program)(f:FuncId)(e:TypeId)(sz:Nat):Prop:=∀(w:World) (v u:Value) (n:Nat) (xs ys:List Value) (hv:eE w e sz v n xs) (hu:eE w e sz u 1 ys) (hm:n+1≤fH) (h1:∀q∈ys,q.oneCell'=true),Calls P f #[v,.int .i64 n,u] w fun en w'=>∃v',en=.returned v'∧eE w' e sz v' (n+1) (xs++ys)∧w.grownBy w' (ob v)∧(ob v'=ob v∨∀b,ob v'=some b→w.heap.size≤b)
def zn(P:Program)(f:FuncId)(e:TypeId)(sz:Nat):Prop:=∀(w:World) (g c g2 c2 n i:Nat) (xs ys:List Value) (cur dH:Array Value) (hg:w.heap[g]? = some (.cells cur e (0,0))) (iY:cur.size=c*sz) (mi:cur.toList.take (n*sz)=xs) (vR:xs.length=n*sz) (xW:w.heap[g2]? = some (.cells dH e (0,0))) (qD:dH.size=c2*sz) (rp:0<c2) (lZ:dH.toList.take (1*sz)=ys) (GZ:ys.length=1*sz) (bA:g2≠g) (hi:i<n) (ep:n+1≤c) (hc:c≤maxLen) (h1:∀q∈xs,q.oneCell'=true) (h2:∀q∈ys,q.oneCell'=true),Calls P f #[.slice (some ⟨g,0,none⟩) n c,.int .i64 i,.slice (some ⟨g2,0,none⟩) 1 c2] w fun en w'=>en=.returned (.slice (some ⟨g,0,none⟩) (n+1) c) ∧ ∃il:Array Value,w'.heap[g]? = some (.cells il e (0,0))∧il.size=cur.size∧il.toList.take ((n+1)*sz)=xs.take (i*sz)++(ys++xs.drop (i*sz))∧w.grownBy w' (some g)
def C7(P:Program)(f:FuncId)(e:TypeId)(sz:Nat):Prop:=∀(w:World) (g c g2 c2 n i:Nat) (xs ys:List Value) (cur dH:Array Value) (hg:w.heap[g]? = some (.cells cur e (0,0))) (iY:cur.size=c*sz) (mi:cur.toList.take (n*sz)=xs) (vR:xs.length=n*sz) (xW:w.heap[g2]? = some (.cells dH e (0,0))) (qD:dH.size=c2*sz) (rp:0<c2) (lZ:dH.toList.take (1*sz)=ys) (GZ:ys.length=1*sz) (bA:g2≠g) (hi:i<n) (BI:n≤c) (ep:c<n+1) (hm:n+1≤fH) (h1:∀q∈xs,q.oneCell'=true) (h2:∀q∈ys,q.oneCell'=true),Calls P f #[.slice (some ⟨g,0,none⟩) n c,.int .i64 i,.slice (some ⟨g2,0,none⟩) 1 c2] w fun en w'=>∃G,en=.returned (.slice (some ⟨w.heap.size,0,none⟩) (n+1) G) ∧ ∃il:Array Value,w'.heap[w.heap.size]? = some (.cells il e (0,0))∧il.size=G*sz∧n+1≤G∧G≤maxLen∧il.toList.take ((n+1)*sz)=xs.take (i*sz)++(ys++xs.drop (i*sz))∧w.grownBy w' (some g)
theorem JX{w:World}{e sz:Nat}{u:Value}{ys:List Value}(hu:eE w e sz u 1 ys)(h1:∀q∈ys,q.oneCell'=true):Y8 w sz u 1 ys:=by
 refine⟨hu.1,h1,.inr ?_⟩;rcases hu.2 with⟨h0,_⟩|⟨g,cap,cur,rfl,_,hg,_,_,hc,mi⟩
 ·cases h0
 ·refine⟨_,_,rfl,fun j q hj=>?_⟩;rw[cF,Nat.zero_add];rw[←mi,List.getElem?_take]at hj
  split at hj
  ·simp[World.cell?,hg];simpa using hj
  ·cases hj
theorem Wm{α:Type}{cur xs ys cur1 cur3:List α}{i n sz:Nat}(mi:cur.take (n*sz)=xs)(hl:(n+1)*sz≤cur.length)(hy:ys.length=sz)(hi:i≤n) (h1:cur1=cur.take ((i+1)*sz)++xs.drop (i*sz)++cur.drop ((i+1)*sz+(xs.drop (i*sz)).length)) (h3:cur3=cur1.take (i*sz)++ys++cur1.drop (i*sz+ys.length)) :
  cur3.take ((n+1)*sz)=xs.take (i*sz)++(ys++xs.drop (i*sz)):=by
 have Fc:i*sz≤n*sz:=ab0 _ hi;rw[Nat.add_mul,Nat.one_mul]at hl h1 ⊢;have vR:xs.length=n*sz:=by rw[←mi,List.length_take];omega
 generalize i*sz=a at *;generalize n*sz=b at *;have e1:cur1.take a=xs.take a:=by
  grind
 have e2:cur1.drop (a+ys.length)=xs.drop a++cur.drop (a+1*sz+(xs.drop a).length):=by
  rw[h1,List.append_assoc,Nat.one_mul,hy]
  grind
 grind [List.append_assoc,List.take_left',List.length_append,List.length_take,List.length_drop]
theorem xz{w:World}{e size:Nat}{g n:Nat}{cur:Array Value}{xs:List Value}(hg:w.heap[g]? = some (.cells cur e (0,0)))(mi:cur.toList.take (n*size)=xs)(o:Nat):∀(j:Nat) q,(xs.drop o)[j]? = some q→w.cell? ((⟨g,o,none⟩:Addr).add j)=some q:=fun j q hj=>by
 rw[cF];rw[List.getElem?_drop,←mi,List.getElem?_take]at hj
 split at hj
 ·simp[World.cell?,hg];simpa using hj
 ·cases hj
theorem xC{P:Program}{t e sz:Nat}(ht:P.underlying t=some (.slice e))(hz:(P.info? e).map (·.size)=some sz)(w:World)(g c g2 c2 n i:Nat)(xs ys:List Value)(cur dH:Array Value)(hg:w.heap[g]? = some (.cells cur e (0,0)))(iY:cur.size=c*sz)(mi:cur.toList.take (n*sz)=xs)(vR:xs.length=n*sz)(xW:w.heap[g2]? = some (.cells dH e (0,0)))(qD:dH.size=c2*sz)(rp:0<c2)(lZ:dH.toList.take (1*sz)=ys)(GZ:ys.length=1*sz)(bA:g2≠g)(hi:i<n)(ep:n+1≤c)(hc:c≤maxLen)(h1:∀q∈xs,q.oneCell'=true)(h2:∀q∈ys,q.oneCell'=true) :
  ∃cur1 cur3:Array Value,(∀(W:World),W.heap=w.heap→∀ty dc sc,(Builtin.copy_ #[t,t] ty #[.slice (some ⟨g,(i+1)*sz,none⟩) (n-i) dc,.slice (some ⟨g,i*sz,none⟩) (n+1-i) sc]).run P W=.ok (goInt (n-i:Nat)) (W.setRow g cur1))∧(∀ty dc sc,(Builtin.copy_ #[t,t] ty #[.slice (some ⟨g,i*sz,none⟩) (n+1-i) dc,.slice (some ⟨g2,0,none⟩) 1 sc]).run P (w.drew.setRow g cur1)=.ok (goInt 1) ((w.drew.setRow g cur1).setRow g cur3))∧cur3.size=cur.size∧cur3.toList.take ((n+1)*sz)=xs.take (i*sz)++(ys++xs.drop (i*sz)):=by
 have R8:=xz (size:=sz) (n:=1) xW lZ 0;have BJ:=xz (size:=sz) (n:=n) hg mi (i*sz);have h63:c≤9223372036854775807:=by grind [maxLen]
 have m6:(n+1)*sz≤c*sz:=ab0 _ ep;have m1:(n+1)*sz=n*sz+sz:=aeS ..;have m2:(i+1)*sz=i*sz+sz:=aeS ..;have m3:(n-i)*sz=n*sz-i*sz:=Nat.sub_mul ..;have m4:(i+1)*sz≤n*sz:=ab0 _ hi;have m5:1*sz=sz:=Nat.one_mul _;have hn5:n*sz≤cur.size:=by omega
 obtain⟨cur1,uf⟩:∃cur1:Array Value,cur1=(cur.toList.take ((i+1)*sz)++xs.drop (i*sz)++cur.toList.drop ((i+1)*sz+(xs.drop (i*sz)).length)).toArray:=⟨_,rfl⟩;have Mi:(xs.drop (i*sz)).length=(n-i)*sz:=by simp_all
 have OP:∀(W:World),W.heap=w.heap→∀ty dc sc,(Builtin.copy_ #[t,t] ty #[.slice (some ⟨g,(i+1)*sz,none⟩) (n-i) dc,.slice (some ⟨g,i*sz,none⟩) (n+1-i) sc]).run P W=.ok (goInt (n-i:Nat)) (W.setRow g cur1):=fun W hW ty dc sc=>by
  have:=jf (P:=P) W t t ty e sz g ((i+1)*sz) (n-i) dc ⟨g,i*sz,none⟩ (n+1-i) sc cur e (xs.drop (i*sz)) ht hz (by simp_all) (by grind) (fun j v hj=>by grind [World.cell?]) (by omega) (fun q hq=>h1 q (aeD hq))
  grind
 have NJ:cur1.size=cur.size:=by grind
 obtain⟨cur3,Wn⟩:∃cur3:Array Value,cur3=(cur1.toList.take (i*sz)++ys++cur1.toList.drop (i*sz+ys.length)).toArray:=⟨_,rfl⟩;have alY:∀(W:World),W.heap[g]? = some (.cells cur1 e (0,0))→W.heap[g2]? = w.heap[g2]?→∀ty dc sc,(Builtin.copy_ #[t,t] ty #[.slice (some ⟨g,i*sz,none⟩) (n+1-i) dc,.slice (some ⟨g2,0,none⟩) 1 sc]).run P W=.ok (goInt 1) (W.setRow g cur3):=fun W hW hW2 ty dc sc=>by have:=jf (P:=P) W t t ty e sz g (i*sz) (n+1-i) dc ⟨g2,0,none⟩ 1 sc cur1 e ys ht hz hW (by rw[GZ];simp only[Nat.min_def];split<;>omega) (fun j v hj=>by grind [World.cell?,fV]) (by omega) h2;rw[this,Wn];congr 2;simp only[Nat.min_def];split<;>omega
 have T7:cur3.size=cur.size:=by rw[Wn];simp;omega
 have j7:cur3.toList.take ((n+1)*sz)=xs.take (i*sz)++(ys++xs.drop (i*sz)):=Wm (sz:=sz) (cur1:=cur1.toList) (cur3:=cur3.toList) mi (by simp;omega) (by rw[GZ,m5]) (Nat.le_of_lt hi) (by rw[uf]) (by rw[Wn]);exact⟨cur1,cur3,OP,alY (w.drew.setRow g cur1) (setRow_heap w.drew g cur _ e _ hg) (_root_.Go.setRow_other w.drew g g2 _ bA),T7,j7⟩
theorem xD{n i c:Nat}(hi:i<n)(ep:n+1≤c)(hc:c≤maxLen):(IntKind.i64.wrap ((i:Int)+1)=(i:Int)+1)∧(IntKind.i64.wrap ((n:Int)+1)=(n:Int)+1)∧((0:Int)≤(i:Int)+1)∧(i≤n)∧(((i:Int)+1).toNat=i+1)∧(¬(c=i+1))∧((i:Int)≤(n:Int)+1)∧(¬(c=i))∧(¬((i:Int)=(n:Int)))∧(¬((c:Int)<(n:Int)+1)):=by
 grind [maxLen,IntKind.wrap_i64]
theorem SW{α:Type}{row xs ys row2 row3:List α}{i n sz:Nat}(hA:row.take (i*sz)=xs.take (i*sz))(hl:(n+1)*sz≤row.length)(vR:xs.length=n*sz)(hy:ys.length=sz)(hi:i≤n) (h2:row2=row.take (i*sz)++ys++row.drop (i*sz+ys.length)) (h3:row3=row2.take ((i+1)*sz)++xs.drop (i*sz)++row2.drop ((i+1)*sz+(xs.drop (i*sz)).length)) :
  row3.take ((n+1)*sz)=xs.take (i*sz)++(ys++xs.drop (i*sz)):=by
 have Fc:i*sz≤n*sz:=ab0 _ hi;rw[Nat.add_mul,Nat.one_mul]at hl h3 ⊢;generalize i*sz=a at *;generalize n*sz=b at *;have e1:row2.take (a+1*sz)=xs.take a++ys:=by
  grind
 rw[Nat.one_mul]at e1
 grind [List.take_left',List.length_append,List.length_take,List.length_drop,List.append_assoc]
theorem A1{P:Program}{t e sz:Nat}{k:K}{i0:TypeInfo}{z0:Value}(hk:k.sz=sz)(h0:0<sz)(ht:P.underlying t=some (.slice e))(htn:P.underlying 3=some (.int .i64))(he:pI P e k i0 z0)(w:World)(g c g2 c2 n i:Nat)(xs ys:List Value)(cur dH:Array Value)(hg:w.heap[g]? = some (.cells cur e (0,0)))(iY:cur.size=c*sz)(mi:cur.toList.take (n*sz)=xs)(vR:xs.length=n*sz)(xW:w.heap[g2]? = some (.cells dH e (0,0)))(qD:dH.size=c2*sz)(rp:0<c2)(lZ:dH.toList.take (1*sz)=ys)(GZ:ys.length=1*sz)(bA:g2≠g)(hi:i<n)(BI:n≤c)(ep:c<n+1)(hm:n+1≤fH)(h1:∀q∈xs,q.oneCell'=true)(h2:∀q∈ys,q.oneCell'=true) :
  ∃(G:Nat) (vU row2 row3:Array Value) (W1:World),(∀ty,(Builtin.append_ #[t,3] ty #[.slice (some ⟨g,0,none⟩) i c,.int .i64 ((n:Int)+1-(i:Int))]).run P w=.ok (.slice (some ⟨w.heap.size,0,none⟩) (n+1) G) W1)∧W1.heap[w.heap.size]? = some (.cells vU e (0,0))∧(∀b,b<w.heap.size→W1.heap[b]? = w.heap[b]?)∧w.grownBy W1 none∧(∀(W:World),W.heap=W1.heap→∀ty dc sc,(Builtin.copy_ #[t,t] ty #[.slice (some ⟨w.heap.size,i*sz,none⟩) (n+1-i) dc,.slice (some ⟨g2,0,none⟩) 1 sc]).run P W=.ok (goInt 1) (W.setRow w.heap.size row2))∧(∀(W:World),W.heap=(W1.setRow w.heap.size row2).heap→∀ty dc sc,(Builtin.copy_ #[t,t] ty #[.slice (some ⟨w.heap.size,(i+1)*sz,none⟩) (n-i) dc,.slice (some ⟨g,i*sz,none⟩) (n-i) sc]).run P W=.ok (goInt (n-i:Nat)) (W.setRow w.heap.size row3))∧row3.size=G*sz∧n+1≤G∧G≤9223372036854775807∧row3.toList.take ((n+1)*sz)=xs.take (i*sz)++(ys++xs.drop (i*sz)):=by
 have NL:z0.cells.size=sz:=he.yj.trans hk;have KH:i0.size=sz:=he.size.trans hk;have hz:(P.info? e).map (·.size)=some sz:=by rw[he.info];simp_all
 have NM:=he.bytes;have R8:=xz (size:=sz) (n:=1) xW lZ 0;have BJ:=xz (size:=sz) (n:=n) hg mi (i*sz);have aqQ:=xz (size:=sz) (n:=n) hg mi 0;have hgl:g<w.heap.size:=(abB.1 hg).1;have aqR:g2<w.heap.size:=(abB.1 xW).1;unfold fH at hm;have m1:(n+1)*sz=n*sz+sz:=aeS ..;have m2:(i+1)*sz=i*sz+sz:=aeS ..;have m3:(n-i)*sz=n*sz-i*sz:=Nat.sub_mul ..;have m4:(i+1)*sz≤n*sz:=ab0 _ hi;have m5:1*sz=sz:=Nat.one_mul _;have m6:(n+1-i)*sz=n*sz+sz-i*sz:=by grind
 have tK:(n+1)*i0.bytes≤140737488355328:=acR (aeU hm NM) (by decide);have hold:(Builtin.firstCells i0.size i (.slice (some ⟨g,0,none⟩) i c)).run P w.drew=.ok (xs.take (i*sz)).toArray w.drew:=by rw[KH];exact run_firstCells_some w.drew sz i ⟨g,0,none⟩ i c (xs.take (i*sz)) (by grind) (fun j v hj=>by simp_all [List.getElem?_take])
 obtain⟨G,hG⟩:∃G,G=grownCap w (n+1) c e:=⟨_,rfl⟩;obtain⟨vU,ada⟩:∃vU:Array Value,vU=(xs.take (i*sz)).toArray++Builtin.zeroCells z0.cells (n+1-i)++Builtin.zeroCells z0.cells (G-(n+1)):=⟨_,rfl⟩;have hik:i+(n+1-i)=n+1:=by omega
 have YO:∀ty,(Builtin.append_ #[t,3] ty #[.slice (some ⟨g,0,none⟩) i c,.int .i64 ((n:Int)+1-(i:Int))]).run P w=.ok (.slice (some ⟨w.heap.size,0,none⟩) (n+1) G) (w.drew.alloc (.cells vU e)):=fun ty=>by
  have h:=Lib.run_append_grow_zeros w t 3 ty e i0 z0 .i64 .i64 ht htn he.info he.zero (some ⟨g,0,none⟩) i c (xs.take (i*sz)) hold (n+1-i) (by omega) (by omega) (by omega) (by omega) (acR (ab0 _ (show n+1-i≤n+1 by omega)) (by omega)) (by simp_all [growslice_fits])
  grind
 have SX:n+1≤G:=by grind [grownCap_ge]
 have m7:(G-(n+1))*sz=G*sz-(n*sz+sz):=by rw[Nat.sub_mul,m1]
 have m8:(n+1)*sz≤G*sz:=ab0 _ SX;have JY:G≤9223372036854775807:=by
  grind [grownCap_le_maxLen,maxLen]
 have hRs:vU.size=G*sz:=by
  grind [Builtin.zeroCells,List.length_take,Nat.min_eq_left]
 have hRt:vU.toList.take (i*sz)=xs.take (i*sz):=by
  grind
 obtain⟨W1,Il⟩:∃W1,W1=w.drew.alloc (.cells vU e):=⟨_,rfl⟩;have JZ:W1.heap[w.heap.size]? = some (.cells vU e (0,0)):=by rw[Il];exact(MapKept.heap_alloc w.drew (.cells vU e)).1
 have G1:∀b,b<w.heap.size→W1.heap[b]? = w.heap[b]? := fun b hb=>by rw[Il];exact(Below.heap_alloc w.drew (.cells vU e) b hb).trans rfl
 have td:w.grownBy W1 none:=⟨by rw[Il];rfl,by rw[Il];rfl,by rw[Il];rfl,by simp_all,fun k hk _=>G1 k hk⟩;obtain⟨row2,agR⟩:∃row2:Array Value,row2=(vU.toList.take (i*sz)++ys++vU.toList.drop (i*sz+ys.length)).toArray:=⟨_,rfl⟩;have R7:row2.size=vU.size:=by grind
 have OQ:∀(W:World),W.heap=W1.heap→∀ty dc sc,(Builtin.copy_ #[t,t] ty #[.slice (some ⟨w.heap.size,i*sz,none⟩) (n+1-i) dc,.slice (some ⟨g2,0,none⟩) 1 sc]).run P W=.ok (goInt 1) (W.setRow w.heap.size row2):=fun W hW ty dc sc=>by
  have:=jf (P:=P) W t t ty e sz w.heap.size (i*sz) (n+1-i) dc ⟨g2,0,none⟩ 1 sc vU e ys ht hz (by simp_all) (by grind) (fun j v hj=>by grind [World.cell?,fV]) (by omega) h2
  grind
 obtain⟨row3,abA⟩:∃row3:Array Value,row3=(row2.toList.take ((i+1)*sz)++xs.drop (i*sz)++row2.toList.drop ((i+1)*sz+(xs.drop (i*sz)).length)).toArray:=⟨_,rfl⟩;have Mi:(xs.drop (i*sz)).length=(n-i)*sz:=by grind
 have T7:row3.size=vU.size:=by rw[abA];simp;omega
 have OR:∀(W:World),W.heap=(W1.setRow w.heap.size row2).heap→∀ty dc sc,(Builtin.copy_ #[t,t] ty #[.slice (some ⟨w.heap.size,(i+1)*sz,none⟩) (n-i) dc,.slice (some ⟨g,i*sz,none⟩) (n-i) sc]).run P W=.ok (goInt (n-i:Nat)) (W.setRow w.heap.size row3):=fun W hW ty dc sc=>by
  have:=jf (P:=P) W t t ty e sz w.heap.size ((i+1)*sz) (n-i) dc ⟨g,i*sz,none⟩ (n-i) sc row2 e (xs.drop (i*sz)) ht hz (by grind [setRow_heap]) (by grind) (fun j v hj=>by grind [World.cell?,fV,_root_.Go.setRow_other,Nat.ne_of_lt]) (by omega) (fun q hq=>h1 q (aeD hq))
  grind
 have j7:row3.toList.take ((n+1)*sz)=xs.take (i*sz)++(ys++xs.drop (i*sz)):=SW (sz:=sz) (row:=vU.toList) (row2:=row2.toList) (row3:=row3.toList) hRt (by simp;omega) vR (by rw[GZ,m5]) (by omega) (by rw[agR]) (by rw[abA]);rw[←Il]at YO;exact⟨G,vU,row2,row3,W1,YO,JZ,G1,td,OQ,OR,by omega,SX,JY,j7⟩
theorem A2{n i c G:Nat}(hi:i<n)(BI:n≤c)(ep:c<n+1)(hm:n+1≤fH)(SX:n+1≤G):(IntKind.i64.wrap ((i:Int)+1)=(i:Int)+1)∧(IntKind.i64.wrap ((n:Int)+1)=(n:Int)+1)∧(IntKind.i64.wrap ((n:Int)+1-(i:Int))=(n:Int)+1-(i:Int))∧((0:Int)≤(i:Int)+1)∧(i≤n)∧(((i:Int)+1).toNat=i+1)∧(¬(G=i))∧(¬(G=i+1))∧(¬(c=i))∧((i:Int)≤(n:Int))∧(¬((i:Int)=(n:Int)))∧((c:Int)<(n:Int)+1):=by
 grind [fH,IntKind.wrap_i64]
theorem OT{P:Program}{f:FuncId}{e:TypeId}{sz:Nat}(hE:JW P f e sz)(hS:zn P f e sz)(hG:C7 P f e sz):Fb P f e sz:=fun w v u n i xs ys hv hu hi hm Zz h1 h2=>by
 by_cases he:i=n
 ·subst he;refine(hE w v u i xs ys hv hu hm h2).mono fun en w' ⟨v',e1,e2,e3,e4⟩=>⟨v',e1,?_,e3,e4⟩;have hl:=hv.1
  grind
 ·have sN:i<n:=by omega
  have m1:(n+1)*sz=n*sz+sz:=aeS ..;have m4:i*sz≤n*sz:=ab0 _ hi;have m5:1*sz=sz:=Nat.one_mul _;rcases hv.2 with⟨h0,_⟩|⟨g,c,cur,rfl,hc0,hg,BI,YP,iY,mi⟩
  ·omega
  rcases hu.2 with⟨h0,_⟩|⟨g2,c2,dH,rfl,agS,xW,_,_,qD,lZ⟩
  ·omega
  have pT:ob (.slice (some ⟨g,0,none⟩) n c)=some g:=by simp only[ob];grind
  have alZ:ob (.slice (some ⟨g2,0,none⟩) 1 c2)=some g2:=by simp only[ob];grind
  have bA:g2≠g:=fun e=>Zz g pT (by rw[alZ,e]);by_cases ep:n+1≤c
  ·refine(hS w g c g2 c2 n i xs ys cur dH hg iY mi hv.1 xW qD agS lZ hu.1 bA sN ep YP h1 h2).mono fun en w' ⟨e1,il,e2,e3,e4,e5⟩=>?_;refine⟨_,e1,⟨?_,.inr ⟨g,c,il,rfl,hc0,e2,ep,YP,by rw[e3,iY],e4⟩⟩,by simp_all,.inl ?_⟩
   ·have hl:=hv.1;have tL:=hu.1
    grind
   rfl
  ·refine(hG w g c g2 c2 n i xs ys cur dH hg iY mi hv.1 xW qD agS lZ hu.1 bA sN BI (by omega) hm h1 h2).mono fun en w' ⟨G,e1,il,e2,e3,e4,e5,e6,e7⟩=>?_;refine⟨_,e1,⟨?_,.inr ⟨w.heap.size,G,il,rfl,by omega,e2,e4,e5,e3,e6⟩⟩,by simp_all,.inr fun b hb=>?_⟩
   ·have hl:=hv.1;have tL:=hu.1
    grind
   simp_all [ob,if_neg]
set_option maxHeartbeats 4000000 in
set_option maxRecDepth 100000 in
theorem OU:JW Tryz.prog 153 38 5:=fun w v u n xs ys hv hu hm h1=>by
 have ht:Tryz.prog.underlying 24=some (.slice 38):=by kernel_rfl
 obtain⟨i0,z0,he⟩:=cx (P:=Tryz.prog) (e:=38) (k:=.pair (.pair (.int .i64) (.int .i64)) (.pair (.sl (.pair (.pair (.int .i64) (.int .i64)) (.int .i64))) (.pair .str (.int .i64)))) (by kernel_rfl);have Ar:=JX hu h1;obtain⟨v',w',dC,h4,h5,h6⟩:=eJ (P:=Tryz.prog) (ty:=24) ht he hv Ar hm;obtain⟨A,c,rfl⟩:=hv.slice;have BI:n≤c:=by
  rcases hv.2 with⟨h0,A,e⟩|⟨g,cap,cur,e,hc,h2,h3,_⟩
  ·omega
  simp_all
 obtain⟨B,cu,rfl⟩:=hu.slice;have agT:n≤1073741824:=by grind [fH]
 go_enter Tryz.func153,Tryz.ntmps153
 go_wp2_with (at_builtin;refine Lib.wpList_append_run _ rfl _ _ _ _ rfl _ _ rfl rfl _ _ dC ?_)
 all_goals go_ret
 all_goals first|exact⟨_,rfl,h4,h5,h6⟩|(subst_vars;exact⟨_,rfl,h4,h5,h6⟩)
set_option maxHeartbeats 4000000 in
set_option maxRecDepth 100000 in
theorem J0:zn Tryz.prog 153 38 5:=fun w g c g2 c2 n i xs ys cur dH hg iY mi vR xW qD rp lZ GZ bA hi ep hc h1 h2=>by
 have ht:Tryz.prog.underlying 24=some (.slice 38):=by kernel_rfl
 have hz:(Tryz.prog.info? 38).map (·.size)=some 5:=by kernel_rfl
 have KH:∀w,(Go.sizeOf 38).run Tryz.prog w=.ok 5 w:=fun w=>by rfl
 have YQ:∀a2 lb cb,(callFunc 189 #[.slice (some ⟨g2,0,none⟩) 1 c2,.slice (some ⟨g,a2,none⟩) lb cb]).run Tryz.prog w=.ok (.value (.bool false)) w:=fun a2 lb cb=>by rw[run_callFunc_extern Tryz.func189 (by kernel_rfl) (by kernel_rfl) (by kernel_rfl) (e:=Extern.SlicesOverlaps.overlaps #[24,24] #[4]) (by kernel_rfl),Lib.run_overlaps_apart w 24 4 38 ht 5 KH ⟨g2,0,none⟩ ⟨g,a2,none⟩ 1 c2 lb cb bA 38 38 dH.size cur.size (by simp[World.shape?,xW]) (by simp[World.shape?,hg]) (by omega) (by simp[World.frozen?,xW]) (by simp[World.frozen?,xW])];rfl
 obtain⟨cur1,cur3,OP,Mj,T7,j7⟩:=xC ht hz w g c g2 c2 n i xs ys cur dH hg iY mi vR xW qD rp lZ GZ bA hi ep hc h1 h2;have h63:c≤9223372036854775807:=by grind [maxLen]
 obtain⟨Qa,ZA,hb1,sN,htn,KI,hb3,hb4,CQ,P0⟩:=xD hi ep hc;clear mi lZ;have mixed:Tryz.prog.follows .mixedOrders=true:=by kernel_rfl
 go_enter Tryz.func153,Tryz.ntmps153
 go_wp2_with (simp only[YQ])
 go_region_law (go_loud (refine step_copy_runI rfl _ _ 24 24 rfl (.slice (some ⟨g,(i+1)*5,none⟩) (n-i) (c-(i+1))) (.slice (some ⟨g,i*5,none⟩) (n+1-i) (c-i)) (by simp[Act.eval,Act.put]) (by simp[Act.eval,Act.put]) (OP w.drew rfl 3 (c-(i+1)) (c-i)) ?_))
 go_wp2_with (simp only[Mj])
 go_ret
 refine⟨rfl,cur3,setRow_heap _ g cur1 _ 38 _ (setRow_heap w.drew g cur _ 38 _ hg),T7,j7,⟨rfl,rfl,rfl,by simp_all,fun k hk SY=>?_⟩⟩;have uh:k≠g:=fun e=>SY (by rw[e]);rw[_root_.Go.setRow_other _ g k _ uh,_root_.Go.setRow_other _ g k _ uh];rfl
set_option maxHeartbeats 4000000 in
set_option maxRecDepth 100000 in
theorem Mk:C7 Tryz.prog 153 38 5:=fun w g c g2 c2 n i xs ys cur dH hg iY mi vR xW qD rp lZ GZ bA hi BI ep hm h1 h2=>by
 have ht:Tryz.prog.underlying 24=some (.slice 38):=by kernel_rfl
 obtain⟨i0,z0,he⟩:=cx (P:=Tryz.prog) (e:=38) (k:=.pair (.pair (.int .i64) (.int .i64)) (.pair (.sl (.pair (.pair (.int .i64) (.int .i64)) (.int .i64))) (.pair .str (.int .i64)))) (by kernel_rfl);obtain⟨G,vU,row2,row3,W1,YO,JZ,G1,td,OQ,OR,T7,SX,JY,j7⟩:=A1 (sz:=5) rfl (by decide) ht (by kernel_rfl) he w g c g2 c2 n i xs ys cur dH hg iY mi vR xW qD rp lZ GZ bA hi BI ep hm h1 h2;obtain⟨Qa,ZA,hw3,hb1,sN,agW,hGi,agX,hci,hb3,CQ,P0⟩:=A2 hi BI ep hm SX;unfold fH at hm;clear mi lZ;have mixed:Tryz.prog.follows .mixedOrders=true:=by kernel_rfl
 go_enter Tryz.func153,Tryz.ntmps153
 go_wp2_with (first
  |(at_builtin;refine Lib.wpList_append_run _ rfl _ _ _ _ rfl _ _ rfl rfl _ _ (YO _) ?_)
  |(at_builtin;refine wpList_copy_runI _ rfl _ _ 24 24 rfl _ _ rfl rfl (OQ _ (by rfl) _ _ _) ?_))
 go_region_law (go_loud (refine step_copy_runI rfl _ _ 24 24 rfl (.slice (some ⟨w.heap.size,(i+1)*5,none⟩) (n-i) (G-(i+1))) (.slice (some ⟨g,i*5,none⟩) (n-i) (c-i)) (by simp[Act.eval,Act.put]) (by simp[Act.eval,Act.put]) (OR (W1.setRow w.heap.size row2).drew rfl 3 (G-(i+1)) (c-i)) ?_))
 go_wp2
 go_ret
 refine⟨G,rfl,row3,setRow_heap _ w.heap.size row2 _ 38 _ (setRow_heap W1 w.heap.size vU _ 38 _ JZ),by omega,SX,JY,j7,⟨td.os,td.tape,td.output,by have:=td.size;simp_all,fun k hk _=>?_⟩⟩;rw[_root_.Go.setRow_other _ w.heap.size k _ (Nat.ne_of_lt hk)];exact(_root_.Go.setRow_other W1 w.heap.size k _ (Nat.ne_of_lt hk)).trans (G1 k hk)
theorem adb:Fb Tryz.prog 153 38 5:=OT OU J0 Mk
def OV(P:Program)(f:FuncId)(e:TypeId)(size:Nat):Prop :=∀(w:World) (v:Value) (n i j:Nat) (xs:List Value),eE w e size v n xs→i<j→j≤n→n≤fH→(∀q∈xs,q.oneCell'=true) → Calls P f #[v,.int .i64 i,.int .i64 j] w fun en w'=>∃v',en=.returned v'∧eE w' e size v' (i+(n-j)) (xs.take (i*size)++xs.drop (j*size))∧w.grownBy w' (ob v)∧ob v'=ob v
theorem jw{P:Program}{ops:Array Oper}{o:Oper}{a:Act}{w:World}{K:Act→World→Prop}{Q:Exit→Act→World→Prop}{E:Prop} (hg:o.guard=none) (d x:Operand) (dT sT:TypeId) (P9:o.op=Op.call { callee:=Callee.builtin Builtin.append,args:=#[d,x],argTypes:=#[dT,sT] }) (v u:Value) (hd:a.eval d=v) (hx:a.eval x=u) {v':Value} {w':World} (hr:(Builtin.append_ #[dT,sT] o.type #[v,u]).run P w=.ok v' w') (hK:K (a.put o.dst v') w') :
  if Region.wanted o (yielded ops a.tmps)=true then Oper.wp P o a w K Q else E:=by
 have hw:Region.wanted o (yielded ops a.tmps)=true:=by simp[Region.wanted,hg]
 rw[if_pos hw];unfold Oper.wp;simp[execOp,P9,resolve,invoke,builtin,hd,hx,hr,Result.andThen];exact hK
theorem Ml{α:Type}{cur xs cur1 dH zs:List α}{i j n sz:Nat}(mi:cur.take (n*sz)=xs)(hl:n*sz≤cur.length)(GG:i≤j)(T0:j≤n) (h1:cur1=cur.take (i*sz)++xs.drop (j*sz)++cur.drop (i*sz+(xs.drop (j*sz)).length)) (h2:dH=cur1.take ((i+(n-j))*sz)++zs++cur1.drop ((i+(n-j))*sz+zs.length)) :
  dH.take ((i+(n-j))*sz)=xs.take (i*sz)++xs.drop (j*sz):=by
 have ha:i*sz≤j*sz:=ab0 _ GG;have hb:j*sz≤n*sz:=ab0 _ T0;rw[Nat.add_mul,Nat.sub_mul]at h2 ⊢;have vR:xs.length=n*sz:=by rw[←mi,List.length_take];omega
 generalize i*sz=a at *;generalize j*sz=b at *;generalize n*sz=c at *;have e0:cur.take a=xs.take a:=by rw[←mi,List.take_take];congr 1;omega
 have e1:cur1.take (a+(c-b))=xs.take a++xs.drop b:=by rw[h1,e0];exact List.take_left' (by simp only[List.length_append,List.length_take,List.length_drop];omega)
 rw[h2,e1,List.append_assoc];exact List.take_left' (by simp only[List.length_append,List.length_take,List.length_drop];omega)
set_option maxHeartbeats 4000000 in
set_option maxRecDepth 100000 in
theorem Mm(w:World)(g c n i j X:Nat)(xs:List Value)(cur:Array Value)(hg:w.heap[g]? = some (.cells cur 38 (0,0)))(iY:cur.size=c*5)(mi:cur.toList.take (n*5)=xs)(vR:xs.length=n*5) (GG:i<j) (T0:j≤n) (BI:n≤c) (hc:c≤maxLen) (hX:if c=j then X=0 else X=j*5)
  (h1:∀q∈xs,q.oneCell'=true) :
  Calls Tryz.prog 154 #[.slice (some ⟨g,0,none⟩) n c,.int .i64 i,.int .i64 j] w fun en w'=>en=.returned (.slice (some ⟨g,0,none⟩) (i+(n-j)) c) ∧ ∃il:Array Value,w'.heap[g]? = some (.cells il 38 (0,0))∧il.size=cur.size∧il.toList.take ((i+(n-j))*5)=xs.take (i*5)++xs.drop (j*5)∧w.grownBy w' (some g):=by
 have ht:Tryz.prog.underlying 24=some (.slice 38):=by kernel_rfl
 have hz:(Tryz.prog.info? 38).map (·.size)=some 5:=by kernel_rfl
 obtain⟨zs,KH⟩:∃zs,Dt Tryz.prog 38=some zs:=acK.1 (by kernel_rfl);obtain⟨i0,z0,hi0,hz0,rfl,Ae⟩:=rq KH;obtain⟨i1,z1,he⟩:=cx (P:=Tryz.prog) (e:=38) (k:=.pair (.pair (.int .i64) (.int .i64)) (.pair (.sl (.pair (.pair (.int .i64) (.int .i64)) (.int .i64))) (.pair .str (.int .i64)))) (by kernel_rfl);have ei:i1=i0:=by have:=he.info;simp_all
 subst ei;have ez:z1=z0:=by have:=he.zero;simp_all
 subst ez;have NL:z1.cells.size=5:=he.yj;clear he KH;have Mi:(xs.drop (j*5)).length=(n-j)*5:=by grind
 obtain⟨cur1,uf⟩:∃cur1:Array Value,cur1=(cur.toList.take (i*5)++xs.drop (j*5)++cur.toList.drop (i*5+(xs.drop (j*5)).length)).toArray:=⟨_,rfl⟩;have NJ:cur1.size=cur.size:=by grind
 have Zz:∀ty sc,(Builtin.append_ #[24,24] ty #[.slice (some ⟨g,0,none⟩) i c,.slice (some ⟨g,X,none⟩) (n-j) sc]).run Tryz.prog w.drew=.ok (.slice (some ⟨g,0,none⟩) (i+(n-j)) c) (w.drew.setRow g cur1):=fun ty sc=>by
  by_cases Wo:c=j
  ·have hnj:n=j:=by omega
   have:n-j=0:=by omega
   rw[this]at Mi ⊢;have NZ:xs.drop (j*5)=[]:=abD (by omega);rw[fW ht hi0 _ _ _ (by omega) _ _,uf,NZ];simp only[List.append_nil,List.length_nil,Nat.add_zero,List.take_append_drop,Array.toArray_toList];rw[setRow_self w.drew g cur 38 (0,0) hg]
  ·rw[if_neg Wo]at hX;subst hX;rw[uf];exact qC (P:=Tryz.prog) w.drew 24 ty 38 5 g i c ⟨g,j*5,none⟩ (n-j) sc cur (xs.drop (j*5)) ht hz hg Mi (xz (size:=5) (n:=n) (w:=w.drew) hg mi (j*5)) (fun q hq=>h1 q (aeD hq)) (by omega) (by omega)
 obtain⟨dH,zo⟩:∃dH:Array Value,dH=(cur1.toList.take ((i+(n-j))*5)++(Builtin.zeroCells z1.cells (j-i)).toList++cur1.toList.drop ((i+(n-j))*5+(Builtin.zeroCells z1.cells (j-i)).toList.length)).toArray:=⟨_,rfl⟩;have hzc:(Builtin.zeroCells z1.cells (j-i)).toList.length=(j-i)*5:=by simp[Builtin.zeroCells,NL]
 have R7:dH.size=cur.size:=by rw[zo];simp[hzc];omega
 have wh:∀ty sc,(Builtin.clear_ #[24] ty #[.slice (some ⟨g,(i+(n-j))*5,none⟩) (n-(i+(n-j))) sc]).run Tryz.prog (w.drew.setRow g cur1)=.ok (.tuple #[]) ((w.drew.setRow g cur1).setRow g dH):=fun ty sc=>by have:=uc (P:=Tryz.prog) (w.drew.setRow g cur1) 24 ty 38 5 g ((i+(n-j))*5) (j-i) sc cur1 i1 z1 ht hi0 hz0 NL Ae (setRow_heap w.drew g cur _ 38 _ hg) (by omega) (by omega);rw[show n-(i+(n-j))=j-i by omega,this,zo]
 have j7:dH.toList.take ((i+(n-j))*5)=xs.take (i*5)++xs.drop (j*5):=Ml (cur1:=cur1.toList) mi (by simp;omega) (by omega) T0 (by rw[uf]) (by rw[zo]);clear uf zo mi Mi;have h63:c≤9223372036854775807:=by grind [maxLen]
 have sN:i≤n:=by omega
 have hic:¬(c=i):=by omega
 have hjc:j≤c:=by omega
 have bA:¬((i:Int)=(j:Int)):=by omega
 have nP:i≤j:=by omega
 have al0:i≤c:=by omega
 have al1:i+(n-j)≤n:=by omega
 have al2:i+(n-j)≤c:=by omega
 have al3:¬(c=i+(n-j)):=by omega
 have al4:(i:Int)+((n-j:Nat):Int)≤(n:Int):=by omega
 have mixed:Tryz.prog.follows .mixedOrders=true:=by kernel_rfl
 by_cases Wo:c=j
 ·rw[if_pos Wo]at hX;subst hX;subst Wo;obtain rfl:n=c:=by omega
  simp only[Nat.sub_self,Nat.add_zero]at Zz wh j7 ⊢
  go_enter Tryz.func154,Tryz.ntmps154
  go_wp2_with fail
  go_region_law (go_loud (refine jw rfl _ _ 24 24 rfl (.slice (some ⟨g,0,none⟩) i n) (.slice (some ⟨g,0,none⟩) 0 0) (by simp[Act.eval,Act.put]) (by simp[Act.eval,Act.put]) (Zz 24 0) ?_))
  go_wp2_with (simp only[wh])
  go_ret
  refine⟨rfl,dH,setRow_heap _ g cur1 _ 38 _ (setRow_heap w.drew g cur _ 38 _ hg),R7,j7,⟨rfl,rfl,rfl,by simp_all,fun k hk SY=>?_⟩⟩;have uh:k≠g:=fun e=>SY (by rw[e]);rw[_root_.Go.setRow_other _ g k _ uh,_root_.Go.setRow_other _ g k _ uh];rfl
 ·rw[if_neg Wo]at hX;subst hX
  go_enter Tryz.func154,Tryz.ntmps154
  go_wp2_with fail
  go_region_law (go_loud (refine jw rfl _ _ 24 24 rfl (.slice (some ⟨g,0,none⟩) i c) (.slice (some ⟨g,j*5,none⟩) (n-j) (c-j)) (by simp[Act.eval,Act.put]) (by simp[Act.eval,Act.put]) (Zz 24 (c-j)) ?_))
  go_wp2_with (simp only[wh])
  go_ret
  refine⟨rfl,dH,setRow_heap _ g cur1 _ 38 _ (setRow_heap w.drew g cur _ 38 _ hg),R7,j7,⟨rfl,rfl,rfl,by simp_all,fun k hk SY=>?_⟩⟩;have uh:k≠g:=fun e=>SY (by rw[e]);rw[_root_.Go.setRow_other _ g k _ uh,_root_.Go.setRow_other _ g k _ uh];rfl
theorem ade:OV Tryz.prog 154 38 5:=fun w v n i j xs hv GG T0 hm h1=>by
 rcases hv.2 with⟨h0,_⟩|⟨g,c,cur,rfl,hc0,hg,BI,YP,iY,mi⟩
 ·omega
 have pT:ob (.slice (some ⟨g,0,none⟩) n c)=some g:=by simp only[ob];grind
 refine(Mm w g c n i j (if c=j then 0 else j*5) xs cur hg iY mi hv.1 GG T0 BI YP (by split<;>rfl) h1).mono fun en w' ⟨e1,il,e2,e3,e4,e5⟩=>?_;refine⟨_,e1,⟨?_,.inr ⟨g,c,il,rfl,hc0,e2,by omega,YP,by rw[e3,iY],e4⟩⟩,by simp_all,?_⟩
 ·grind
 rfl
end Go.Vs
namespace Go.Vs
open Go.Proofs
variable {P:Program}
theorem Fe{Z:Nat→Prop}{w:World}{k:K}{xs:List k.T}{vs:List Value}(hv:lE Z w k xs vs)(hl:vs.length=xs.length*k.sz):∀q∈vs,q.oneCell'=true:=fun q hq=>by
 obtain⟨p,hp⟩:=aeo hq;have aG:p<vs.length:=(abp.1 hp).1;have hs:=k.iv;have hd:p / k.sz<xs.length:=Nat.div_lt_of_lt_mul (by grind);have hr:=hv (p / k.sz) _ (abf hd);refine hr.one q ?_;have hm:=Nat.mod_add_div p k.sz;have hml:=aeM p hs;have:((vs.drop (p / k.sz*k.sz)).take k.sz)[p%k.sz]? = some q:=by
  grind
 grind
theorem Im{Z:Nat→Prop}{w:World}{k:K}{xs:List k.T}{vs:List Value}(hv:lE Z w k xs vs)(n:Nat):lE Z w k (xs.take n) (vs.take (n*k.sz)):=fun i x hx=>by
 rw[List.getElem?_take]at hx
 split at hx
 ·rename_i hi;have:=hv i x hx;have e:((vs.take (n*k.sz)).drop (i*k.sz)).take k.sz=(vs.drop (i*k.sz)).take k.sz:=by
   rw[List.drop_take,List.take_take];congr 1;have:(i+1)*k.sz≤n*k.sz:=ab0 _ hi
   grind
  simp_all
 ·cases hx
theorem Io{Z:Nat→Prop}{w:World}{k:K}{xs:List k.T}{vs:List Value}(hv:lE Z w k xs vs)(n:Nat):lE Z w k (xs.drop n) (vs.drop (n*k.sz)):=fun i x hx=>by
 rw[List.getElem?_drop]at hx;have:=hv (n+i) x hx
 grind [List.drop_drop,Nat.add_mul]
theorem xF{f:FuncId}{ty:TypeId}{k:K}(hr:Fb P f ty k.sz):hZ P f (Uf ty k):=by
 intro Z ψ h w B0 O N hh id e vs us g hB br hN bm nD pU Cw he;unfold Uf at he
 split at he
 rotate_left
 ·cases he
 rename_i o i j
 split at he
 rotate_left
 ·cases he
 rename_i xs ys BJ R8
 split at he
 ·cases he
 rename_i hoj;simp only[Option.some.injEq,Prod.mk.injEq]at he;obtain⟨ly,rfl⟩:=he;have hhg:hh.get=h:=nD _ _ rfl;have YR:hh.get o=some (.own (.row ty k) xs):=kS BJ;have hgj:hh.get j=some (.own (.row ty k) ys):=kS R8;simp only[az,aD]at pU;obtain⟨v,_,rfl,⟨_,hv⟩,n,_,rfl,rfl,u,_,rfl,⟨_,hu⟩,rfl⟩:=pU;simp only[tC,Bool.and_eq_true,decide_eq_true_eq,aR]at ly;obtain⟨h0,h1,h2,h3⟩:=ly;obtain⟨m,rfl⟩:∃m:Nat,i=m:=⟨i.toNat,by omega⟩;subst hhg;have hvo:v=ψ o:=hv (by rw[YR];simp);have huj:u=ψ j:=hu (by rw[hgj];simp);obtain⟨vs,SH,Ax⟩:=g.row o (.row ty k) xs YR;obtain⟨jD,ho2,CP⟩:=g.row j (.row ty k) ys hgj;simp only[aF,aM]at Cw;have bM:N id:=hN 0 (by omega);have bA:o≠id:=fun e=>Cw.1 (e▸bM);rw[h2]at ho2;subst hvo;subst huj;refine(hr w _ _ xs.length m vs jD SH ho2 (by omega) (by omega) (fun b hb KI=>hoj (g.apart o j b (by rw[YR];simp) (by rw[hgj];simp) hb KI)) (Fe Ax SH.1) (Fe CP (by rw[ho2.1,h2]))).mono fun en w' ⟨v',e1,e2,e3,e4⟩=>?_;have kk:dg ψ hh.get w w':=dg.grown e3 (fun b e=>⟨o,by rw[YR];simp,e⟩);have sm:=kk.same g;have hlen:(jz xs (m:Int) ys).length=xs.length+1:=by
  grind [jz,Int.toNat_natCast,List.length_append,List.length_take,List.length_drop]
 have htl:(vs.take (m*k.sz)).length=(xs.take m).length*k.sz:=by have:m*k.sz≤xs.length*k.sz:=ab0 _ (by omega);rw[List.length_take,List.length_take,SH.1,Nat.min_eq_left this,Nat.min_eq_left (by omega)]
 have qf:lE Z w k (jz xs (m:Int) ys) (vs.take (m*k.sz)++(jD++vs.drop (m*k.sz))):=(Im Ax m).append (CP.append (Io Ax m) (by rw[ho2.1,h2])) htl;have SA:=oJ (N:=N) g hB id o bM YR bA e3 (v:=v') (ok:=.row ty k) (y:=jz xs m ys) ⟨_,by simp_all,qf.DM sm⟩ e4 (fun i ty cs hb=>aF.imp (p:=fun i=>¬N i) (q:=fun i=>i≠id) (fun a ha e=>ha (by simp_all)) (bm i ty cs hb));have hhp:Heap.get ((id,Ob.own (.row ty k) (jz xs (m:Int) ys))::hh.del o)=eI (eI hh.get o none) id (some (.own (.row ty k) (jz xs m ys))):=by rw[DR,uW]
 refine⟨v',Z,eI ψ id v',e1,?_,?_⟩
 ·show Next Z ψ hh.get w B0 O N Z (eI ψ id v') (Heap.get ((id,Ob.own (.row ty k) (jz xs (m:Int) ys))::hh.del o)) w';simp_all
 ·simp only[bD.v,aD];exact⟨e2.one,fun _=>(bg _ _ _).symm⟩
theorem Ff{f:FuncId}{ty:TypeId}{k:K}(hr:OV P f ty k.sz):hZ P f (Y3 ty k):=by
 intro Z ψ h w B0 O N hh id e vs us g hB br hN bm nD pU Cw he;unfold Y3 at he
 split at he
 rotate_left
 ·cases he
 rename_i o i j
 split at he
 rotate_left
 ·cases he
 rename_i xs BJ;simp only[Option.some.injEq,Prod.mk.injEq]at he;obtain⟨ly,rfl⟩:=he;have hhg:hh.get=h:=nD _ _ rfl;have YR:hh.get o=some (.own (.row ty k) xs):=kS BJ;simp only[az,aD]at pU;obtain⟨v,_,rfl,⟨_,hv⟩,n,_,rfl,rfl,u,_,rfl,rfl,rfl⟩:=pU;simp only[kD,Bool.and_eq_true,decide_eq_true_eq,aR]at ly;obtain⟨h0,h1,h2,h3⟩:=ly;obtain⟨m,rfl⟩:∃m:Nat,i=m:=⟨i.toNat,by omega⟩;obtain⟨q,rfl⟩:∃m:Nat,j=m:=⟨j.toNat,by omega⟩;subst hhg;have hvo:v=ψ o:=hv (by rw[YR];simp);obtain⟨vs,SH,Ax⟩:=g.row o (.row ty k) xs YR;simp only[aF,aM]at Cw;have bM:N id:=hN 0 (by omega);have bA:o≠id:=fun e=>Cw.1 (e▸bM);subst hvo;refine(hr w _ xs.length m q vs SH (by omega) (by omega) (by omega) (Fe Ax SH.1)).mono fun en w' ⟨v',e1,e2,e3,e4⟩=>?_;have kk:dg ψ hh.get w w':=dg.grown e3 (fun b e=>⟨o,by rw[YR];simp,e⟩);have sm:=kk.same g;have hlen:(dW xs (m:Int) q).length=m+(xs.length-q):=by
  grind [dW,Int.toNat_natCast,List.length_append,List.length_take,List.length_drop]
 have htl:(vs.take (m*k.sz)).length=(xs.take m).length*k.sz:=by have:m*k.sz≤xs.length*k.sz:=ab0 _ (by omega);rw[List.length_take,List.length_take,SH.1,Nat.min_eq_left this,Nat.min_eq_left (by omega)]
 have qf:lE Z w k (dW xs (m:Int) q) (vs.take (m*k.sz)++vs.drop (q*k.sz)):=(Im Ax m).append (Io Ax q) htl;have SA:=oJ (N:=N) g hB id o bM YR bA e3 (v:=v') (ok:=.row ty k) (y:=dW xs m q) ⟨_,by simp_all,qf.DM sm⟩ (.inl e4) (fun i ty cs hb=>aF.imp (p:=fun i=>¬N i) (q:=fun i=>i≠id) (fun a ha e=>ha (by simp_all)) (bm i ty cs hb));have hhp:Heap.get ((id,Ob.own (.row ty k) (dW xs (m:Int) q))::hh.del o)=eI (eI hh.get o none) id (some (.own (.row ty k) (dW xs m q))):=by rw[DR,uW]
 refine⟨v',Z,eI ψ id v',e1,?_,?_⟩
 ·show Next Z ψ hh.get w B0 O N Z (eI ψ id v') (Heap.get ((id,Ob.own (.row ty k) (dW xs (m:Int) q))::hh.del o)) w';simp_all
 ·simp only[bD.v,aD];exact⟨e2.one,fun _=>(bg _ _ _).symm⟩
end Go.Vs
namespace Go.Vs
open Go.Proofs Go.RowKit
set_option maxHeartbeats 4000000 in
set_option maxRecDepth 100000 in
theorem OX:JW Tryz.prog 191 84 4:=fun w v u n xs ys hv hu hm h1=>by
 have ht:Tryz.prog.underlying 25=some (.slice 84):=by kernel_rfl
 obtain⟨i0,z0,he⟩:=cx (P:=Tryz.prog) (e:=84) (k:=.pair (.pair (.int .i64) (.int .i64)) (.pair .str (.int .i64))) (by kernel_rfl);have Ar:=JX hu h1;obtain⟨v',w',dC,h4,h5,h6⟩:=eJ (P:=Tryz.prog) (ty:=25) ht he hv Ar hm;obtain⟨A,c,rfl⟩:=hv.slice;have BI:n≤c:=by
  rcases hv.2 with⟨h0,A,e⟩|⟨g,cap,cur,e,hc,h2,h3,_⟩
  ·omega
  simp_all
 obtain⟨B,cu,rfl⟩:=hu.slice;have agT:n≤1073741824:=by grind [fH]
 go_enter Tryz.func191,Tryz.ntmps191
 go_wp2_with (at_builtin;refine Lib.wpList_append_run _ rfl _ _ _ _ rfl _ _ rfl rfl _ _ dC ?_)
 all_goals go_ret
 all_goals first|exact⟨_,rfl,h4,h5,h6⟩|(subst_vars;exact⟨_,rfl,h4,h5,h6⟩)
set_option maxHeartbeats 4000000 in
set_option maxRecDepth 100000 in
theorem J1:zn Tryz.prog 191 84 4:=fun w g c g2 c2 n i xs ys cur dH hg iY mi vR xW qD rp lZ GZ bA hi ep hc h1 h2=>by
 have ht:Tryz.prog.underlying 25=some (.slice 84):=by kernel_rfl
 have hz:(Tryz.prog.info? 84).map (·.size)=some 4:=by kernel_rfl
 have KH:∀w,(Go.sizeOf 84).run Tryz.prog w=.ok 4 w:=fun w=>by rfl
 have YQ:∀a2 lb cb,(callFunc 213 #[.slice (some ⟨g2,0,none⟩) 1 c2,.slice (some ⟨g,a2,none⟩) lb cb]).run Tryz.prog w=.ok (.value (.bool false)) w:=fun a2 lb cb=>by rw[run_callFunc_extern Tryz.func213 (by kernel_rfl) (by kernel_rfl) (by kernel_rfl) (e:=Extern.SlicesOverlaps.overlaps #[25,25] #[4]) (by kernel_rfl),Lib.run_overlaps_apart w 25 4 84 ht 4 KH ⟨g2,0,none⟩ ⟨g,a2,none⟩ 1 c2 lb cb bA 84 84 dH.size cur.size (by simp[World.shape?,xW]) (by simp[World.shape?,hg]) (by omega) (by simp[World.frozen?,xW]) (by simp[World.frozen?,xW])];rfl
 obtain⟨cur1,cur3,OP,Mj,T7,j7⟩:=xC ht hz w g c g2 c2 n i xs ys cur dH hg iY mi vR xW qD rp lZ GZ bA hi ep hc h1 h2;have h63:c≤9223372036854775807:=by grind [maxLen]
 obtain⟨Qa,ZA,hb1,sN,htn,KI,hb3,hb4,CQ,P0⟩:=xD hi ep hc;clear mi lZ;have mixed:Tryz.prog.follows .mixedOrders=true:=by kernel_rfl
 go_enter Tryz.func191,Tryz.ntmps191
 go_wp2_with (simp only[YQ])
 go_region_law (go_loud (refine step_copy_runI rfl _ _ 25 25 rfl (.slice (some ⟨g,(i+1)*4,none⟩) (n-i) (c-(i+1))) (.slice (some ⟨g,i*4,none⟩) (n+1-i) (c-i)) (by simp[Act.eval,Act.put]) (by simp[Act.eval,Act.put]) (OP w.drew rfl 3 (c-(i+1)) (c-i)) ?_))
 go_wp2_with (simp only[Mj])
 go_ret
 refine⟨rfl,cur3,setRow_heap _ g cur1 _ 84 _ (setRow_heap w.drew g cur _ 84 _ hg),T7,j7,⟨rfl,rfl,rfl,by simp_all,fun k hk SY=>?_⟩⟩;have uh:k≠g:=fun e=>SY (by rw[e]);rw[_root_.Go.setRow_other _ g k _ uh,_root_.Go.setRow_other _ g k _ uh];rfl
set_option maxHeartbeats 4000000 in
set_option maxRecDepth 100000 in
theorem Mn:C7 Tryz.prog 191 84 4:=fun w g c g2 c2 n i xs ys cur dH hg iY mi vR xW qD rp lZ GZ bA hi BI ep hm h1 h2=>by
 have ht:Tryz.prog.underlying 25=some (.slice 84):=by kernel_rfl
 obtain⟨i0,z0,he⟩:=cx (P:=Tryz.prog) (e:=84) (k:=.pair (.pair (.int .i64) (.int .i64)) (.pair .str (.int .i64))) (by kernel_rfl);obtain⟨G,vU,row2,row3,W1,YO,JZ,G1,td,OQ,OR,T7,SX,JY,j7⟩:=A1 (sz:=4) rfl (by decide) ht (by kernel_rfl) he w g c g2 c2 n i xs ys cur dH hg iY mi vR xW qD rp lZ GZ bA hi BI ep hm h1 h2;obtain⟨Qa,ZA,hw3,hb1,sN,agW,hGi,agX,hci,hb3,CQ,P0⟩:=A2 hi BI ep hm SX;unfold fH at hm;clear mi lZ;have mixed:Tryz.prog.follows .mixedOrders=true:=by kernel_rfl
 go_enter Tryz.func191,Tryz.ntmps191
 go_wp2_with (first
  |(at_builtin;refine Lib.wpList_append_run _ rfl _ _ _ _ rfl _ _ rfl rfl _ _ (YO _) ?_)
  |(at_builtin;refine wpList_copy_runI _ rfl _ _ 25 25 rfl _ _ rfl rfl (OQ _ (by rfl) _ _ _) ?_))
 go_region_law (go_loud (refine step_copy_runI rfl _ _ 25 25 rfl (.slice (some ⟨w.heap.size,(i+1)*4,none⟩) (n-i) (G-(i+1))) (.slice (some ⟨g,i*4,none⟩) (n-i) (c-i)) (by simp[Act.eval,Act.put]) (by simp[Act.eval,Act.put]) (OR (W1.setRow w.heap.size row2).drew rfl 3 (G-(i+1)) (c-i)) ?_))
 go_wp2
 go_ret
 refine⟨G,rfl,row3,setRow_heap _ w.heap.size row2 _ 84 _ (setRow_heap W1 w.heap.size vU _ 84 _ JZ),by omega,SX,JY,j7,⟨td.os,td.tape,td.output,by have:=td.size;simp_all,fun k hk _=>?_⟩⟩;rw[_root_.Go.setRow_other _ w.heap.size k _ (Nat.ne_of_lt hk)];exact(_root_.Go.setRow_other W1 w.heap.size k _ (Nat.ne_of_lt hk)).trans (G1 k hk)
theorem adg:Fb Tryz.prog 191 84 4:=OT OX J1 Mn
set_option maxHeartbeats 4000000 in
set_option maxRecDepth 100000 in
theorem Mo(w:World)(g c n i j X:Nat)(xs:List Value)(cur:Array Value)(hg:w.heap[g]? = some (.cells cur 84 (0,0)))(iY:cur.size=c*4)(mi:cur.toList.take (n*4)=xs)(vR:xs.length=n*4) (GG:i<j) (T0:j≤n) (BI:n≤c) (hc:c≤maxLen) (hX:if c=j then X=0 else X=j*4)
  (h1:∀q∈xs,q.oneCell'=true) :
  Calls Tryz.prog 164 #[.slice (some ⟨g,0,none⟩) n c,.int .i64 i,.int .i64 j] w fun en w'=>en=.returned (.slice (some ⟨g,0,none⟩) (i+(n-j)) c) ∧ ∃il:Array Value,w'.heap[g]? = some (.cells il 84 (0,0))∧il.size=cur.size∧il.toList.take ((i+(n-j))*4)=xs.take (i*4)++xs.drop (j*4)∧w.grownBy w' (some g):=by
 have ht:Tryz.prog.underlying 25=some (.slice 84):=by kernel_rfl
 have hz:(Tryz.prog.info? 84).map (·.size)=some 4:=by kernel_rfl
 obtain⟨zs,KH⟩:∃zs,Dt Tryz.prog 84=some zs:=acK.1 (by kernel_rfl);obtain⟨i0,z0,hi0,hz0,rfl,Ae⟩:=rq KH;obtain⟨i1,z1,he⟩:=cx (P:=Tryz.prog) (e:=84) (k:=.pair (.pair (.int .i64) (.int .i64)) (.pair .str (.int .i64))) (by kernel_rfl);have ei:i1=i0:=by have:=he.info;simp_all
 subst ei;have ez:z1=z0:=by have:=he.zero;simp_all
 subst ez;have NL:z1.cells.size=4:=he.yj;clear he KH;have Mi:(xs.drop (j*4)).length=(n-j)*4:=by grind
 obtain⟨cur1,uf⟩:∃cur1:Array Value,cur1=(cur.toList.take (i*4)++xs.drop (j*4)++cur.toList.drop (i*4+(xs.drop (j*4)).length)).toArray:=⟨_,rfl⟩;have NJ:cur1.size=cur.size:=by grind
 have Zz:∀ty sc,(Builtin.append_ #[25,25] ty #[.slice (some ⟨g,0,none⟩) i c,.slice (some ⟨g,X,none⟩) (n-j) sc]).run Tryz.prog w.drew=.ok (.slice (some ⟨g,0,none⟩) (i+(n-j)) c) (w.drew.setRow g cur1):=fun ty sc=>by
  by_cases Wo:c=j
  ·have hnj:n=j:=by omega
   have:n-j=0:=by omega
   rw[this]at Mi ⊢;have NZ:xs.drop (j*4)=[]:=abD (by omega);rw[fW ht hi0 _ _ _ (by omega) _ _,uf,NZ];simp only[List.append_nil,List.length_nil,Nat.add_zero,List.take_append_drop,Array.toArray_toList];rw[setRow_self w.drew g cur 84 (0,0) hg]
  ·rw[if_neg Wo]at hX;subst hX;rw[uf];exact qC (P:=Tryz.prog) w.drew 25 ty 84 4 g i c ⟨g,j*4,none⟩ (n-j) sc cur (xs.drop (j*4)) ht hz hg Mi (xz (size:=4) (n:=n) (w:=w.drew) hg mi (j*4)) (fun q hq=>h1 q (aeD hq)) (by omega) (by omega)
 obtain⟨dH,zo⟩:∃dH:Array Value,dH=(cur1.toList.take ((i+(n-j))*4)++(Builtin.zeroCells z1.cells (j-i)).toList++cur1.toList.drop ((i+(n-j))*4+(Builtin.zeroCells z1.cells (j-i)).toList.length)).toArray:=⟨_,rfl⟩;have hzc:(Builtin.zeroCells z1.cells (j-i)).toList.length=(j-i)*4:=by simp[Builtin.zeroCells,NL]
 have R7:dH.size=cur.size:=by rw[zo];simp[hzc];omega
 have wh:∀ty sc,(Builtin.clear_ #[25] ty #[.slice (some ⟨g,(i+(n-j))*4,none⟩) (n-(i+(n-j))) sc]).run Tryz.prog (w.drew.setRow g cur1)=.ok (.tuple #[]) ((w.drew.setRow g cur1).setRow g dH):=fun ty sc=>by have:=uc (P:=Tryz.prog) (w.drew.setRow g cur1) 25 ty 84 4 g ((i+(n-j))*4) (j-i) sc cur1 i1 z1 ht hi0 hz0 NL Ae (setRow_heap w.drew g cur _ 84 _ hg) (by omega) (by omega);rw[show n-(i+(n-j))=j-i by omega,this,zo]
 have j7:dH.toList.take ((i+(n-j))*4)=xs.take (i*4)++xs.drop (j*4):=Ml (cur1:=cur1.toList) mi (by simp;omega) (by omega) T0 (by rw[uf]) (by rw[zo]);clear uf zo mi Mi;have h63:c≤9223372036854775807:=by grind [maxLen]
 have sN:i≤n:=by omega
 have hic:¬(c=i):=by omega
 have hjc:j≤c:=by omega
 have bA:¬((i:Int)=(j:Int)):=by omega
 have nP:i≤j:=by omega
 have al0:i≤c:=by omega
 have al1:i+(n-j)≤n:=by omega
 have al2:i+(n-j)≤c:=by omega
 have al3:¬(c=i+(n-j)):=by omega
 have al4:(i:Int)+((n-j:Nat):Int)≤(n:Int):=by omega
 have mixed:Tryz.prog.follows .mixedOrders=true:=by kernel_rfl
 by_cases Wo:c=j
 ·rw[if_pos Wo]at hX;subst hX;subst Wo;obtain rfl:n=c:=by omega
  simp only[Nat.sub_self,Nat.add_zero]at Zz wh j7 ⊢
  go_enter Tryz.func164,Tryz.ntmps164
  go_wp2_with fail
  go_region_law (go_loud (refine jw rfl _ _ 25 25 rfl (.slice (some ⟨g,0,none⟩) i n) (.slice (some ⟨g,0,none⟩) 0 0) (by simp[Act.eval,Act.put]) (by simp[Act.eval,Act.put]) (Zz 25 0) ?_))
  go_wp2_with (simp only[wh])
  go_ret
  refine⟨rfl,dH,setRow_heap _ g cur1 _ 84 _ (setRow_heap w.drew g cur _ 84 _ hg),R7,j7,⟨rfl,rfl,rfl,by simp_all,fun k hk SY=>?_⟩⟩;have uh:k≠g:=fun e=>SY (by rw[e]);rw[_root_.Go.setRow_other _ g k _ uh,_root_.Go.setRow_other _ g k _ uh];rfl
 ·rw[if_neg Wo]at hX;subst hX
  go_enter Tryz.func164,Tryz.ntmps164
  go_wp2_with fail
  go_region_law (go_loud (refine jw rfl _ _ 25 25 rfl (.slice (some ⟨g,0,none⟩) i c) (.slice (some ⟨g,j*4,none⟩) (n-j) (c-j)) (by simp[Act.eval,Act.put]) (by simp[Act.eval,Act.put]) (Zz 25 (c-j)) ?_))
  go_wp2_with (simp only[wh])
  go_ret
  refine⟨rfl,dH,setRow_heap _ g cur1 _ 84 _ (setRow_heap w.drew g cur _ 84 _ hg),R7,j7,⟨rfl,rfl,rfl,by simp_all,fun k hk SY=>?_⟩⟩;have uh:k≠g:=fun e=>SY (by rw[e]);rw[_root_.Go.setRow_other _ g k _ uh,_root_.Go.setRow_other _ g k _ uh];rfl
theorem adh:OV Tryz.prog 164 84 4:=fun w v n i j xs hv GG T0 hm h1=>by
 rcases hv.2 with⟨h0,_⟩|⟨g,c,cur,rfl,hc0,hg,BI,YP,iY,mi⟩
 ·omega
 have pT:ob (.slice (some ⟨g,0,none⟩) n c)=some g:=by simp only[ob];grind
 refine(Mo w g c n i j (if c=j then 0 else j*4) xs cur hg iY mi hv.1 GG T0 BI YP (by split<;>rfl) h1).mono fun en w' ⟨e1,il,e2,e3,e4,e5⟩=>?_;refine⟨_,e1,⟨?_,.inr ⟨g,c,il,rfl,hc0,e2,by omega,YP,by rw[e3,iY],e4⟩⟩,by simp_all,?_⟩
 ·grind
 rfl
set_option maxHeartbeats 4000000 in
set_option maxRecDepth 100000 in
theorem OY:JW Tryz.prog 220 42 6:=fun w v u n xs ys hv hu hm h1=>by
 have ht:Tryz.prog.underlying 28=some (.slice 42):=by kernel_rfl
 obtain⟨i0,z0,he⟩:=cx (P:=Tryz.prog) (e:=42) (k:=.pair (.pair (.pair (.int .i64) (.int .i64)) (.int .i64)) (.pair (.pair (.int .i64) (.int .i64)) (.int .i64))) (by kernel_rfl);have Ar:=JX hu h1;obtain⟨v',w',dC,h4,h5,h6⟩:=eJ (P:=Tryz.prog) (ty:=28) ht he hv Ar hm;obtain⟨A,c,rfl⟩:=hv.slice;have BI:n≤c:=by
  rcases hv.2 with⟨h0,A,e⟩|⟨g,cap,cur,e,hc,h2,h3,_⟩
  ·omega
  simp_all
 obtain⟨B,cu,rfl⟩:=hu.slice;have agT:n≤1073741824:=by grind [fH]
 go_enter Tryz.func220,Tryz.ntmps220
 go_wp2_with (at_builtin;refine Lib.wpList_append_run _ rfl _ _ _ _ rfl _ _ rfl rfl _ _ dC ?_)
 all_goals go_ret
 all_goals first|exact⟨_,rfl,h4,h5,h6⟩|(subst_vars;exact⟨_,rfl,h4,h5,h6⟩)
set_option maxHeartbeats 4000000 in
set_option maxRecDepth 100000 in
theorem J2:zn Tryz.prog 220 42 6:=fun w g c g2 c2 n i xs ys cur dH hg iY mi vR xW qD rp lZ GZ bA hi ep hc h1 h2=>by
 have ht:Tryz.prog.underlying 28=some (.slice 42):=by kernel_rfl
 have hz:(Tryz.prog.info? 42).map (·.size)=some 6:=by kernel_rfl
 have KH:∀w,(Go.sizeOf 42).run Tryz.prog w=.ok 6 w:=fun w=>by rfl
 have YQ:∀a2 lb cb,(callFunc 232 #[.slice (some ⟨g2,0,none⟩) 1 c2,.slice (some ⟨g,a2,none⟩) lb cb]).run Tryz.prog w=.ok (.value (.bool false)) w:=fun a2 lb cb=>by rw[run_callFunc_extern Tryz.func232 (by kernel_rfl) (by kernel_rfl) (by kernel_rfl) (e:=Extern.SlicesOverlaps.overlaps #[28,28] #[4]) (by kernel_rfl),Lib.run_overlaps_apart w 28 4 42 ht 6 KH ⟨g2,0,none⟩ ⟨g,a2,none⟩ 1 c2 lb cb bA 42 42 dH.size cur.size (by simp[World.shape?,xW]) (by simp[World.shape?,hg]) (by omega) (by simp[World.frozen?,xW]) (by simp[World.frozen?,xW])];rfl
 obtain⟨cur1,cur3,OP,Mj,T7,j7⟩:=xC ht hz w g c g2 c2 n i xs ys cur dH hg iY mi vR xW qD rp lZ GZ bA hi ep hc h1 h2;have h63:c≤9223372036854775807:=by grind [maxLen]
 obtain⟨Qa,ZA,hb1,sN,htn,KI,hb3,hb4,CQ,P0⟩:=xD hi ep hc;clear mi lZ;have mixed:Tryz.prog.follows .mixedOrders=true:=by kernel_rfl
 go_enter Tryz.func220,Tryz.ntmps220
 go_wp2_with (simp only[YQ])
 go_region_law (go_loud (refine step_copy_runI rfl _ _ 28 28 rfl (.slice (some ⟨g,(i+1)*6,none⟩) (n-i) (c-(i+1))) (.slice (some ⟨g,i*6,none⟩) (n+1-i) (c-i)) (by simp[Act.eval,Act.put]) (by simp[Act.eval,Act.put]) (OP w.drew rfl 3 (c-(i+1)) (c-i)) ?_))
 go_wp2_with (simp only[Mj])
 go_ret
 refine⟨rfl,cur3,setRow_heap _ g cur1 _ 42 _ (setRow_heap w.drew g cur _ 42 _ hg),T7,j7,⟨rfl,rfl,rfl,by simp_all,fun k hk SY=>?_⟩⟩;have uh:k≠g:=fun e=>SY (by rw[e]);rw[_root_.Go.setRow_other _ g k _ uh,_root_.Go.setRow_other _ g k _ uh];rfl
set_option maxHeartbeats 4000000 in
set_option maxRecDepth 100000 in
theorem Mp:C7 Tryz.prog 220 42 6:=fun w g c g2 c2 n i xs ys cur dH hg iY mi vR xW qD rp lZ GZ bA hi BI ep hm h1 h2=>by
 have ht:Tryz.prog.underlying 28=some (.slice 42):=by kernel_rfl
 obtain⟨i0,z0,he⟩:=cx (P:=Tryz.prog) (e:=42) (k:=.pair (.pair (.pair (.int .i64) (.int .i64)) (.int .i64)) (.pair (.pair (.int .i64) (.int .i64)) (.int .i64))) (by kernel_rfl);obtain⟨G,vU,row2,row3,W1,YO,JZ,G1,td,OQ,OR,T7,SX,JY,j7⟩:=A1 (sz:=6) rfl (by decide) ht (by kernel_rfl) he w g c g2 c2 n i xs ys cur dH hg iY mi vR xW qD rp lZ GZ bA hi BI ep hm h1 h2;obtain⟨Qa,ZA,hw3,hb1,sN,agW,hGi,agX,hci,hb3,CQ,P0⟩:=A2 hi BI ep hm SX;unfold fH at hm;clear mi lZ;have mixed:Tryz.prog.follows .mixedOrders=true:=by kernel_rfl
 go_enter Tryz.func220,Tryz.ntmps220
 go_wp2_with (first
  |(at_builtin;refine Lib.wpList_append_run _ rfl _ _ _ _ rfl _ _ rfl rfl _ _ (YO _) ?_)
  |(at_builtin;refine wpList_copy_runI _ rfl _ _ 28 28 rfl _ _ rfl rfl (OQ _ (by rfl) _ _ _) ?_))
 go_region_law (go_loud (refine step_copy_runI rfl _ _ 28 28 rfl (.slice (some ⟨w.heap.size,(i+1)*6,none⟩) (n-i) (G-(i+1))) (.slice (some ⟨g,i*6,none⟩) (n-i) (c-i)) (by simp[Act.eval,Act.put]) (by simp[Act.eval,Act.put]) (OR (W1.setRow w.heap.size row2).drew rfl 3 (G-(i+1)) (c-i)) ?_))
 go_wp2
 go_ret
 refine⟨G,rfl,row3,setRow_heap _ w.heap.size row2 _ 42 _ (setRow_heap W1 w.heap.size vU _ 42 _ JZ),by omega,SX,JY,j7,⟨td.os,td.tape,td.output,by have:=td.size;simp_all,fun k hk _=>?_⟩⟩;rw[_root_.Go.setRow_other _ w.heap.size k _ (Nat.ne_of_lt hk)];exact(_root_.Go.setRow_other W1 w.heap.size k _ (Nat.ne_of_lt hk)).trans (G1 k hk)
theorem adi:Fb Tryz.prog 220 42 6:=OT OY J2 Mp
def Qy(P:Program)(f:FuncId)(e:TypeId)(size:Nat):Prop :=∀(w:World) (n:Nat),n≤fH→Calls P f #[.slice none 0 0,.int .i64 n] w fun en w'=>∃v',en=.returned v'∧eE w' e size v' 0 []∧w.grownBy w' none∧∀b,ob v'=some b→w.heap.size≤b
set_option maxHeartbeats 4000000 in
set_option maxRecDepth 100000 in
theorem ZB:Qy Tryz.prog 222 40 3:=fun w n hm=>by
 have ht:Tryz.prog.underlying 36=some (.slice 40):=by kernel_rfl
 have htn:Tryz.prog.underlying 3=some (.int .i64):=by kernel_rfl
 obtain⟨i0,z0,he⟩:=cx (P:=Tryz.prog) (e:=40) (k:=.pair (.pair (.int .i64) (.int .i64)) (.int .i64)) (by kernel_rfl);have NL:z0.cells.size=3:=he.yj;have KH:i0.size=3:=he.size;have NM:=he.bytes;unfold fH at hm;by_cases hn:n=0
 ·subst hn;have pT:ob (.slice none 0 0)=none:=rfl
  go_enter Tryz.func222,Tryz.ntmps222
  go_wp2
  go_ret
  exact⟨_,rfl,⟨by simp,.inl ⟨rfl,none,rfl⟩⟩,World.grownBy.refl w _,fun b hb=>by simp_all⟩
 ·have tK:n*i0.bytes≤281474976710656:=acR (aeU hm NM) (by decide);obtain⟨G,hG⟩:∃G,G=grownCap w n 0 40:=⟨_,rfl⟩;obtain⟨vU,ada⟩:∃vU,vU=Builtin.zeroCells z0.cells n++Builtin.zeroCells z0.cells (G-n):=⟨_,rfl⟩;obtain⟨W1,Il⟩:∃W1,W1=w.drew.alloc (.cells vU 40):=⟨_,rfl⟩;have YO:∀ty,(Builtin.append_ #[36,3] ty #[.slice none 0 0,.int .i64 n]).run Tryz.prog w=.ok (.slice (some ⟨w.heap.size,0,none⟩) n G) W1:=fun ty=>by rw[Il,ada,hG];exact Lib.run_append_nil_zeros w 36 3 ty 40 i0 z0 .i64 .i64 ht htn he.info he.zero n (by omega) (by omega) (by omega) tK
  have SX:n≤G:=by grind [grownCap_ge]
  have JY:G≤9223372036854775807:=by
   grind [grownCap_le_maxLen,maxLen]
  have hRs:vU.size=G*3:=by
   grind [Builtin.zeroCells]
  have JZ:W1.heap[w.heap.size]? = some (.cells vU 40 (0,0)):=by rw[Il];exact(MapKept.heap_alloc w.drew (.cells vU 40)).1
  have G1:∀b,b<w.heap.size→W1.heap[b]? = w.heap[b]? := fun b hb=>by rw[Il];exact(Below.heap_alloc w.drew (.cells vU 40) b hb).trans rfl
  have td:w.grownBy W1 none:=⟨by rw[Il];rfl,by rw[Il];rfl,by rw[Il];rfl,by simp_all,fun k hk _=>G1 k hk⟩;clear ada Il hG;have hn0:¬((n:Int)<0):=by omega
  have hn1:0<(n:Int):=by omega
  have hn2:IntKind.i64.wrap (n:Int)=n:=by rw[IntKind.wrap_i64];omega
  have hG0:¬(G=0):=by omega
  go_enter Tryz.func222,Tryz.ntmps222
  go_wp2_with (at_builtin;refine Lib.wpList_append_run _ rfl _ _ _ _ rfl _ _ rfl rfl _ _ (YO _) ?_)
  go_ret
  refine⟨.slice (some ⟨w.heap.size,0,none⟩) 0 G,rfl,⟨by simp,.inr ⟨w.heap.size,G,vU,rfl,by omega,JZ,by omega,JY,hRs,by simp⟩⟩,td,fun b hb=>?_⟩;simp_all [ob,if_neg]
theorem Mq{P:Program}{f:FuncId}{ty:TypeId}{k:K}(hr:Qy P f ty k.sz):hZ P f (Ug ty k):=by
 intro Z ψ h w B0 O N hh id e vs us g hB br hN bm nD pU Cw he;unfold Ug at he
 split at he
 rotate_left
 ·cases he
 rename_i n;simp only[Option.some.injEq,Prod.mk.injEq]at he;obtain⟨ly,rfl⟩:=he;simp only[DC,Bool.and_eq_true,decide_eq_true_eq]at ly;obtain⟨h0,h1⟩:=ly;obtain⟨m,rfl⟩:∃m:Nat,n=m:=⟨n.toNat,by omega⟩;simp only[az,aD]at pU;obtain⟨v,_,rfl,rfl,u,_,rfl,rfl,rfl⟩:=pU;have bM:N id:=hN 0 (by omega);refine(hr w m (by omega)).mono fun en w' ⟨v',e1,e2,e3,e4⟩=>?_;have kk:dg ψ h w w':=dg.grown e3 (fun b e=>by cases e);have SA:=qh (N:=N) g hB id ty bM (k:=k) (xs:=[]) (vs:=[]) kk (fun b hb=>e3.block b (g.bT hb) (by simp)) e2 (fun i x hx=>by simp at hx) e4 (fun i ty cs hb=>aF.imp (p:=fun i=>¬N i) (q:=fun i=>i≠id) (fun a ha e=>ha (by simp_all)) (bm i ty cs hb));refine⟨v',Z,eI ψ id v',e1,?_,?_⟩
 ·have hhp:(bD.new (.bO id) [(id,Ob.own (.row ty k) [])]).hp h=eI h id (some (.own (.row ty k) [])):=iy id _ h;simp_all
 ·simp only[bD.v,aD];exact⟨e2.one,fun _=>(bg _ _ _).symm⟩
end Go.Vs
namespace Go.Vs
variable {P:Program}
def CG(P:Program)(g:TypeId→K→Bool):List Field→Nat→K→Bool
 |[],_,_=>false
 |[f],off,k=>(f.name != "_")&&(decide (f.offset=off)&&(decide (P.cellsOf f.type=k.sz)&&g f.type k))
 |f::f'::r,off,.pair a b=>(f.name != "_")&&(decide (f.offset=off)&&(decide (P.cellsOf f.type=a.sz)&&(g f.type a&&CG P g (f'::r) (off+a.sz) b)))
 |_,_,_=>false
def Wp(P:Program):Nat→TypeId→K→Bool
 |0,_,_=>false
 |d+1,t,k =>
  match P.underlying t,k with
  |some (.int a),.int b=>decide (a=b)
  |some .bool,.bool=>true
  |some .string,.str=>true
  |some (.struct fs),.pair a b => !P.stoodInHeld t&&CG P (Wp P d) fs.toList 0 (.pair a b)
  |_,_=>false
def VK(w:World)(Z:Nat→Prop):(k:K)→k.T→Value→Prop
 |.pair a b,x,v=>∃cs:Array Value,v=.agg cs∧aL Z w (.pair a b) x cs.toList
 |.one k,x,v=>False
 |k,x,v=>aL Z w k x [v]
theorem C8{Z:Nat→Prop}{w:World}{d:Nat}{t:TypeId}{k:K}(hk:Wp P d t k=true)(hc:P.cellsOf t=k.sz){cs:Array Value}{off:Nat}{x:k.T}(hr:aL Z w k x ((cs.toList.drop off).take k.sz)) :
  ∃v,(part t cs off).run P w=.ok v w∧VK w Z k x v:=by
 cases d with
 |zero=>simp[Wp]at hk
 |succ d =>
  have plain:k.sz=1→(P.underlying t).map NQ=some false→∃v,(part t cs off).run P w=.ok v w∧aL Z w k x [v]:=fun h1 h2=>by
   rw[h1]at hr;have hl:=hr.len;rw[h1,List.length_take,List.length_drop,Array.length_toList]at hl;have aG:off<cs.size:=by omega
   refine⟨cs[off],?_,?_⟩
   ·simp[part,iw h2,aG]
   grind [List.drop_eq_getElem_cons]
  unfold Wp at hk
  split at hk
  ·rename_i a b hu;exact plain rfl (by rw[hu];rfl)
  ·rename_i hu;exact plain rfl (by rw[hu];rfl)
  ·rename_i hu;exact plain rfl (by rw[hu];rfl)
  ·rename_i fs a b hu;obtain⟨i,hi⟩:=wg hu;refine⟨.agg (cs.extract off (off+P.cellsOf t)),?_,_,rfl,?_⟩
   ·have h2:(P.underlying t).map NQ=some true:=by rw[hu];rfl
    simp[part,iw h2,dB hi]
   simp_all
  ·cases hk
def kY(em:Bool)(d:Nat)(cs:Array Value):List Field→Sem Unit
 |[]=>pure ()
 |f::fs =>
  if f.name≠ "_" then do
   let a ←part f.type cs f.offset
   Instr.checkKey em d f.type a
   kY em d cs fs
  else kY em d cs fs
theorem vW(em:Bool)(w:World)(d:Nat)(t:TypeId)(cs:Array Value)(fs:Array Field)(ht:P.underlying t=some (.struct fs)) :
  (Instr.checkKey em (d+1) t (.agg cs)).run P w=(kY em d cs fs.toList).run P w:=by
 simp only[Instr.checkKey,Sem.run_bind,run_underlying ht,Result.andThen_ok];rw[←Array.forIn_toList];generalize fs.toList=l;clear ht
 induction l generalizing w with
 |nil=>rfl
 |cons f fs ih =>
  simp only[List.forIn_cons,kY,Sem.run_bind,Sem.run_ite]
  split
  ·generalize (part f.type cs f.offset).run P w=r1
   cases r1 with
   |ok a w1 =>
    simp only[Result.andThen_ok];generalize (Instr.checkKey em d f.type a).run P w1=r2
    cases r2 with
    |ok b w2 =>simp_all
    |halt x w2=>rfl
   |halt x w1=>rfl
  simp_all
theorem Mr{Z:Nat→Prop}{D d:Nat}(em:Bool)(hg:∀t k,Wp P d t k=true→∀(w:World) (x y:k.T) (u v:Value),VK w Z k x u→VK w Z k y v→(Op.equalIn (D+d) t u v).run P w=.ok (uJ k x y) w∧(Instr.checkKey em (D+d) t u).run P w=.ok () w)(w:World)(xs ys:Array Value) :
  ∀(fs:List Field) (off:Nat) (k:K),CG P (Wp P d) fs off k=true→∀(x y:k.T),aL Z w k x ((xs.toList.drop off).take k.sz)→aL Z w k y ((ys.toList.drop off).take k.sz) →(Op.eqFields (D+d) xs ys fs).run P w=.ok (uJ k x y) w∧(kY em (D+d) xs fs).run P w=.ok () w
 |[],_,_,h,_,_,_,_=>by simp[CG]at h
 |[f],off,k,h,x,y,hx,hy=>by
  have h':f.name≠ "_"∧f.offset=off∧P.cellsOf f.type=k.sz∧Wp P d f.type k=true:=by
   grind [CG]
  obtain⟨h0,h1,h2,h3⟩:=h';subst h1;obtain⟨u,hu,hu'⟩:=C8 h3 h2 hx;obtain⟨v,hv,CR⟩:=C8 h3 h2 hy;obtain⟨e1,e2⟩:=hg _ _ h3 w x y u v hu' CR;constructor
  ·simp only[Op.eqFields,if_pos h0,Sem.run_bind,hu,hv,e1,Result.andThen_ok]
   cases uJ k x y<;>simp
  simp_all [kY]
 |f::f'::r,off,.pair a b,h,x,y,hx,hy=>by
  simp only[CG,Bool.and_eq_true,decide_eq_true_eq,bne_iff_ne,ne_eq]at h;obtain⟨h0,h1,h2,h3,h4⟩:=h;subst h1;simp only[aL,K.sz]at hx hy;obtain⟨us,ws,ex,Wq,hx2⟩:=hx;obtain⟨jD,ws',ey,Gu,YS⟩:=hy;have sp:∀(zs:Array Value) (us ws:List Value),us.length=a.sz→ws.length=b.sz→(zs.toList.drop f.offset).take (a.sz+b.sz)=us++ws→us=(zs.toList.drop f.offset).take a.sz∧ws=(zs.toList.drop (f.offset+a.sz)).take b.sz:=fun zs us ws l1 l2 e=>by
   rw[List.take_add,]at e;have hl:((zs.toList.drop f.offset).take a.sz).length=us.length:=by
    have:=congrArg List.length e
    grind
   grind [List.append_inj,List.drop_drop]
  obtain⟨rfl,rfl⟩:=sp xs us ws Wq.len hx2.len ex;obtain⟨rfl,rfl⟩:=sp ys jD ws' Gu.len YS.len ey;obtain⟨u,hu,hu'⟩:=C8 h3 h2 Wq;obtain⟨v,hv,CR⟩:=C8 h3 h2 Gu;obtain⟨e1,e2⟩:=hg _ _ h3 w x.1 y.1 u v hu' CR;obtain⟨e3,e4⟩:=Mr em hg w xs ys (f'::r) (f.offset+a.sz) b h4 x.2 y.2 hx2 YS;constructor
  ·rw[Op.eqFields,if_pos h0];simp only[Sem.run_bind,hu,hv,e1,Result.andThen_ok,Sem.run_ite,e3,uJ]
   cases uJ a x.1 y.1<;>simp
  ·rw[kY,if_pos h0];simp only[Sem.run_bind,hu,e2,Result.andThen_ok];exact e4
 |f::f'::r,off,.int _,h,_,_,_,_=>by simp[CG]at h
 |f::f'::r,off,.bool,h,_,_,_,_=>by simp[CG]at h
 |f::f'::r,off,.str,h,_,_,_,_=>by simp[CG]at h
 |f::f'::r,off,.sl _,h,_,_,_,_=>by simp[CG]at h
 |f::f'::r,off,.one _,h,_,_,_,_=>by simp[CG]at h
 |f::f'::r,off,.mp _ _,h,_,_,_,_=>by simp[CG]at h
theorem Qz{Z:Nat→Prop}(D:Nat)(em:Bool):∀(d:Nat) (t:TypeId) (k:K),Wp P d t k=true→∀(w:World) (x y:k.T) (u v:Value),VK w Z k x u→VK w Z k y v →(Op.equalIn (D+d) t u v).run P w=.ok (uJ k x y) w∧(Instr.checkKey em (D+d) t u).run P w=.ok () w
 |0,_,_,h,_,_,_,_,_,_,_=>by simp[Wp]at h
 |d+1,t,k,h,w,x,y,u,v,hu,hv=>by
  rw[←Nat.add_assoc];unfold Wp at h
  split at h
  ·rename_i a b ht;simp only[decide_eq_true_eq]at h;subst h;simp only[VK,aL,List.cons.injEq,and_true]at hu hv;subst hu;subst hv;exact⟨run_equalIn_int w _ _ _ _ _ _ ht,by simp[Instr.checkKey,run_underlying ht]⟩
  ·rename_i ht;simp only[VK,aL,List.cons.injEq,and_true]at hu hv;subst hu;subst hv;exact⟨run_equalIn_bool' w _ _ _ _ ht,by simp[Instr.checkKey,run_underlying ht]⟩
  ·rename_i ht;simp only[VK,aL,List.cons.injEq,and_true]at hu hv;subst hu;subst hv;exact⟨(run_equalIn_string w _ _ _ _ ht).trans (congrArg (fun b=>Result.ok b w) (beq_toListBytes (show ByteArray from x) (show ByteArray from y)).symm),by simp[Instr.checkKey,run_underlying ht]⟩
  ·rename_i fs a b ht;simp only[Bool.and_eq_true,Bool.not_eq_true']at h;obtain⟨hs,hf⟩:=h;obtain⟨xs,rfl,hx⟩:=hu;obtain⟨ys,rfl,hy⟩:=hv;have hfo:P.fieldsOf t=fs:=by simp[Program.fieldsOf,ht]
   have vR:=hx.len;have GZ:=hy.len;obtain⟨e1,e2⟩:=Mr (D:=D) (Z:=Z) em (fun t k hk w x y u v hu hv=>Qz D em d t k hk w x y u v hu hv) w xs ys fs.toList 0 (.pair a b) hf x y (by grind) (by grind)
   grind [run_equalIn_struct,vW]
  ·cases h
theorem SZ{d:Nat}{t:TypeId}{a b:K}(hd:d≤10000)(hk:Wp P d t (.pair a b)=true)(hg:P.eqGuardType P.depth t=false):nE P t (.pair a b):=fun Z w x y xs ys hx hy=>by
 have e:10000-d+d=10000:=by omega
 have key:=fun em=>Qz (Z:=Z) (10000-d) em d t (.pair a b) hk w x y (.agg xs) (.agg ys) ⟨xs,rfl,hx⟩ ⟨ys,rfl,hy⟩;rw[e]at key;exact⟨(key true).1,fun op p q=>run_eqGuard_agg w op t p q xs ys hg,fun em=>(key em).2⟩
end Go.Vs
namespace Go.Vs
open Go.Proofs
theorem Wr{f:FuncId}{g:aO}(h:Sg f=some g):(f,g)∈sgs:=by
 unfold Sg at h;obtain⟨p,hp,rfl⟩:=acX.1 h
 grind
theorem mL:∀f g,Sg f=some g→kb Tryz.prog (f%1000):=fun f g h=>by
 have hm:=Wr h;have key:(sgs.all fun p=>match Tryz.prog.funcs[p.1%1000]? with|some fn => !(fn.name== "runtime.NumGoroutine")&&fn.body.isSome|none=>false)=true:=by kernel_rfl
 have:=ac2.1 key _ hm;simp only at this
 split at this
 ·rename_i fn hf;simp only[Bool.and_eq_true,Bool.not_eq_true']at this;exact⟨fn,hf,this.1,this.2⟩
 ·cases this
theorem vx:Tryz.prog.follows .mixedOrders=true:=by kernel_rfl
theorem Fg:∀t k,Eqs t=some k→nE Tryz.prog t k:=fun t k h=>by
 unfold Eqs at h;obtain⟨p,hp,rfl⟩:=acX.1 h;have h1:=ado hp;have h2:=aeG hp;have e:p.1=t:=by simpa using h2
 subst e;simp only[eqs,List.mem_cons,List.not_mem_nil,or_false]at h1;rcases h1 with rfl|rfl|rfl|rfl|rfl|rfl
 all_goals exact SZ (d:=5) (by omega) (by kernel_rfl) (by kernel_rfl)
end Go.Vs
set_option maxRecDepth 1000000
set_option maxHeartbeats 0
namespace Go.Vs
open Go.Proofs
def ZC:aO:={ ps:=[.own],bs:=[.own (.row 38 dh)],rs:=[.own (.row 38 dh)] }
def ZD:aO:={ ps:=[.own],bs:=[.own (.row 84 dG)],rs:=[.own (.row 84 dG)] }
def mM:aO:={ ps:=[.agg 2],bs:=[.own (.row 38 dh),.own (.row 84 dG)],rs:=[.agg [.own (.row 38 dh),.own (.row 84 dG)]] }
def vz(ty:TypeId)(k:K)(h:Heap)(id:Nat):List AV→Option (Bool×bD)
 |[.bO a]=>match fa h (.row ty k) (.bO a) with
  |some xs=>some (aR 0 xs.length,.new (.bO (id+128)) [(id+128,.own (.row ty k) xs)])
  |_=>none
 |_=>none
def al8:aO:={ ps:=[],bs:=[],rs:=[],x:=some (vz 38 dh) }
def al9:aO:={ ps:=[],bs:=[],rs:=[],x:=some (vz 84 dG) }
def adk:List (Nat×aO):=[(500109,ZC),(500110,ZD)]
def Sg0(f:FuncId):Option aO:=(adk.find? (fun p=>p.1==f)).map (fun p=>p.2)
def adl:List (Nat×aO):=[(111,CC),(500083,mM),(500109,al8),(500110,al9)]
def YT(f:FuncId):Option aO:=(adl.find? (fun p=>p.1==f)).map (fun p=>p.2)
def Mt:Shape:=⟨[(14,.int .i64),(15,.int .i64)],[(.slot 2,20000,.box 27 [.own (.row 38 dh),.own (.row 84 dG)]),(.slot 3,20001,.box 27 [.own (.row 38 dh),.own (.row 84 dG)])],[(6,1000,(.row 38 (.pair (.pair (.int .i64) (.int .i64)) (.pair (.sl (.pair (.pair (.int .i64) (.int .i64)) (.int .i64))) (.pair .str (.int .i64)))))),(9,1020,(.row 84 (.pair (.pair (.int .i64) (.int .i64)) (.pair .str (.int .i64)))))],[]⟩
def An0(f:FuncId)(key:Nat):Option Shape:=none
def An1(f:FuncId)(key:Nat):Option Shape:=if f=500083 then(if key=3 then some Mt else none) else none
noncomputable def Ws(SG:FuncId→Option aO)(AN:FuncId→Nat→Option Shape)(f:FuncId)(g:aO)(fn:Func)(F:FT)(J:JT g)(x:g.A):Option g.B:=aI Tryz.prog Eqs SG F fn.ntmps (AN f) J (tI Tryz.prog g fn) fuel [.code (fn.body.getD .skip)] (entry g x)
noncomputable def adn(SG:FuncId→Option aO)(AN:FuncId→Nat→Option Shape)(f j:Nat)(g:aO)(fn:Func)(sh:Shape)(F:FT)(J:JT g)(x:sh.T):Option g.B:=aI Tryz.prog Eqs SG F fn.ntmps (AN f) J (tI Tryz.prog g fn) fuel (round (aE Tryz.prog (f%1000) j)) (aA sh x)
theorem ag3(F:FT)(J:JT ZC)(x:(Unit×((List an)×Unit))):Ws Sg0 An0 500109 ZC Tryz.f109 F J x = cond (List.isEmpty x.2.1) (tF 2 fun(j1:Nat) =>cond ((j1==0)==true) (some ((([]:List an),()),x.2)) (cond (aR (List.length ([]:List an)) (List.length x.2.1)) (some (((([]:List an)++x.2.1),()),x.2)) (none))) (cond (aR (List.length ([]:List an)) (List.length x.2.1)) (some (((([]:List an)++x.2.1),()),x.2)) (none)):=by kernel_rfl
theorem ag4(F:FT)(J:JT ZD)(x:(Unit×((List aj)×Unit))):Ws Sg0 An0 500110 ZD Tryz.f110 F J x = cond (List.isEmpty x.2.1) (tF 2 fun(j1:Nat) =>cond ((j1==0)==true) (some ((([]:List aj),()),x.2)) (cond (aR (List.length ([]:List aj)) (List.length x.2.1)) (some (((([]:List aj)++x.2.1),()),x.2)) (none))) (cond (aR (List.length ([]:List aj)) (List.length x.2.1)) (some (((([]:List aj)++x.2.1),()),x.2)) (none)):=by kernel_rfl
theorem ag5(F:FT)(J:JT CC)(x:(((List ag)×Unit)×Unit)):Ws YT An1 111 CC Tryz.f111 F J x = cond (List.isEmpty x.1.1) (tF 2 fun(j1:Nat) =>cond ((j1==0)==true) (some ((([]:List ag),()),())) (cond (aR (List.length ([]:List ag)) (List.length x.1.1)) (some (((([]:List ag)++x.1.1),()),())) (none))) (cond (aR (List.length ([]:List ag)) (List.length x.1.1)) (some (((([]:List ag)++x.1.1),()),())) (none)):=by kernel_rfl
theorem ag6(F:FT)(J:JT mM)(x:(Unit×((List an)×((List aj)×Unit)))):Ws YT An1 500083 mM Tryz.f83 F J x = cond (aR 0 (List.length x.2.1)) (cond (aR 0 (List.length x.2.2.1)) (J Mt (aE Tryz.prog 83 0) (((((List.length x.2.1):Nat):Int),((0:Int),())),(((([]:List an),(([]:List aj),())),((x.2.1,x.2.2),())),(x.2.1,x.2.2)))) (none)) (none):=by kernel_rfl
theorem QA(F:FT)(J:JT mM)(x:((Int×(Int×Unit))×((((List an)×((List aj)×Unit))×(((List an)×((List aj)×Unit))×Unit))×((List an)×((List aj)×Unit))))):adn YT An1 500083 0 mM Tryz.f83 Mt F J x = cond (decide (x.1.2.1<x.1.1)) (cond ((decide ((0:Int)≤x.1.2.1))&&(decide (x.1.2.1<(((List.length x.2.1.2.1.1):Nat):Int)))) (((x.2.1.2.1.1)[(Int.toNat x.1.2.1)]?).bind fun(y1:an) =>(F 111 CC ((y1.2.1,()),())).bind fun(y2:(((List ag)×Unit)×Unit)) =>cond ((decide ((0:Int)≤x.1.2.1))&&(decide (x.1.2.1<(((List.length x.2.1.2.1.1):Nat):Int)))) (((x.2.1.2.1.1)[(Int.toNat x.1.2.1)]?).bind fun(y3:an) =>J Mt (aE Tryz.prog 83 0) ((x.1.1,((IntKind.wrap .i64 (x.1.2.1+(1:Int))),())),(((x.2.1.1.1,x.2.1.1.2),(((List.set x.2.1.2.1.1 (Int.toNat x.1.2.1) (y3.1,(y2.1.1,y3.2.2))),x.2.1.2.1.2),())),(x.2.2.1,x.2.2.2)))) (none)) (none)) (some (((x.2.1.2.1.1,x.2.1.2.1.2),()),(x.2.2.1,x.2.2.2))):=by kernel_rfl
end Go.Vs
namespace Go.Vs
open Go.Proofs
variable {P:Program}
theorem wH{f:FuncId}{ty:TypeId}{k:K}(hf:f%1000=f)(hc:∀(xs:List k.T),aR 0 xs.length=true→HM P f ⟨[.own],[.own (.row ty k)],[.own (.row ty k)],none⟩ ((),(xs,())) ((xs,()),(xs,()))):hZ P f (vz ty k):=by
 intro Z ψ h w B0 O N hh id e vs us g hB br hN bm nD pU Cw he;unfold vz at he
 split at he
 rotate_left
 ·cases he
 rename_i a
 split at he
 rotate_left
 ·cases he
 rename_i xs BJ;simp only[Option.some.injEq,Prod.mk.injEq]at he;obtain⟨ly,rfl⟩:=he;have ha:h a=some (.own (.row ty k) xs):=br _ _ (kS BJ);have QB:h a≠none:=by rw[ha];simp
 simp only[az,aD]at pU;obtain⟨v1,_,rfl,⟨_,Ax⟩,rfl⟩:=pU;have Ax:=Ax QB;subst Ax;simp only[aF,aM]at Cw;have nR0:N (id+128):=hN 128 (by omega);have na:¬N a:=Cw.1;have a0:a≠id+128:=fun e=>na (e▸nR0)
 let ψ0:Nat→Value:=fun i=>if i=1000 then ψ a else ψ i
 have p0:ψ0 1000=ψ a:=if_pos rfl
 let g0:aO:=⟨[.own],[.own (.row ty k)],[.own (.row ty k)],none⟩
 have sN:sM g0 ((),(xs,()))=Heap.get [(1000,.own (.row ty k) xs)]:=rfl;have i0:sM g0 ((),(xs,())) 1000=some (.own (.row ty k) xs):=rfl;have iN:∀i,sM g0 ((),(xs,())) i≠none→i=1000:=fun i hi=>by simp_all [Heap.get,Ne.symm]
 have oin:∀q,Own ψ0 (sM g0 ((),(xs,()))) q→ob (ψ a)=some q:=fun q ⟨i,h1,h2⟩=>by simp_all
 have oh:∀q,Own ψ0 (sM g0 ((),(xs,()))) q→Own ψ h q:=fun q hq=>⟨a,QB,oin q hq⟩;have G0:Good Z ψ0 (sM g0 ((),(xs,()))) w w.heap.size (Own ψ0 (sM g0 ((),(xs,())))):=by
  refine⟨fun i ty cs k=>?_,fun i ok x k=>?_,fun i q h1 h2=>⟨fun hz=>?_,.inr ⟨i,h1,h2⟩⟩,fun i j q h1 h2 h3 h4=>?_,g.kO⟩
  ·grind
  ·have:=iN i (by rw[k];simp);subst this;rw[i0]at k;cases k;rw[p0];exact g.row a _ _ ha
  ·have:=iN i h1;subst this;rw[p0]at h2;exact(g.live a q QB h2).1 hz
  grind
 have c0:(ψ a).cells=#[ψ a]∧(ψ a).oneCell'=true:=(g.row a _ _ ha).one;have R0:az Z ψ0 (sM g0 ((),(xs,()))) w (Jp g0 ((),(xs,()))) [ψ a]:=by
  show az Z ψ0 (sM g0 ((),(xs,()))) w [.bO 1000] [ψ a];simp only[az,aD]
  grind
 have UA:=hc xs ly Z ψ0 w [ψ a] G0 R0;rw[hf]at UA;refine UA.mono fun en w' ⟨V,Z',ψ',e1,zs,zf,kp,gd,bM,hr⟩=>?_;have q0:ψ' 1000=ψ a:=(bM 1000 (by show 1000∈[1000];simp)).trans p0;have o0:(lK g0 ((xs,()),(xs,()))).get 1000=some (.own (.row ty k) xs):=rfl;have o2:(lK g0 ((xs,()),(xs,()))).get 3000=some (.own (.row ty k) xs):=rfl;have gd:Good Z' ψ' (lK g0 ((xs,()),(xs,()))).get w' w.heap.size (Own ψ0 (sM g0 ((),(xs,())))):=gd;have hr:aD Z' ψ' (lK g0 ((xs,()),(xs,()))).get w' (.bO 3000) V:=hr;generalize (lK g0 ((xs,()),(xs,()))).get=out at *;have keep:dg ψ h w w':=⟨kp.os,kp.tape,kp.output,kp.size,fun q hq hn=>kp.block q hq fun ho=>hn (oh q ho)⟩;have sm:cG Z w w':=keep.same g;have dJ:∀i q,i≠a→h i≠none→ob (ψ i)=some q→w'.heap[q]? = w.heap[q]? := fun i q k1 h1 h2 =>kp.block q (g.bT ⟨i,h1,h2⟩) fun ho=>k1 (g.apart i a q h1 QB h2 (oin q ho))
 let fg:Nat→Value:=fun i=>if i=id+128 then ψ' 3000 else ψ i
 let H:Hp:=(bD.new (.bO (id+128)) [(id+128,.own (.row ty k) xs)]).hp h
 have s0:fg (id+128)=ψ' 3000:=if_pos rfl;have sn:∀i,i≠id+128→fg i=ψ i:=fun i k1=>if_neg k1;have H0:H (id+128)=some (.own (.row ty k) xs):=by grind [bD.hp,Heap.get]
 have Hn:∀i,i≠id+128→H i=h i:=fun i k1=>by show(bD.hp h _) _=_;simp[bD.hp,Heap.get,Ne.symm k1]
 have two:∀q,ob (ψ' 3000)=some q→¬Z' q∧(w.heap.size≤q∨ob (ψ a)=some q):=fun q h2=>by
  obtain⟨h3,h4⟩:=gd.live 3000 q (by rw[o2];simp) h2
  grind
 have one:∀q,ob (ψ a)=some q→¬Z' q:=fun q h2=>(gd.live 1000 q (by rw[o0];simp) (by grind)).1;have ZE:∀q,ob (ψ' 3000)=some q→ob (ψ a)=some q→False:=fun q h2 h3=>by have:=gd.apart 3000 1000 q (by rw[o2];simp) (by rw[o0];simp) h2 (by grind);omega
 have fresh:∀q,ob (ψ' 3000)=some q→w.heap.size≤q:=fun q h2=>(two q h2).2.resolve_right (ZE q h2);have ids:∀i,H i≠none→(h i≠none∧fg i=ψ i)∨N i:=fun i hi=>by
  grind
 have live:∀i q,i≠id+128→h i≠none→ob (ψ i)=some q→¬Z' q:=fun i q k1 h1 h2 hz=>by
  by_cases k3:i=a
  ·grind
  rcases zf q hz with k|k|k
  ·exact(g.live i q h1 h2).1 k
  ·grind
  ·have:=g.bT ⟨i,h1,h2⟩;omega
 refine⟨V,Z',fg,e1,⟨zs,fun q hq=>(zf q hq).imp (fun h=>h) fun k=>k.imp (oh q) fun h=>h,keep,ids,⟨fun i KG cs k=>?_,fun i ok x k=>?_,fun i q h1 h2=>?_,fun i j q h1 h2 h3 h4=>?_,gd.kO⟩⟩,?_⟩
 ·have k1:i≠id+128:=fun e=>by grind
  have k3:i≠a:=fun e=>by grind
  have s6:h i=some (.box KG cs):=(Hn i k1).symm.trans k;obtain⟨gg,vs,f1,f2,f3,f4⟩:=g.box i KG cs s6;exact⟨gg,vs,(sn i k1).trans f1,(dJ i gg k3 (by rw[s6];simp) (by rw[f1];rfl)).trans f2,f3.move zs sm (fun j hj bA=>(ids j bA).resolve_right hj) (bm i KG cs s6),f4⟩
 ·by_cases k1:i=id+128
  ·subst k1;have k:H (id+128)=some (.own ok x):=k;rw[H0]at k;cases k;rw[s0];exact gd.row 3000 _ _ o2
  have s6:h i=some (.own ok x):=(Hn i k1).symm.trans k;rw[sn i k1];by_cases k3:i=a
  ·subst k3;rw[ha]at s6;cases s6;rw[←q0];exact gd.row 1000 _ _ o0
  exact(g.row i ok x s6).kept zs sm fun q hq=>dJ i q k3 (by rw[s6];simp) hq
 ·by_cases k1:i=id+128
  ·grind
  ·have h1:h i≠none:=by grind
   rw[sn i k1]at h2;exact⟨live i q k1 h1 h2,(g.live i q h1 h2).2⟩
 ·have lt:∀j,j≠id+128→H j≠none→ob (fg j)=some q→q<w.heap.size:=fun j k1 k2 k3=>by rw[Hn j k1]at k2;rw[sn j k1]at k3;exact g.bT ⟨j,k2,k3⟩
  by_cases k1:i=id+128<;>by_cases k2:j=id+128
  ·omega
  ·grind
  ·grind
  ·rw[sn i k1]at h3;rw[sn j k2]at h4;exact g.apart i j q (by grind) (by grind) h3 h4
 ·simp only[aD]at hr;show aD Z' fg H w' (.bO (id+128)) V
  grind [aD,trans]
theorem J3(hc:∀(xs:List dh.T) (ys:List dG.T),rN xs ys=true→HM P 83 mM ((),(xs,(ys,()))) (((xs,(ys,())),()),(xs,(ys,())))):hZ P 83 JG:=by
 intro Z ψ h w B0 O N hh id e vs us g hB br hN bm nD pU Cw he;unfold JG at he
 split at he
 rotate_left
 ·cases he
 rename_i a b
 split at he
 rotate_left
 ·cases he
 rename_i xs ys BJ R8
 split at he
 ·cases he
 rename_i Fc;simp only[Option.some.injEq,Prod.mk.injEq]at he;obtain⟨ly,rfl⟩:=he;have ha:h a=some (.own (.row 38 dh) xs):=br _ _ (kS BJ);have hb:h b=some (.own (.row 84 dG) ys):=br _ _ (kS R8);have QB:h a≠none:=by rw[ha];simp
 have NM:h b≠none:=by rw[hb];simp
 simp only[az,aD]at pU;obtain⟨v,_,rfl,⟨cs,rfl,v1,_,N2,⟨_,Ax⟩,v2,_,rfl,⟨_,CP⟩,rfl⟩,rfl⟩:=pU;have Ax:=Ax QB;have CP:=CP NM;subst Ax CP;simp only[aF,aM]at Cw;have nR0:N (id+128):=hN 128 (by omega);have nR1:N (id+129):=hN 129 (by omega);have na:¬N a:=Cw.1.1;have nb:¬N b:=Cw.1.2.1;have a0:a≠id+128:=fun e=>na (e▸nR0);have a1:a≠id+129:=fun e=>na (e▸nR1);have b0:b≠id+128:=fun e=>nb (e▸nR0);have b1:b≠id+129:=fun e=>nb (e▸nR1)
 let ψ0:Nat→Value:=fun i=>if i=1000 then ψ a else if i=1020 then ψ b else ψ i
 have p0:ψ0 1000=ψ a:=if_pos rfl;have p1:ψ0 1020=ψ b:=(if_neg (by decide)).trans (if_pos rfl);have sN:sM mM ((),(xs,(ys,())))=Heap.get [(1000,.own (.row 38 dh) xs),(1020,.own (.row 84 dG) ys)]:=rfl;have i0:sM mM ((),(xs,(ys,()))) 1000=some (.own (.row 38 dh) xs):=rfl;have i1:sM mM ((),(xs,(ys,()))) 1020=some (.own (.row 84 dG) ys):=rfl;have iN:∀i,sM mM ((),(xs,(ys,()))) i≠none→i=1000∨i=1020:=fun i hi=>by
  by_cases e0:i=1000
  ·exact .inl e0
  by_cases e1:i=1020
  ·exact .inr e1
  rw[sN]at hi;simp[Heap.get,Ne.symm e0,Ne.symm e1]at hi
 have oin:∀q,Own ψ0 (sM mM ((),(xs,(ys,())))) q→ob (ψ a)=some q∨ob (ψ b)=some q:=fun q ⟨i,h1,h2⟩=>by
  rcases iN i h1 with rfl|rfl
  ·exact .inl (by rw[←p0];exact h2)
  ·exact .inr (by rw[←p1];exact h2)
 have oh:∀q,Own ψ0 (sM mM ((),(xs,(ys,())))) q→Own ψ h q:=fun q hq=>(oin q hq).elim (fun k=>⟨a,QB,k⟩) fun k=>⟨b,NM,k⟩;have G0:Good Z ψ0 (sM mM ((),(xs,(ys,())))) w w.heap.size (Own ψ0 (sM mM ((),(xs,(ys,()))))):=by
  refine⟨fun i ty cs k=>?_,fun i ok x k=>?_,fun i q h1 h2=>⟨fun hz=>?_,.inr ⟨i,h1,h2⟩⟩,fun i j q h1 h2 h3 h4=>?_,g.kO⟩
  ·rcases iN i (by rw[k];simp) with rfl|rfl
   ·rw[i0]at k;cases k
   ·rw[i1]at k;cases k
  ·rcases iN i (by rw[k];simp) with rfl|rfl
   ·rw[i0]at k;cases k;rw[p0];exact g.row a _ _ ha
   ·rw[i1]at k;cases k;rw[p1];exact g.row b _ _ hb
  ·rcases iN i h1 with rfl|rfl
   ·rw[p0]at h2;exact(g.live a q QB h2).1 hz
   ·rw[p1]at h2;exact(g.live b q NM h2).1 hz
  ·rcases iN i h1 with rfl|rfl<;>rcases iN j h2 with rfl|rfl
   ·rfl
   ·rw[p0]at h3;rw[p1]at h4;exact absurd (g.apart a b q QB NM h3 h4) Fc
   ·rw[p1]at h3;rw[p0]at h4;exact absurd (g.apart a b q QB NM h4 h3) Fc
   ·rfl
 have c0:(ψ a).cells=#[ψ a]∧(ψ a).oneCell'=true:=(g.row a _ _ ha).one;have c1:(ψ b).cells=#[ψ b]∧(ψ b).oneCell'=true:=(g.row b _ _ hb).one;have R0:az Z ψ0 (sM mM ((),(xs,(ys,())))) w (Jp mM ((),(xs,(ys,())))) [.agg cs]:=by show az Z ψ0 (sM mM ((),(xs,(ys,())))) w [.agg [.bO 1000,.bO 1020]] [.agg cs];simp only[az,aD];exact⟨.agg cs,[],rfl,⟨cs,rfl,ψ a,[ψ b],N2,⟨c0,fun _=>p0.symm⟩,ψ b,[],rfl,⟨c1,fun _=>p1.symm⟩,rfl⟩,rfl⟩
 refine(hc xs ys ly Z ψ0 w [.agg cs] G0 R0).mono fun en w' ⟨V,Z',ψ',e1,zs,zf,kp,gd,bM,hr⟩=>?_;have q0:ψ' 1000=ψ a:=(bM 1000 (by show 1000∈[1000,1020];simp)).trans p0;have q1:ψ' 1020=ψ b:=(bM 1020 (by show 1020∈[1000,1020];simp)).trans p1;have o0:(lK mM (((xs,(ys,())),()),(xs,(ys,())))).get 1000=some (.own (.row 38 dh) xs):=rfl;have o1:(lK mM (((xs,(ys,())),()),(xs,(ys,())))).get 1020=some (.own (.row 84 dG) ys):=rfl;have o2:(lK mM (((xs,(ys,())),()),(xs,(ys,())))).get 3000=some (.own (.row 38 dh) xs):=rfl;have o3:(lK mM (((xs,(ys,())),()),(xs,(ys,())))).get 3001=some (.own (.row 84 dG) ys):=rfl;generalize (lK mM (((xs,(ys,())),()),(xs,(ys,())))).get=out at *;have keep:dg ψ h w w':=⟨kp.os,kp.tape,kp.output,kp.size,fun q hq hn=>kp.block q hq fun ho=>hn (oh q ho)⟩;have sm:cG Z w w':=keep.same g;have dJ:∀i q,i≠a→i≠b→h i≠none→ob (ψ i)=some q→w'.heap[q]? = w.heap[q]? := fun i q k1 k2 h1 h2 =>kp.block q (g.bT ⟨i,h1,h2⟩) fun ho=>(oin q ho).elim (fun k=>k1 (g.apart i a q h1 QB h2 k)) fun k=>k2 (g.apart i b q h1 NM h2 k)
 let κ:Nat→Nat:=fun i=>if i=id+128 then 3000 else if i=id+129 then 3001 else if i=a then 1000 else 1020
 let YU:Nat→Prop:=fun i=>i=id+128∨i=id+129∨i=a∨i=b
 let fg:Nat→Value:=fun i=>if i=id+128 then ψ' 3000 else if i=id+129 then ψ' 3001 else ψ i
 let H:Hp:=(bD.new (.agg [.bO (id+128),.bO (id+129)]) [(id+128,.own (.row 38 dh) xs),(id+129,.own (.row 84 dG) ys)]).hp h
 have s0:fg (id+128)=ψ' 3000:=if_pos rfl;have s1:fg (id+129)=ψ' 3001:=(if_neg (by omega)).trans (if_pos rfl);have sn:∀i,i≠id+128→i≠id+129→fg i=ψ i:=fun i k1 k2=>(if_neg k1).trans (if_neg k2);have H0:H (id+128)=some (.own (.row 38 dh) xs):=by show(bD.hp h _) _=_;simp[bD.hp,Heap.get]
 have H1:H (id+129)=some (.own (.row 84 dG) ys):=by show(bD.hp h _) _=_;simp[bD.hp,Heap.get]
 have Hn:∀i,i≠id+128→i≠id+129→H i=h i:=fun i k1 k2=>by show(bD.hp h _) _=_;simp[bD.hp,Heap.get,Ne.symm k1,Ne.symm k2]
 have Ha:H a=some (.own (.row 38 dh) xs):=(Hn a a0 a1).trans ha;have Hb:H b=some (.own (.row 84 dG) ys):=(Hn b b0 b1).trans hb;have kap:∀i,YU i→out (κ i)≠none∧ψ' (κ i)=fg i:=fun i hi=>by
  rcases hi with rfl|rfl|rfl|rfl
  ·have:κ (id+128)=3000:=if_pos rfl;rw[this,o2,s0];exact⟨by simp,rfl⟩
  ·have:κ (id+129)=3001:=(if_neg (by omega)).trans (if_pos rfl);rw[this,o3,s1];exact⟨by simp,rfl⟩
  ·have:κ i=1000:=(if_neg a0).trans ((if_neg a1).trans (if_pos rfl));rw[this,o0,q0,sn i a0 a1];exact⟨by simp,rfl⟩
  ·have:κ i=1020:=(if_neg b0).trans ((if_neg b1).trans (if_neg (fun k=>Fc k.symm)));rw[this,o1,q1,sn i b0 b1];exact⟨by simp,rfl⟩
 have amc:∀i j,YU i→YU j→κ i=κ j→i=j:=fun i j hi hj hk=>by have v1:κ (id+128)=3000:=if_pos rfl;have v2:κ (id+129)=3001:=(if_neg (by omega)).trans (if_pos rfl);have v3:κ a=1000:=(if_neg a0).trans ((if_neg a1).trans (if_pos rfl));have v4:κ b=1020:=(if_neg b0).trans ((if_neg b1).trans (if_neg (fun k=>Fc k.symm)));rcases hi with rfl|rfl|rfl|rfl<;>rcases hj with rfl|rfl|rfl|rfl<;>first|rfl|(rw[v1]at hk;first|(rw[v2]at hk;cases hk)|(rw[v3]at hk;cases hk)|(rw[v4]at hk;cases hk))|(rw[v2]at hk;first|(rw[v1]at hk;cases hk)|(rw[v3]at hk;cases hk)|(rw[v4]at hk;cases hk))|(rw[v3,v4]at hk;cases hk)|(rw[v4,v3]at hk;cases hk)
 have back:∀i q,YU i→ob (fg i)=some q→¬Z' q∧(w.heap.size≤q∨ob (ψ a)=some q∨ob (ψ b)=some q):=fun i q hi h2=>by obtain⟨k1,k2⟩:=kap i hi;rw[←k2]at h2;obtain⟨h3,h4⟩:=gd.live (κ i) q k1 h2;exact⟨h3,h4.imp (fun h=>h) (oin q)⟩
 have rest:∀i,¬YU i→i≠id+128∧i≠id+129∧i≠a∧i≠b:=fun i hi=>⟨fun k=>hi (.inl k),fun k=>hi (.inr (.inl k)),fun k=>hi (.inr (.inr (.inl k))),fun k=>hi (.inr (.inr (.inr k)))⟩;have mixed:∀i j q,YU i→¬YU j→h j≠none→ob (fg i)=some q→ob (ψ j)=some q→False:=fun i j q hi hj h2 h3 h4=>by
  obtain⟨_,_,k3,k4⟩:=rest j hj;rcases (back i q hi h3).2 with k|k|k
  ·have:=g.bT ⟨j,h2,h4⟩;omega
  ·exact k3 (g.apart j a q h2 QB h4 k)
  ·exact k4 (g.apart j b q h2 NM h4 k)
 have ids:∀i,H i≠none→(h i≠none∧fg i=ψ i)∨N i:=fun i hi=>by
  by_cases k1:i=id+128
  ·exact .inr (k1▸nR0)
  by_cases k2:i=id+129
  ·exact .inr (k2▸nR1)
  ·rw[Hn i k1 k2]at hi;exact .inl ⟨hi,sn i k1 k2⟩
 refine⟨V,Z',fg,e1,⟨zs,fun q hq=>(zf q hq).imp (fun h=>h) fun k=>k.imp (oh q) fun h=>h,keep,ids,⟨fun i ty cs k=>?_,fun i ok x k=>?_,fun i q h1 h2=>?_,fun i j q h1 h2 h3 h4=>?_,gd.kO⟩⟩,?_⟩
 ·have k1:i≠id+128:=fun e=>by rw[e]at k;have k:H (id+128)=some (.box ty cs):=k;rw[H0]at k;cases k
  have k2:i≠id+129:=fun e=>by rw[e]at k;have k:H (id+129)=some (.box ty cs):=k;rw[H1]at k;cases k
  have k3:i≠a:=fun e=>by rw[e]at k;have k:H a=some (.box ty cs):=k;rw[Ha]at k;cases k
  have k4:i≠b:=fun e=>by rw[e]at k;have k:H b=some (.box ty cs):=k;rw[Hb]at k;cases k
  have s6:h i=some (.box ty cs):=(Hn i k1 k2).symm.trans k;obtain⟨gg,vs,f1,f2,f3,f4⟩:=g.box i ty cs s6;exact⟨gg,vs,(sn i k1 k2).trans f1,(dJ i gg k3 k4 (by rw[s6];simp) (by rw[f1];rfl)).trans f2,f3.move zs sm (fun j hj bA=>(ids j bA).resolve_right hj) (bm i ty cs s6),f4⟩
 ·by_cases k1:i=id+128
  ·subst k1;have k:H (id+128)=some (.own ok x):=k;rw[H0]at k;cases k;rw[s0];exact gd.row 3000 _ _ o2
  by_cases k2:i=id+129
  ·subst k2;have k:H (id+129)=some (.own ok x):=k;rw[H1]at k;cases k;rw[s1];exact gd.row 3001 _ _ o3
  have s6:h i=some (.own ok x):=(Hn i k1 k2).symm.trans k;rw[sn i k1 k2];by_cases k3:i=a
  ·subst k3;rw[ha]at s6;cases s6;rw[←q0];exact gd.row 1000 _ _ o0
  by_cases k4:i=b
  ·subst k4;rw[hb]at s6;cases s6;rw[←q1];exact gd.row 1020 _ _ o1
  exact(g.row i ok x s6).kept zs sm fun q hq=>dJ i q k3 k4 (by rw[s6];simp) hq
 ·by_cases h4:YU i
  ·obtain⟨k1,k2⟩:=back i q h4 h2;refine⟨k1,?_⟩;rcases k2 with k|k|k
   ·exact .inl (acR hB k)
   ·exact(g.live a q QB k).2
   ·exact(g.live b q NM k).2
  ·obtain⟨r1,r2,r3,r4⟩:=rest i h4;have h1:h i≠none:=by rw[←Hn i r1 r2];exact h1
   rw[sn i r1 r2]at h2;refine⟨fun hz=>?_,(g.live i q h1 h2).2⟩;rcases zf q hz with k|k|k
   ·exact(g.live i q h1 h2).1 k
   ·rcases oin q k with k|k
    ·exact r3 (g.apart i a q h1 QB h2 k)
    ·exact r4 (g.apart i b q h1 NM h2 k)
   ·have:=g.bT ⟨i,h1,h2⟩;omega
 ·by_cases hi:YU i<;>by_cases hj:YU j
  ·obtain⟨k1,k2⟩:=kap i hi;obtain⟨k3,k4⟩:=kap j hj;rw[←k2]at h3;rw[←k4]at h4;exact amc i j hi hj (gd.apart _ _ q k1 k3 h3 h4)
  ·obtain⟨r1,r2,r3,r4⟩:=rest j hj;rw[sn j r1 r2]at h4;exact(mixed i j q hi hj (by rw[←Hn j r1 r2];exact h2) h3 h4).elim
  ·obtain⟨r1,r2,r3,r4⟩:=rest i hi;rw[sn i r1 r2]at h3;exact(mixed j i q hj hi (by rw[←Hn i r1 r2];exact h1) h4 h3).elim
  ·obtain⟨r1,r2,_,_⟩:=rest i hi;obtain⟨t1,t2,_,_⟩:=rest j hj;rw[sn i r1 r2]at h3;rw[sn j t1 t2]at h4;exact g.apart i j q (by rw[←Hn i r1 r2];exact h1) (by rw[←Hn j t1 t2];exact h2) h3 h4
 ·have hr:aD Z' ψ' out w' (.agg [.bO 3000,.bO 3001]) V:=hr;simp only[aD,az]at hr;obtain⟨vs,rfl,u1,_,pU,⟨d1,d2⟩,u2,_,rfl,⟨d3,d4⟩,rfl⟩:=hr;show aD Z' fg H w' (.agg [.bO (id+128),.bO (id+129)]) (.agg vs);simp only[aD,az];exact⟨vs,rfl,u1,[u2],pU,⟨d1,fun _=>(d2 (by rw[o2];simp)).trans s0.symm⟩,u2,[],rfl,⟨d3,fun _=>(d4 (by rw[o3];simp)).trans s1.symm⟩,rfl⟩
end Go.Vs
namespace Go.Vs
open Go.Proofs
abbrev ZF:(f:FuncId)→(g:aO)→Option (g.A→Option g.B):=fun _ _=>none
section
variable (SG:FuncId→Option aO) (AN:FuncId→Nat→Option Shape)
noncomputable abbrev ZG:FT:=Fix Tryz.prog Eqs SG AN ZF
noncomputable abbrev LXG(f:FuncId)(g:aO)(fn:Func):JT g:=Lp Tryz.prog Eqs SG AN ZF f g fn
end
theorem J4{SG:FuncId→Option aO}{AN:FuncId→Nat→Option Shape}{f:FuncId}{g:aO}{fn:Func}{x:g.A}{y:g.B}(hb:body Tryz.prog (f%1000)=some (fn,fn.body.getD .skip))(hc:(decide (g.ps.length≤fn.ntmps)&&decide (g.bs.length≤8))=true) (h:Ws SG AN f g fn (ZG SG AN) (LXG SG AN f g fn) x=some y):ZG SG AN f g x=some y:=Qg rfl hb hc h
theorem Wt{SG:FuncId→Option aO}{AN:FuncId→Nat→Option Shape}{f j:Nat}{g:aO}{fn:Func}{sh:Shape}{x:sh.T}{y:g.B}(hs:(match aE Tryz.prog (f%1000) j with | .inLoop _::_=>true|_=>false)=true)
  (h:adn SG AN f j g fn sh (ZG SG AN) (LXG SG AN f g fn) x=some y):LXG SG AN f g fn sh (aE Tryz.prog (f%1000) j) x=some y:=by
 unfold adn at h;generalize aE Tryz.prog (f%1000) j=s at hs h ⊢
 split at hs
 ·exact Vj h
 ·cases hs
theorem Wu{α β:Type}{o:Option α}{f:α→Option β}{a:α}{r:Option β}(h:o=some a)(k:f a=r):o.bind f=r:=by simp_all
theorem Fh{α:Type}{c:Bool}{x y r:α}(h:c=true)(k:x=r):cond c x y=r:=by simp_all
theorem ZH{α:Type}{c:Bool}{x y r:α}(h:c=false)(k:y=r):cond c x y=r:=by simp_all
theorem Wv{R:Type}{f:Nat→Option R}{r:R}(h0:f 0=some r)(h1:f 1=some r):tF 2 f=some r :=mF (by omega) fun j hj=>by
  grind
theorem ag8(xs:List an)(h:aR 0 xs.length=true):ZG Sg0 An0 500109 ZC ((),(xs,()))=some ((xs,()),(xs,())):=by
 refine J4 (fn:=Tryz.f109) (by kernel_rfl) (by kernel_rfl) ((ag3 _ _ _).trans ?_)
 cases xs with
 |nil=>exact Fh rfl (Wv rfl rfl)
 |cons x r=>exact ZH rfl (Fh h rfl)
theorem ag9(xs:List aj)(h:aR 0 xs.length=true):ZG Sg0 An0 500110 ZD ((),(xs,()))=some ((xs,()),(xs,())):=by
 refine J4 (fn:=Tryz.f110) (by kernel_rfl) (by kernel_rfl) ((ag4 _ _ _).trans ?_)
 cases xs with
 |nil=>exact Fh rfl (Wv rfl rfl)
 |cons x r=>exact ZH rfl (Fh h rfl)
theorem QC{f:FuncId}{g:aO}(h:Sg0 f=some g):(f,g)∈adk:=by
 unfold Sg0 at h;obtain⟨p,hp,rfl⟩:=acX.1 h
 grind
theorem QD{f:FuncId}{g:aO}(h:YT f=some g):(f,g)∈adl:=by
 unfold YT at h;obtain⟨p,hp,rfl⟩:=acX.1 h
 grind
noncomputable def Ww(l:List (Nat×aO)):Bool:=l.all fun p=>match Tryz.prog.funcs[p.1%1000]? with|some fn => !(fn.name== "runtime.NumGoroutine")&&fn.body.isSome|none=>false
theorem J5{l:List (Nat×aO)}(key:Ww l=true){f:FuncId}{g:aO}(hm:(f,g)∈l):kb Tryz.prog (f%1000):=by
 have:=ac2.1 key _ hm;simp only at this
 split at this
 ·rename_i fn hf;simp only[Bool.and_eq_true,Bool.not_eq_true']at this;exact⟨fn,hf,this.1,this.2⟩
 ·cases this
theorem aha{f:FuncId}{g:aO}{x:g.A}{y:g.B}(hs:Sg0 f=some g)(h:ZG Sg0 An0 f g x=some y):HM Tryz.prog f g x y :=C3 (fun f g u hf hu=>by have hm:=QC hf;simp only[adk,List.mem_cons,List.not_mem_nil,or_false,Prod.mk.injEq]at hm;rcases hm with⟨_,rfl⟩|⟨_,rfl⟩<;>cases hu) Fg (fun f g hf=>J5 (by kernel_rfl) (QC hf)) vx (fun f g u x y _ hu _=>by cases hu) hs h
theorem ZI:hZ Tryz.prog 109 (vz 38 dh):=wH rfl fun xs h=>by have:=aha (by kernel_rfl) (ag8 xs h);exact this
theorem ZJ:hZ Tryz.prog 110 (vz 84 dG):=wH rfl fun xs h=>by have:=aha (by kernel_rfl) (ag9 xs h);exact this
theorem ahb(l:List ag)(hl:l.length≤50000000):ZG YT An1 111 CC ((l,()),())=some ((l,()),()):=by
 refine J4 (fn:=Tryz.f111) (by kernel_rfl) (by kernel_rfl) ((ag5 _ _ _).trans ?_)
 cases l with
 |nil=>exact Fh rfl (Wv rfl rfl)
 |cons x r=>exact ZH rfl (Fh (decide_eq_true (show 0+(x::r).length≤1073741824 by omega)) rfl)
theorem Wx{i n:Nat}(h:i<n)(hn:n≤50000000):IntKind.wrap .i64 ((i:Int)+1)=((i+1:Nat):Int):=by
 grind [IntKind.wrap,IntKind.bits,IntKind.signed]
theorem ahc(xs:List an)(ys:List aj)(h:rN xs ys=true):ZG YT An1 500083 mM ((),(xs,(ys,())))=some (((xs,(ys,())),()),(xs,(ys,()))):=by
 unfold rN at h;simp only[Bool.and_eq_true,decide_eq_true_eq,List.all_eq_true]at h;obtain⟨hx,hy,hr⟩:=h;refine J4 (fn:=Tryz.f83) (by kernel_rfl) (by kernel_rfl) ((ag6 _ _ _).trans ?_);refine Fh (decide_eq_true (show 0+xs.length≤1073741824 by omega)) (Fh (decide_eq_true (show 0+ys.length≤1073741824 by omega)) ?_);have loop:∀(n i:Nat) (out:List an),i+n=xs.length→out=xs→LXG YT An1 500083 mM Tryz.f83 Mt (aE Tryz.prog 83 0) ((((xs.length:Nat):Int),((i:Int),())),(((([]:List an),(([]:List aj),())),((out,(ys,())),())),(xs,(ys,()))))=some (((xs,(ys,())),()),(xs,(ys,()))):=by
  intro n
  induction n with
  |zero =>intro i out hi ho;subst ho;refine Wt (j:=0) (by kernel_rfl) ((QA _ _ _).trans ?_);exact ZH (decide_eq_false (show ¬((i:Int)<((out.length:Nat):Int)) by omega)) rfl
  |succ n ih =>
   intro i out hi ho;have aG:i<xs.length:=by omega
   have Wq:out[i]? = some xs[i]:=by simp_all
   have hol:out.length=xs.length:=by rw[ho]
   have c1:(decide ((0:Int)≤(i:Int))&&decide ((i:Int)<((out.length:Nat):Int)))=true:=by simp_all
   refine Wt (j:=0) (by kernel_rfl) ((QA _ _ _).trans ?_);refine Fh (decide_eq_true (show((i:Int)<((xs.length:Nat):Int)) by omega)) (Fh c1 (Wu Wq ?_));refine Wu (ahb xs[i].2.1 (hr _ (acG aG))) ?_;refine Fh c1 (Wu Wq ?_);have hs:out.set i (xs[i].1,(xs[i].2.1,xs[i].2.2))=xs:=by
    grind [List.set_getElem_self]
   have:=ih (i+1) (out.set i (xs[i].1,(xs[i].2.1,xs[i].2.2))) (by omega) hs;rw[←Wx aG hx]at this;exact this
 exact loop xs.length 0 xs (by omega) rfl
theorem amd{f:FuncId}{g:aO}{x:g.A}{y:g.B}(hs:YT f=some g)(h:ZG YT An1 f g x=some y):HM Tryz.prog f g x y :=C3 (fun f g u hf hu=>by
  have hm:=QD hf;simp only[adl,List.mem_cons,List.not_mem_nil,or_false,Prod.mk.injEq]at hm;rcases hm with⟨_,rfl⟩|⟨_,rfl⟩|⟨rfl,rfl⟩|⟨rfl,rfl⟩
  ·cases hu
  ·cases hu
  ·cases hu;grind [id,ZI]
  ·cases hu;grind [id,ZJ]) Fg (fun f g hf=>J5 (by kernel_rfl) (QD hf)) vx (fun f g u x y _ hu _=>by cases hu) hs h
theorem S4:hZ Tryz.prog 83 JG:=J3 fun xs ys h=>by have:=amd (by kernel_rfl) (ahc xs ys h);exact this
end Go.Vs
namespace Go.Vs
open Go.Proofs Go.RowKit
abbrev abE:Array Value:=#[.slice none 0 0,.slice none 0 0,.slice none 0 0,.int .i64 0,.slice none 0 0]
theorem ZK(w:World):Calls Tryz.prog 28 #[] w fun e w'=>e=.returned (.pointer (some ⟨w.heap.size,0,none⟩))∧w'=w.alloc (.cells abE 94):=by
 go_enter Tryz.func28,Tryz.ntmps28
 go_wp2
 go_ret
 simp_all
theorem OZ:hZ Tryz.prog 28 ac8:=by
 intro Z ψ h w B0 O N hh id e vs us g hB br hN bm nD pU Cw he;unfold ac8 at he
 split at he
 rotate_left
 ·cases he
 simp only[Option.some.injEq,Prod.mk.injEq,true_and]at he;subst he;simp only[az]at pU;subst pU;have k0:aL Z w Qh (kC Qh) abE.toList:=by have z:∀(k:K),aL Z w (.sl k) [] [.slice none 0 0]:=fun k=>⟨_,rfl,none,0,rfl,abX _,fun _=>rfl,fun i x h=>by simp at h⟩;exact⟨[.slice none 0 0,.slice none 0 0,.slice none 0 0],[.int .i64 0,.slice none 0 0],rfl,⟨[.slice none 0 0,.slice none 0 0],[.slice none 0 0],rfl,⟨[.slice none 0 0],[.slice none 0 0],rfl,z _,z _⟩,z _⟩,[.int .i64 0],[.slice none 0 0],rfl,rfl,z _⟩
 have n0:N (id+128):=hN 128 (by omega);have b1:=yi g hB (id+128) 94 n0 (iH (h:=h) (ψ:=ψ) k0) k0.one (fun i ty cs hb=>aF.imp (p:=fun j=>¬N j) (q:=fun j=>j≠id+128) (fun j hj e=>hj (by simp_all)) (bm i ty cs hb)) (by show aF _ [.sl false dh [],.sl false dG [],.sl false cQ [],.int .i64 0,.sl false NK []];simp[aF,aM]);refine(ZK w).mono fun en w' ⟨e1,e2⟩=>?_;subst e2;have hH:(bD.new (.ref (id+128) 0 0 0) [(id+128,.box 94 (enc Qh (kC Qh)))]).hp h=eI h (id+128) (some (.box 94 (enc Qh (kC Qh)))):=by
  funext i;show(match Heap.get _ i with|some o=>some o|none=>h i)=_;unfold eI;by_cases h2:i=id+128
  ·grind [Heap.get]
  ·simp[Heap.get,h2,Ne.symm h2]
 refine⟨_,Z,eI ψ (id+128) (.pointer (some ⟨w.heap.size,0,none⟩)),e1,?_,?_⟩
 ·simp_all
 ·rw[hH];simp only[bD.v,aD];refine⟨_,rfl,fun _=>?_⟩;rw[bg];rfl
theorem ZL(w:World)(b:Nat)(v0 v1 v2 v3 v4:Value)(hg:w.heap[b]? = some (.cells #[v0,v1,v2,v3,v4] 94 (0,0))):Calls Tryz.prog 33 #[.pointer (some ⟨b,0,none⟩)] w fun e w'=>e=.returned v3∧w'=w:=by
 go_enter Tryz.func33,Tryz.ntmps33
 go_wp2_with (simp[World.cell?,hg])
 go_ret
 simp_all
theorem Wy{Z:Nat→Prop}{ψ:Nat→Value}{h:Hp}{w:World}{B0:Nat}{O:Nat→Prop}{hh:Heap}(g:Good Z ψ h w B0 O)(br:∀id o,hh.get id=some o→h id=some o){i:Nat}{cs:List AV}(hb:Dv hh i 94=some cs){x:Qh.T}(hd:dM Qh cs=some x) {us:List Value} (pU:az Z ψ h w [.ref i 0 0 0] us) :
  ∃(b:Nat) (p0 p1 p2 p4:Option Addr) (l0 c0 l1 c1 l2 c2 l4 c4:Nat),us=[.pointer (some ⟨b,0,none⟩)]∧w.heap[b]? = some (.cells #[.slice p0 l0 c0,.slice p1 l1 c1,.slice p2 l2 c2,.int .i64 x.2.1,.slice p4 l4 c4] 94 (0,0)) ∧ aL Z w Qh x [.slice p0 l0 c0,.slice p1 l1 c1,.slice p2 l2 c2,.int .i64 x.2.1,.slice p4 l4 c4]:=by
 have hg:hh.get i=some (.box 94 cs):=by
  grind [Dv]
 have h1:=br _ _ hg;obtain⟨b,vs,e1,e2,e3,e4⟩:=g.box i 94 cs h1;have hk:=dN hd e3;have hu:us=[.pointer (some ⟨b,0,none⟩)]:=by simp only[az,aD]at pU;obtain⟨v,jD,rfl,⟨a,rfl,ha⟩,rfl⟩:=pU;rw[ha (by rw[h1];simp),e1];rfl
 have sL:=hk;obtain⟨l⟩:=vs;obtain⟨ua,ub,hq,⟨ud,ug,rfl,⟨uv,ue,rfl,⟨_,rfl,p0,c0,rfl,_⟩,⟨_,rfl,p1,c1,rfl,_⟩⟩,⟨_,rfl,p2,c2,rfl,_⟩⟩,un,u4,rfl,hn,⟨_,rfl,p4,c4,rfl,_⟩⟩:=hk;have hn:un=[.int .i64 x.2.1]:=hn
 grind
theorem J6:hZ Tryz.prog 33 OL:=by
 intro Z ψ h w B0 O N hh id e vs us g hB br hN bm nD pU Cw he;unfold OL at he
 split at he
 rotate_left
 ·cases he
 split at he
 rotate_left
 ·cases he
 rename_i i cs hb
 split at he
 rotate_left
 ·cases he
 rename_i x hd
 cases he
 obtain⟨b,p0,p1,p2,p4,l0,c0,l1,c1,l2,c2,l4,c4,rfl,hg,_⟩:=Wy g br hb hd pU;refine(ZL w b _ _ _ _ _ hg).mono fun en w' ⟨e1,e2⟩=>?_;subst e2;refine⟨_,Z,ψ,e1,Next.refl g,?_⟩;rfl
theorem QE(w:World)(a:Option Addr)(n c:Nat)(hn:n≤c):Calls Tryz.prog 145 #[.slice a n c] w fun e w'=>e=.returned (.slice (if n=0 then a else a) n n)∧w'=w:=by
 go_enter Tryz.func145,Tryz.ntmps145
 go_wp2_with (simp)
 go_ret
 exact⟨rfl,rfl⟩
theorem ZM:hZ Tryz.prog 145 Vu:=by
 intro Z ψ h w B0 O N hh id e vs us g hB br hN bm nD pU Cw he;unfold Vu at he
 split at he
 ·rename_i ex k xs
  cases he
  simp only[az,aD,aL]at pU;obtain⟨v,jD,rfl,⟨⟨v',hv,A,c,rfl,hl,hc,hx⟩,_⟩,rfl⟩:=pU
  cases hv
  refine(QE w A xs.length c hl).mono fun en w' ⟨e1,e2⟩=>?_;subst e2;refine⟨_,Z,ψ,e1,Next.refl g,?_⟩;simp only[bD.v,aD,aL,ite_self];exact⟨⟨_,rfl,A,_,rfl,abX _,fun h0=>by have:=hc h0;omega,hx⟩,fun _=>⟨A,_,rfl⟩⟩
 ·cases he
  simp only[az,aD]at pU;obtain⟨v,jD,rfl,rfl,rfl⟩:=pU;refine(QE w none 0 0 (abX _)).mono fun en w' ⟨e1,e2⟩=>?_;subst e2;exact⟨_,Z,ψ,e1,Next.refl g,by simp only[bD.v,aD,ite_self]⟩
 ·cases he
end Go.Vs
namespace Go.Vs
open Go.Proofs
theorem Wz:∀f g u,Sg f=some g→g.x=some u→hZ Tryz.prog (f%1000) u:=fun f g u h hu=>by
 have hm:=Wr h;have key:(sgs.all fun p=>(p.2.x.isNone || (p.1==153 || (p.1==191 || (p.1==220 || (p.1==154 || (p.1==164 || (p.1==222 || (p.1==500083 || (p.1==28 || (p.1==33 || (p.1==145))))))))))))=true:=by kernel_rfl
 have:=ac2.1 key _ hm;simp only[hu,Option.isNone_some,Bool.false_or,Bool.or_eq_true,beq_iff_eq]at this;rcases this with rfl|rfl|rfl|rfl|rfl|rfl|rfl|rfl|rfl|rfl
 ·have e:Sg 153=some abi:=by kernel_rfl
  rw[e]at h;cases h;cases hu;intro Z ψ h w B0 O N hh id e vs us;exact xF (k:=dh) adb
 ·have e:Sg 191=some abl:=by kernel_rfl
  rw[e]at h;cases h;cases hu;intro Z ψ h w B0 O N hh id e vs us;exact xF (k:=dG) adg
 ·have e:Sg 220=some abm:=by kernel_rfl
  rw[e]at h;cases h;cases hu;intro Z ψ h w B0 O N hh id e vs us;exact xF (k:=cQ) adi
 ·have e:Sg 154=some abj:=by kernel_rfl
  rw[e]at h;cases h;cases hu;intro Z ψ h w B0 O N hh id e vs us;exact Ff (k:=dh) ade
 ·have e:Sg 164=some abk:=by kernel_rfl
  rw[e]at h;cases h;cases hu;intro Z ψ h w B0 O N hh id e vs us;exact Ff (k:=dG) adh
 ·have e:Sg 222=some abn:=by kernel_rfl
  rw[e]at h;cases h;cases hu;intro Z ψ h w B0 O N hh id e vs us;exact Mq (k:=bz) ZB
 ·have e:Sg 500083=some L5:=by kernel_rfl
  rw[e]at h;cases h;cases hu;intro Z ψ h w B0 O N hh id e vs us;exact S4
 ·have e:Sg 28=some abv:=by kernel_rfl
  rw[e]at h;cases h;cases hu;intro Z ψ h w B0 O N hh id e vs us;exact OZ
 ·have e:Sg 33=some abt:=by kernel_rfl
  rw[e]at h;cases h;cases hu;intro Z ψ h w B0 O N hh id e vs us;exact J6
 ·have e:Sg 145=some abu:=by kernel_rfl
  rw[e]at h;cases h;cases hu;intro Z ψ h w B0 O N hh id e vs us;exact ZM
end Go.Vs
