/- slices.Insert -/
import Derived.Test.YtoleelddkocpkaaGreatEngineD
import Derived.Lib.AppendZerosOnto
import Derived.Lib.Overlaps
import Derived.Lib.Walk
import Derived.Shelf.Spec.SlicesInsert
import Derived.Laws.NewBlocks
set_option linter.unusedVariables false
set_option linter.unusedSimpArgs false
namespace Go.Vs
variable {P:Program} {w:World}
theorem pU(w:World)(t ty e:TypeId)(sz g n c:Nat)(a:Addr)(m mc:Nat)(cur:Array Value)(news:List Value)(ht:P.underlying t=some (.slice e))(hs:(P.info? e).map (·.size)=some sz) (hg:w.heap[g]? = some (.cells cur e (0,0))) (hl:news.length=m*sz) (yS:∀(j:Nat) v,news[j]? = some v→w.cell? (a.add j)=some v) (h1:∀v∈news,v.oneCell'=true) (dO:n+m≤c) (iY:c*sz≤cur.size) :
  (Builtin.append_ #[t,t] ty #[.slice (some ⟨g,0,none⟩) n c,.slice (some a) m mc]).run P w=.ok (.slice (some ⟨g,0,none⟩) (n+m) c) (w.setRow g (cur.toList.take (n*sz)++news++cur.toList.drop (n*sz+news.length)).toArray):=by
 have hle:n*sz+m*sz≤c*sz:=by rw[←Nat.add_mul];exact acd _ dO
 have afD:=run_loadCells_list (P:=P) w a news yS;have vQ:=run_storeCells_at P g (n*sz) e news 0 cur w hg (by omega) h1;simp only[Nat.add_zero]at vQ;have ha:(⟨g,0,none⟩:Addr).add (n*sz)=⟨g,n*sz,none⟩:=by rw[ct,Nat.zero_add]
 cases hq:P.info? e with
 |none=>simp_all
 |some i =>
  have hi:i.size=sz:=by simp_all
  simp[Builtin.append_,run_underlying ht,Builtin.lenOf,Builtin.firstCells,sizeOf,typeInfo,hq,hi,←hl,afD,dO,ha,vQ]
theorem tg(w:World)(t ty e:TypeId)(sz g o k c:Nat)(cur:Array Value)(i:TypeInfo)(z:Value)(ht:P.underlying t=some (.slice e))(hi:P.info? e=some i)(hz:i.zero=some z)(JA:z.cells.size=sz)(h1:∀v∈z.cells.toList,v.oneCell'=true) (hg:w.heap[g]? = some (.cells cur e (0,0))) (hk:0<k) (QM:o+k*sz≤cur.size) :
  (Builtin.clear_ #[t] ty #[.slice (some ⟨g,o,none⟩) k c]).run P w=.ok (.tuple #[]) (w.setRow g (cur.toList.take o++(Builtin.zeroCells z.cells k).toList++cur.toList.drop (o+(Builtin.zeroCells z.cells k).toList.length)).toArray):=by
 have hl:(Builtin.zeroCells z.cells k).toList.length=k*sz:=by simp[Builtin.zeroCells,JA]
 have H4:∀v∈(Builtin.zeroCells z.cells k).toList,v.oneCell'=true:=fun v hv=>by
  simp only[Builtin.zeroCells,Array.toList_map,List.mem_map]at hv;obtain⟨q,hq,rfl⟩:=hv;have hq':q<k*z.cells.size:=by simpa using hq
  have hp:0<z.cells.size:=by
   rcases Nat.eq_zero_or_pos z.cells.size with h|h
   ·rw[h,Nat.mul_zero]at hq';omega
   ·exact h
  have aN:q%z.cells.size<z.cells.size:=adJ _ hp;rw[getElem!_pos z.cells _ aN];exact h1 _ (by simp)
 have vQ:=run_storeCells_at P g o e (Builtin.zeroCells z.cells k).toList 0 cur w hg (by omega) H4;simp only[Nat.add_zero]at vQ;obtain⟨m,rfl⟩:∃m,k=m+1:=⟨k-1,by omega⟩;simp[Builtin.clear_,run_underlying ht,zeroValue,typeInfo,hi,hz,vQ]
end Go.Vs
namespace Go.Vs
open Go.Proofs Go.RowKit
def D4(P:Program)(f:FuncId)(e:TypeId)(size:Nat):Prop :=∀(w:World) (v u:Value) (n i:Nat) (xs ys:List Value),dW w e size v n xs→dW w e size u 1 ys→i≤n→n+1≤fB→(∀b,ob v=some b→ob u≠some b) →(∀q∈xs,q.oneCell'=true)→(∀q∈ys,q.oneCell'=true) → Calls P f #[v,.int .i64 i,u] w fun en w'=>∃v',en=.returned v'∧dW w' e size v' (n+1) (xs.take (i*size)++(ys++xs.drop (i*size)))∧w.grownBy w' (ob v)∧(ob v'=ob v∨∀b,ob v'=some b→w.heap.size≤b)
def IN(P:Program)(f:FuncId)(e:TypeId)(sz:Nat):Prop:=∀(w:World) (v u:Value) (n:Nat) (xs ys:List Value) (hv:dW w e sz v n xs) (hu:dW w e sz u 1 ys) (hm:n+1≤fB) (h1:∀q∈ys,q.oneCell'=true),Calls P f #[v,.int .i64 n,u] w fun en w'=>∃v',en=.returned v'∧dW w' e sz v' (n+1) (xs++ys)∧w.grownBy w' (ob v)∧(ob v'=ob v∨∀b,ob v'=some b→w.heap.size≤b)
def xW(P:Program)(f:FuncId)(e:TypeId)(sz:Nat):Prop:=∀(w:World) (g c g2 c2 n i:Nat) (xs ys:List Value) (cur dx:Array Value) (hg:w.heap[g]? = some (.cells cur e (0,0))) (iY:cur.size=c*sz) (lY:cur.toList.take (n*sz)=xs) (yE:xs.length=n*sz) (wP:w.heap[g2]? = some (.cells dx e (0,0))) (pV:dx.size=c2*sz) (pC:0<c2) (lM:dx.toList.take (1*sz)=ys) (FE:ys.length=1*sz) (bB:g2≠g) (hi:i<n) (dO:n+1≤c) (hc:c≤maxLen) (h1:∀q∈xs,q.oneCell'=true) (h2:∀q∈ys,q.oneCell'=true),Calls P f #[.slice (some ⟨g,0,none⟩) n c,.int .i64 i,.slice (some ⟨g2,0,none⟩) 1 c2] w fun en w'=>en=.returned (.slice (some ⟨g,0,none⟩) (n+1) c) ∧ ∃gM:Array Value,w'.heap[g]? = some (.cells gM e (0,0))∧gM.size=cur.size∧gM.toList.take ((n+1)*sz)=xs.take (i*sz)++(ys++xs.drop (i*sz))∧w.grownBy w' (some g)
def B3(P:Program)(f:FuncId)(e:TypeId)(sz:Nat):Prop:=∀(w:World) (g c g2 c2 n i:Nat) (xs ys:List Value) (cur dx:Array Value) (hg:w.heap[g]? = some (.cells cur e (0,0))) (iY:cur.size=c*sz) (lY:cur.toList.take (n*sz)=xs) (yE:xs.length=n*sz) (wP:w.heap[g2]? = some (.cells dx e (0,0))) (pV:dx.size=c2*sz) (pC:0<c2) (lM:dx.toList.take (1*sz)=ys) (FE:ys.length=1*sz) (bB:g2≠g) (hi:i<n) (Aw:n≤c) (dO:c<n+1) (hm:n+1≤fB) (h1:∀q∈xs,q.oneCell'=true) (h2:∀q∈ys,q.oneCell'=true),Calls P f #[.slice (some ⟨g,0,none⟩) n c,.int .i64 i,.slice (some ⟨g2,0,none⟩) 1 c2] w fun en w'=>∃G,en=.returned (.slice (some ⟨w.heap.size,0,none⟩) (n+1) G) ∧ ∃gM:Array Value,w'.heap[w.heap.size]? = some (.cells gM e (0,0))∧gM.size=G*sz∧n+1≤G∧G≤maxLen∧gM.toList.take ((n+1)*sz)=xs.take (i*sz)++(ys++xs.drop (i*sz))∧w.grownBy w' (some g)
theorem IP{w:World}{e sz:Nat}{u:Value}{ys:List Value}(hu:dW w e sz u 1 ys)(h1:∀q∈ys,q.oneCell'=true):Yf w sz u 1 ys:=by
 refine⟨hu.1,h1,.inr ?_⟩;rcases hu.2 with⟨h0,_⟩|⟨g,cap,cur,rfl,_,hg,_,_,hc,lY⟩
 ·cases h0
 ·refine⟨_,_,rfl,fun j q hj=>?_⟩;rw[ct,Nat.zero_add];rw[←lY,List.getElem?_take]at hj
  split at hj
  ·simp[World.cell?,hg];simpa using hj
  ·cases hj
theorem Vu{α:Type}{cur xs ys cur1 cur3:List α}{i n sz:Nat}(lY:cur.take (n*sz)=xs)(hl:(n+1)*sz≤cur.length)(hy:ys.length=sz)(hi:i≤n) (h1:cur1=cur.take ((i+1)*sz)++xs.drop (i*sz)++cur.drop ((i+1)*sz+(xs.drop (i*sz)).length)) (h3:cur3=cur1.take (i*sz)++ys++cur1.drop (i*sz+ys.length)) :
  cur3.take ((n+1)*sz)=xs.take (i*sz)++(ys++xs.drop (i*sz)):=by
 have zH:i*sz≤n*sz:=acd _ hi;rw[Nat.add_mul,Nat.one_mul]at hl h1 ⊢;have yE:xs.length=n*sz:=by rw[←lY,List.length_take];omega
 generalize i*sz=a at *;generalize n*sz=b at *;have e1:cur1.take a=xs.take a:=by
  grind
 have e2:cur1.drop (a+ys.length)=xs.drop a++cur.drop (a+1*sz+(xs.drop a).length):=by
  rw[h1,List.append_assoc,Nat.one_mul,hy]
  grind
 grind [List.append_assoc,List.take_left',List.length_append,List.length_take,List.length_drop]
theorem wq{w:World}{e size:Nat}{g n:Nat}{cur:Array Value}{xs:List Value}(hg:w.heap[g]? = some (.cells cur e (0,0)))(lY:cur.toList.take (n*size)=xs)(o:Nat):∀(j:Nat) q,(xs.drop o)[j]? = some q→w.cell? ((⟨g,o,none⟩:Addr).add j)=some q:=fun j q hj=>by
 rw[ct];rw[List.getElem?_drop,←lY,List.getElem?_take]at hj
 split at hj
 ·simp[World.cell?,hg];simpa using hj
 ·cases hj
theorem wu{P:Program}{t e sz:Nat}(ht:P.underlying t=some (.slice e))(hz:(P.info? e).map (·.size)=some sz)(w:World)(g c g2 c2 n i:Nat)(xs ys:List Value)(cur dx:Array Value)(hg:w.heap[g]? = some (.cells cur e (0,0)))(iY:cur.size=c*sz)(lY:cur.toList.take (n*sz)=xs)(yE:xs.length=n*sz)(wP:w.heap[g2]? = some (.cells dx e (0,0)))(pV:dx.size=c2*sz)(pC:0<c2)(lM:dx.toList.take (1*sz)=ys)(FE:ys.length=1*sz)(bB:g2≠g)(hi:i<n)(dO:n+1≤c)(hc:c≤maxLen)(h1:∀q∈xs,q.oneCell'=true)(h2:∀q∈ys,q.oneCell'=true) :
  ∃cur1 cur3:Array Value,(∀(W:World),W.heap=w.heap→∀ty dc sc,(Builtin.copy_ #[t,t] ty #[.slice (some ⟨g,(i+1)*sz,none⟩) (n-i) dc,.slice (some ⟨g,i*sz,none⟩) (n+1-i) sc]).run P W=.ok (goInt (n-i:Nat)) (W.setRow g cur1))∧(∀ty dc sc,(Builtin.copy_ #[t,t] ty #[.slice (some ⟨g,i*sz,none⟩) (n+1-i) dc,.slice (some ⟨g2,0,none⟩) 1 sc]).run P (w.drew.setRow g cur1)=.ok (goInt 1) ((w.drew.setRow g cur1).setRow g cur3))∧cur3.size=cur.size∧cur3.toList.take ((n+1)*sz)=xs.take (i*sz)++(ys++xs.drop (i*sz)):=by
 have QQ:=wq (size:=sz) (n:=1) wP lM 0;have Ax:=wq (size:=sz) (n:=n) hg lY (i*sz);have h63:c≤9223372036854775807:=by grind [maxLen]
 have m6:(n+1)*sz≤c*sz:=acd _ dO;have m1:(n+1)*sz=n*sz+sz:=ad5 ..;have m2:(i+1)*sz=i*sz+sz:=ad5 ..;have m3:(n-i)*sz=n*sz-i*sz:=Nat.sub_mul ..;have m4:(i+1)*sz≤n*sz:=acd _ hi;have m5:1*sz=sz:=Nat.one_mul _;have hn5:n*sz≤cur.size:=by omega
 obtain⟨cur1,ti⟩:∃cur1:Array Value,cur1=(cur.toList.take ((i+1)*sz)++xs.drop (i*sz)++cur.toList.drop ((i+1)*sz+(xs.drop (i*sz)).length)).toArray:=⟨_,rfl⟩;have Lf:(xs.drop (i*sz)).length=(n-i)*sz:=by simp_all
 have NA:∀(W:World),W.heap=w.heap→∀ty dc sc,(Builtin.copy_ #[t,t] ty #[.slice (some ⟨g,(i+1)*sz,none⟩) (n-i) dc,.slice (some ⟨g,i*sz,none⟩) (n+1-i) sc]).run P W=.ok (goInt (n-i:Nat)) (W.setRow g cur1):=fun W hW ty dc sc=>by
  have:=iw (P:=P) W t t ty e sz g ((i+1)*sz) (n-i) dc ⟨g,i*sz,none⟩ (n+1-i) sc cur e (xs.drop (i*sz)) ht hz (by simp_all) (by grind) (fun j v hj=>by grind [World.cell?]) (by omega) (fun q hq=>h1 q (adK hq))
  grind
 have Nq:cur1.size=cur.size:=by grind
 obtain⟨cur3,Vv⟩:∃cur3:Array Value,cur3=(cur1.toList.take (i*sz)++ys++cur1.toList.drop (i*sz+ys.length)).toArray:=⟨_,rfl⟩;have ale:∀(W:World),W.heap[g]? = some (.cells cur1 e (0,0))→W.heap[g2]? = w.heap[g2]?→∀ty dc sc,(Builtin.copy_ #[t,t] ty #[.slice (some ⟨g,i*sz,none⟩) (n+1-i) dc,.slice (some ⟨g2,0,none⟩) 1 sc]).run P W=.ok (goInt 1) (W.setRow g cur3):=fun W hW hW2 ty dc sc=>by have:=iw (P:=P) W t t ty e sz g (i*sz) (n+1-i) dc ⟨g2,0,none⟩ 1 sc cur1 e ys ht hz hW (by rw[FE];simp only[Nat.min_def];split<;>omega) (fun j v hj=>by grind [World.cell?,fP]) (by omega) h2;rw[this,Vv];congr 2;simp only[Nat.min_def];split<;>omega
 have Td:cur3.size=cur.size:=by rw[Vv];simp;omega
 have jr:cur3.toList.take ((n+1)*sz)=xs.take (i*sz)++(ys++xs.drop (i*sz)):=Vu (sz:=sz) (cur1:=cur1.toList) (cur3:=cur3.toList) lY (by simp;omega) (by rw[FE,m5]) (Nat.le_of_lt hi) (by rw[ti]) (by rw[Vv]);exact⟨cur1,cur3,NA,ale (w.drew.setRow g cur1) (setRow_heap w.drew g cur _ e _ hg) (_root_.Go.setRow_other w.drew g g2 _ bB),Td,jr⟩
theorem wx{n i c:Nat}(hi:i<n)(dO:n+1≤c)(hc:c≤maxLen):(IntKind.i64.wrap ((i:Int)+1)=(i:Int)+1)∧(IntKind.i64.wrap ((n:Int)+1)=(n:Int)+1)∧((0:Int)≤(i:Int)+1)∧(i≤n)∧(((i:Int)+1).toNat=i+1)∧(¬(c=i+1))∧((i:Int)≤(n:Int)+1)∧(¬(c=i))∧(¬((i:Int)=(n:Int)))∧(¬((c:Int)<(n:Int)+1)):=by
 grind [maxLen,IntKind.wrap_i64]
theorem RM{α:Type}{row xs ys row2 row3:List α}{i n sz:Nat}(hA:row.take (i*sz)=xs.take (i*sz))(hl:(n+1)*sz≤row.length)(yE:xs.length=n*sz)(hy:ys.length=sz)(hi:i≤n) (h2:row2=row.take (i*sz)++ys++row.drop (i*sz+ys.length)) (h3:row3=row2.take ((i+1)*sz)++xs.drop (i*sz)++row2.drop ((i+1)*sz+(xs.drop (i*sz)).length)) :
  row3.take ((n+1)*sz)=xs.take (i*sz)++(ys++xs.drop (i*sz)):=by
 have zH:i*sz≤n*sz:=acd _ hi;rw[Nat.add_mul,Nat.one_mul]at hl h3 ⊢;generalize i*sz=a at *;generalize n*sz=b at *;have e1:row2.take (a+1*sz)=xs.take a++ys:=by
  grind
 rw[Nat.one_mul]at e1
 grind [List.take_left',List.length_append,List.length_take,List.length_drop,List.append_assoc]
theorem zJ{P:Program}{t e sz:Nat}{k:K}{i0:TypeInfo}{z0:Value}(hk:k.sz=sz)(h0:0<sz)(ht:P.underlying t=some (.slice e))(htn:P.underlying 3=some (.int .i64))(he:oJ P e k i0 z0)(w:World)(g c g2 c2 n i:Nat)(xs ys:List Value)(cur dx:Array Value)(hg:w.heap[g]? = some (.cells cur e (0,0)))(iY:cur.size=c*sz)(lY:cur.toList.take (n*sz)=xs)(yE:xs.length=n*sz)(wP:w.heap[g2]? = some (.cells dx e (0,0)))(pV:dx.size=c2*sz)(pC:0<c2)(lM:dx.toList.take (1*sz)=ys)(FE:ys.length=1*sz)(bB:g2≠g)(hi:i<n)(Aw:n≤c)(dO:c<n+1)(hm:n+1≤fB)(h1:∀q∈xs,q.oneCell'=true)(h2:∀q∈ys,q.oneCell'=true) :
  ∃(G:Nat) (vc row2 row3:Array Value) (W1:World),(∀ty,(Builtin.append_ #[t,3] ty #[.slice (some ⟨g,0,none⟩) i c,.int .i64 ((n:Int)+1-(i:Int))]).run P w=.ok (.slice (some ⟨w.heap.size,0,none⟩) (n+1) G) W1)∧W1.heap[w.heap.size]? = some (.cells vc e (0,0))∧(∀b,b<w.heap.size→W1.heap[b]? = w.heap[b]?)∧w.grownBy W1 none∧(∀(W:World),W.heap=W1.heap→∀ty dc sc,(Builtin.copy_ #[t,t] ty #[.slice (some ⟨w.heap.size,i*sz,none⟩) (n+1-i) dc,.slice (some ⟨g2,0,none⟩) 1 sc]).run P W=.ok (goInt 1) (W.setRow w.heap.size row2))∧(∀(W:World),W.heap=(W1.setRow w.heap.size row2).heap→∀ty dc sc,(Builtin.copy_ #[t,t] ty #[.slice (some ⟨w.heap.size,(i+1)*sz,none⟩) (n-i) dc,.slice (some ⟨g,i*sz,none⟩) (n-i) sc]).run P W=.ok (goInt (n-i:Nat)) (W.setRow w.heap.size row3))∧row3.size=G*sz∧n+1≤G∧G≤9223372036854775807∧row3.toList.take ((n+1)*sz)=xs.take (i*sz)++(ys++xs.drop (i*sz)):=by
 have MI:z0.cells.size=sz:=he.w4.trans hk;have JA:i0.size=sz:=he.size.trans hk;have hz:(P.info? e).map (·.size)=some sz:=by rw[he.info];simp_all
 have MJ:=he.bytes;have QQ:=wq (size:=sz) (n:=1) wP lM 0;have Ax:=wq (size:=sz) (n:=n) hg lY (i*sz);have aqd:=wq (size:=sz) (n:=n) hg lY 0;have hgl:g<w.heap.size:=(abR.1 hg).1;have aqe:g2<w.heap.size:=(abR.1 wP).1;unfold fB at hm;have m1:(n+1)*sz=n*sz+sz:=ad5 ..;have m2:(i+1)*sz=i*sz+sz:=ad5 ..;have m3:(n-i)*sz=n*sz-i*sz:=Nat.sub_mul ..;have m4:(i+1)*sz≤n*sz:=acd _ hi;have m5:1*sz=sz:=Nat.one_mul _;have m6:(n+1-i)*sz=n*sz+sz-i*sz:=by grind
 have sO:(n+1)*i0.bytes≤140737488355328:=acE (aek hm MJ) (by decide);have hold:(Builtin.firstCells i0.size i (.slice (some ⟨g,0,none⟩) i c)).run P w.drew=.ok (xs.take (i*sz)).toArray w.drew:=by rw[JA];exact run_firstCells_some w.drew sz i ⟨g,0,none⟩ i c (xs.take (i*sz)) (by grind) (fun j v hj=>by simp_all [List.getElem?_take])
 obtain⟨G,hG⟩:∃G,G=grownCap w (n+1) c e:=⟨_,rfl⟩;obtain⟨vc,ab2⟩:∃vc:Array Value,vc=(xs.take (i*sz)).toArray++Builtin.zeroCells z0.cells (n+1-i)++Builtin.zeroCells z0.cells (G-(n+1)):=⟨_,rfl⟩;have hik:i+(n+1-i)=n+1:=by omega
 have XV:∀ty,(Builtin.append_ #[t,3] ty #[.slice (some ⟨g,0,none⟩) i c,.int .i64 ((n:Int)+1-(i:Int))]).run P w=.ok (.slice (some ⟨w.heap.size,0,none⟩) (n+1) G) (w.drew.alloc (.cells vc e)):=fun ty=>by
  have h:=Lib.run_append_grow_zeros w t 3 ty e i0 z0 .i64 .i64 ht htn he.info he.zero (some ⟨g,0,none⟩) i c (xs.take (i*sz)) hold (n+1-i) (by omega) (by omega) (by omega) (by omega) (acE (acd _ (show n+1-i≤n+1 by omega)) (by omega)) (by simp_all [growslice_fits])
  grind
 have RN:n+1≤G:=by grind [grownCap_ge]
 have m7:(G-(n+1))*sz=G*sz-(n*sz+sz):=by rw[Nat.sub_mul,m1]
 have m8:(n+1)*sz≤G*sz:=acd _ RN;have IQ:G≤9223372036854775807:=by
  grind [grownCap_le_maxLen,maxLen]
 have hRs:vc.size=G*sz:=by
  grind [Builtin.zeroCells,List.length_take,Nat.min_eq_left]
 have hRt:vc.toList.take (i*sz)=xs.take (i*sz):=by
  grind
 obtain⟨W1,G9⟩:∃W1,W1=w.drew.alloc (.cells vc e):=⟨_,rfl⟩;have IS:W1.heap[w.heap.size]? = some (.cells vc e (0,0)):=by rw[G9];exact(MapKept.heap_alloc w.drew (.cells vc e)).1
 have FF:∀b,b<w.heap.size→W1.heap[b]? = w.heap[b]? := fun b hb=>by rw[G9];exact(Below.heap_alloc w.drew (.cells vc e) b hb).trans rfl
 have si:w.grownBy W1 none:=⟨by rw[G9];rfl,by rw[G9];rfl,by rw[G9];rfl,by simp_all,fun k hk _=>FF k hk⟩;obtain⟨row2,afF⟩:∃row2:Array Value,row2=(vc.toList.take (i*sz)++ys++vc.toList.drop (i*sz+ys.length)).toArray:=⟨_,rfl⟩;have QP:row2.size=vc.size:=by grind
 have NB:∀(W:World),W.heap=W1.heap→∀ty dc sc,(Builtin.copy_ #[t,t] ty #[.slice (some ⟨w.heap.size,i*sz,none⟩) (n+1-i) dc,.slice (some ⟨g2,0,none⟩) 1 sc]).run P W=.ok (goInt 1) (W.setRow w.heap.size row2):=fun W hW ty dc sc=>by
  have:=iw (P:=P) W t t ty e sz w.heap.size (i*sz) (n+1-i) dc ⟨g2,0,none⟩ 1 sc vc e ys ht hz (by simp_all) (by grind) (fun j v hj=>by grind [World.cell?,fP]) (by omega) h2
  grind
 obtain⟨row3,aaG⟩:∃row3:Array Value,row3=(row2.toList.take ((i+1)*sz)++xs.drop (i*sz)++row2.toList.drop ((i+1)*sz+(xs.drop (i*sz)).length)).toArray:=⟨_,rfl⟩;have Lf:(xs.drop (i*sz)).length=(n-i)*sz:=by grind
 have Td:row3.size=vc.size:=by rw[aaG];simp;omega
 have NC:∀(W:World),W.heap=(W1.setRow w.heap.size row2).heap→∀ty dc sc,(Builtin.copy_ #[t,t] ty #[.slice (some ⟨w.heap.size,(i+1)*sz,none⟩) (n-i) dc,.slice (some ⟨g,i*sz,none⟩) (n-i) sc]).run P W=.ok (goInt (n-i:Nat)) (W.setRow w.heap.size row3):=fun W hW ty dc sc=>by
  have:=iw (P:=P) W t t ty e sz w.heap.size ((i+1)*sz) (n-i) dc ⟨g,i*sz,none⟩ (n-i) sc row2 e (xs.drop (i*sz)) ht hz (by grind [setRow_heap]) (by grind) (fun j v hj=>by grind [World.cell?,fP,_root_.Go.setRow_other,Nat.ne_of_lt]) (by omega) (fun q hq=>h1 q (adK hq))
  grind
 have jr:row3.toList.take ((n+1)*sz)=xs.take (i*sz)++(ys++xs.drop (i*sz)):=RM (sz:=sz) (row:=vc.toList) (row2:=row2.toList) (row3:=row3.toList) hRt (by simp;omega) yE (by rw[FE,m5]) (by omega) (by rw[afF]) (by rw[aaG]);rw[←G9]at XV;exact⟨G,vc,row2,row3,W1,XV,IS,FF,si,NB,NC,by omega,RN,IQ,jr⟩
theorem zK{n i c G:Nat}(hi:i<n)(Aw:n≤c)(dO:c<n+1)(hm:n+1≤fB)(RN:n+1≤G):(IntKind.i64.wrap ((i:Int)+1)=(i:Int)+1)∧(IntKind.i64.wrap ((n:Int)+1)=(n:Int)+1)∧(IntKind.i64.wrap ((n:Int)+1-(i:Int))=(n:Int)+1-(i:Int))∧((0:Int)≤(i:Int)+1)∧(i≤n)∧(((i:Int)+1).toNat=i+1)∧(¬(G=i))∧(¬(G=i+1))∧(¬(c=i))∧((i:Int)≤(n:Int))∧(¬((i:Int)=(n:Int)))∧((c:Int)<(n:Int)+1):=by
 grind [fB,IntKind.wrap_i64]
theorem ND{P:Program}{f:FuncId}{e:TypeId}{sz:Nat}(hE:IN P f e sz)(hS:xW P f e sz)(hG:B3 P f e sz):D4 P f e sz:=fun w v u n i xs ys hv hu hi hm YH h1 h2=>by
 by_cases he:i=n
 ·subst he;refine(hE w v u i xs ys hv hu hm h2).mono fun en w' ⟨v',e1,e2,e3,e4⟩=>⟨v',e1,?_,e3,e4⟩;have hl:=hv.1
  grind
 ·have uj:i<n:=by omega
  have m1:(n+1)*sz=n*sz+sz:=ad5 ..;have m4:i*sz≤n*sz:=acd _ hi;have m5:1*sz=sz:=Nat.one_mul _;rcases hv.2 with⟨h0,_⟩|⟨g,c,cur,rfl,hc0,hg,Aw,XW,iY,lY⟩
  ·omega
  rcases hu.2 with⟨h0,_⟩|⟨g2,c2,dx,rfl,afG,wP,_,_,pV,lM⟩
  ·omega
  have oV:ob (.slice (some ⟨g,0,none⟩) n c)=some g:=by simp only[ob];grind
  have alf:ob (.slice (some ⟨g2,0,none⟩) 1 c2)=some g2:=by simp only[ob];grind
  have bB:g2≠g:=fun e=>YH g oV (by rw[alf,e]);by_cases dO:n+1≤c
  ·refine(hS w g c g2 c2 n i xs ys cur dx hg iY lY hv.1 wP pV afG lM hu.1 bB uj dO XW h1 h2).mono fun en w' ⟨e1,gM,e2,e3,e4,e5⟩=>?_;refine⟨_,e1,⟨?_,.inr ⟨g,c,gM,rfl,hc0,e2,dO,XW,by rw[e3,iY],e4⟩⟩,by simp_all,.inl ?_⟩
   ·have hl:=hv.1;have vU:=hu.1
    grind
   rfl
  ·refine(hG w g c g2 c2 n i xs ys cur dx hg iY lY hv.1 wP pV afG lM hu.1 bB uj Aw (by omega) hm h1 h2).mono fun en w' ⟨G,e1,gM,e2,e3,e4,e5,e6,e7⟩=>?_;refine⟨_,e1,⟨?_,.inr ⟨w.heap.size,G,gM,rfl,by omega,e2,e4,e5,e3,e6⟩⟩,by simp_all,.inr fun b hb=>?_⟩
   ·have hl:=hv.1;have vU:=hu.1
    grind
   simp_all [ob,if_neg]
set_option maxHeartbeats 4000000 in
set_option maxRecDepth 100000 in
theorem NF:IN Tryz.prog 153 38 5:=fun w v u n xs ys hv hu hm h1=>by
 have ht:Tryz.prog.underlying 24=some (.slice 38):=by kernel_rfl
 obtain⟨i0,z0,he⟩:=cj (P:=Tryz.prog) (e:=38) (k:=.pair (.pair (.int .i64) (.int .i64)) (.pair (.sl (.pair (.pair (.int .i64) (.int .i64)) (.int .i64))) (.pair .str (.int .i64)))) (by kernel_rfl);have yS:=IP hu h1;obtain⟨v',w',dn,h4,h5,h6⟩:=dZ (P:=Tryz.prog) (ty:=24) ht he hv yS hm;obtain⟨A,c,rfl⟩:=hv.slice;have Aw:n≤c:=by
  rcases hv.2 with⟨h0,A,e⟩|⟨g,cap,cur,e,hc,h2,h3,_⟩
  ·omega
  simp_all
 obtain⟨B,cu,rfl⟩:=hu.slice;have afH:n≤1073741824:=by grind [fB]
 go_enter Tryz.func153,Tryz.ntmps153
 go_wp2_with (at_builtin;refine Lib.wpList_append_run _ rfl _ _ _ _ rfl _ _ rfl rfl _ _ dn ?_)
 all_goals go_ret
 all_goals first|exact⟨_,rfl,h4,h5,h6⟩|(subst_vars;exact⟨_,rfl,h4,h5,h6⟩)
set_option maxHeartbeats 4000000 in
set_option maxRecDepth 100000 in
theorem IT:xW Tryz.prog 153 38 5:=fun w g c g2 c2 n i xs ys cur dx hg iY lY yE wP pV pC lM FE bB hi dO hc h1 h2=>by
 have ht:Tryz.prog.underlying 24=some (.slice 38):=by kernel_rfl
 have hz:(Tryz.prog.info? 38).map (·.size)=some 5:=by kernel_rfl
 have JA:∀w,(Go.sizeOf 38).run Tryz.prog w=.ok 5 w:=fun w=>by rfl
 have XX:∀a2 lb cb,(callFunc 189 #[.slice (some ⟨g2,0,none⟩) 1 c2,.slice (some ⟨g,a2,none⟩) lb cb]).run Tryz.prog w=.ok (.value (.bool false)) w:=fun a2 lb cb=>by rw[run_callFunc_extern Tryz.func189 (by kernel_rfl) (by kernel_rfl) (by kernel_rfl) (e:=Extern.SlicesOverlaps.overlaps #[24,24] #[4]) (by kernel_rfl),Lib.run_overlaps_apart w 24 4 38 ht 5 JA ⟨g2,0,none⟩ ⟨g,a2,none⟩ 1 c2 lb cb bB 38 38 dx.size cur.size (by simp[World.shape?,wP]) (by simp[World.shape?,hg]) (by omega) (by simp[World.frozen?,wP]) (by simp[World.frozen?,wP])];rfl
 obtain⟨cur1,cur3,NA,Lg,Td,jr⟩:=wu ht hz w g c g2 c2 n i xs ys cur dx hg iY lY yE wP pV pC lM FE bB hi dO hc h1 h2;have h63:c≤9223372036854775807:=by grind [maxLen]
 obtain⟨MH,Lh,hb1,uj,htn,Fk,hb3,hb4,BJ,ON⟩:=wx hi dO hc;clear lY lM;have mixed:Tryz.prog.follows .mixedOrders=true:=by kernel_rfl
 go_enter Tryz.func153,Tryz.ntmps153
 go_wp2_with (simp only[XX])
 go_region_law (go_loud (refine step_copy_runI rfl _ _ 24 24 rfl (.slice (some ⟨g,(i+1)*5,none⟩) (n-i) (c-(i+1))) (.slice (some ⟨g,i*5,none⟩) (n+1-i) (c-i)) (by simp[Act.eval,Act.put]) (by simp[Act.eval,Act.put]) (NA w.drew rfl 3 (c-(i+1)) (c-i)) ?_))
 go_wp2_with (simp only[Lg])
 go_ret
 refine⟨rfl,cur3,setRow_heap _ g cur1 _ 38 _ (setRow_heap w.drew g cur _ 38 _ hg),Td,jr,⟨rfl,rfl,rfl,by simp_all,fun k hk RO=>?_⟩⟩;have wy:k≠g:=fun e=>RO (by rw[e]);rw[_root_.Go.setRow_other _ g k _ wy,_root_.Go.setRow_other _ g k _ wy];rfl
set_option maxHeartbeats 4000000 in
set_option maxRecDepth 100000 in
theorem Li:B3 Tryz.prog 153 38 5:=fun w g c g2 c2 n i xs ys cur dx hg iY lY yE wP pV pC lM FE bB hi Aw dO hm h1 h2=>by
 have ht:Tryz.prog.underlying 24=some (.slice 38):=by kernel_rfl
 obtain⟨i0,z0,he⟩:=cj (P:=Tryz.prog) (e:=38) (k:=.pair (.pair (.int .i64) (.int .i64)) (.pair (.sl (.pair (.pair (.int .i64) (.int .i64)) (.int .i64))) (.pair .str (.int .i64)))) (by kernel_rfl);obtain⟨G,vc,row2,row3,W1,XV,IS,FF,si,NB,NC,Td,RN,IQ,jr⟩:=zJ (sz:=5) rfl (by decide) ht (by kernel_rfl) he w g c g2 c2 n i xs ys cur dx hg iY lY yE wP pV pC lM FE bB hi Aw dO hm h1 h2;obtain⟨MH,Lh,hw3,hb1,uj,afK,hGi,afL,hci,hb3,BJ,ON⟩:=zK hi Aw dO hm RN;unfold fB at hm;clear lY lM;have mixed:Tryz.prog.follows .mixedOrders=true:=by kernel_rfl
 go_enter Tryz.func153,Tryz.ntmps153
 go_wp2_with (first
  |(at_builtin;refine Lib.wpList_append_run _ rfl _ _ _ _ rfl _ _ rfl rfl _ _ (XV _) ?_)
  |(at_builtin;refine wpList_copy_runI _ rfl _ _ 24 24 rfl _ _ rfl rfl (NB _ (by rfl) _ _ _) ?_))
 go_region_law (go_loud (refine step_copy_runI rfl _ _ 24 24 rfl (.slice (some ⟨w.heap.size,(i+1)*5,none⟩) (n-i) (G-(i+1))) (.slice (some ⟨g,i*5,none⟩) (n-i) (c-i)) (by simp[Act.eval,Act.put]) (by simp[Act.eval,Act.put]) (NC (W1.setRow w.heap.size row2).drew rfl 3 (G-(i+1)) (c-i)) ?_))
 go_wp2
 go_ret
 refine⟨G,rfl,row3,setRow_heap _ w.heap.size row2 _ 38 _ (setRow_heap W1 w.heap.size vc _ 38 _ IS),by omega,RN,IQ,jr,⟨si.os,si.tape,si.output,by have:=si.size;simp_all,fun k hk _=>?_⟩⟩;rw[_root_.Go.setRow_other _ w.heap.size k _ (Nat.ne_of_lt hk)];exact(_root_.Go.setRow_other W1 w.heap.size k _ (Nat.ne_of_lt hk)).trans (FF k hk)
theorem ab3:D4 Tryz.prog 153 38 5:=ND NF IT Li
def NG(P:Program)(f:FuncId)(e:TypeId)(size:Nat):Prop :=∀(w:World) (v:Value) (n i j:Nat) (xs:List Value),dW w e size v n xs→i<j→j≤n→n≤fB→(∀q∈xs,q.oneCell'=true) → Calls P f #[v,.int .i64 i,.int .i64 j] w fun en w'=>∃v',en=.returned v'∧dW w' e size v' (i+(n-j)) (xs.take (i*size)++xs.drop (j*size))∧w.grownBy w' (ob v)∧ob v'=ob v
theorem jc{P:Program}{ops:Array Oper}{o:Oper}{a:Act}{w:World}{K:Act→World→Prop}{Q:Exit→Act→World→Prop}{E:Prop} (hg:o.guard=none) (d x:Operand) (dT sT:TypeId) (OX:o.op=Op.call { callee:=Callee.builtin Builtin.append,args:=#[d,x],argTypes:=#[dT,sT] }) (v u:Value) (hd:a.eval d=v) (hx:a.eval x=u) {v':Value} {w':World} (hr:(Builtin.append_ #[dT,sT] o.type #[v,u]).run P w=.ok v' w') (hK:K (a.put o.dst v') w') :
  if Region.wanted o (yielded ops a.tmps)=true then Oper.wp P o a w K Q else E:=by
 have hw:Region.wanted o (yielded ops a.tmps)=true:=by simp[Region.wanted,hg]
 rw[if_pos hw];unfold Oper.wp;simp[execOp,OX,resolve,invoke,builtin,hd,hx,hr,Result.andThen];exact hK
theorem Lj{α:Type}{cur xs cur1 dx zs:List α}{i j n sz:Nat}(lY:cur.take (n*sz)=xs)(hl:n*sz≤cur.length)(Gv:i≤j)(S5:j≤n) (h1:cur1=cur.take (i*sz)++xs.drop (j*sz)++cur.drop (i*sz+(xs.drop (j*sz)).length)) (h2:dx=cur1.take ((i+(n-j))*sz)++zs++cur1.drop ((i+(n-j))*sz+zs.length)) :
  dx.take ((i+(n-j))*sz)=xs.take (i*sz)++xs.drop (j*sz):=by
 have ha:i*sz≤j*sz:=acd _ Gv;have hb:j*sz≤n*sz:=acd _ S5;rw[Nat.add_mul,Nat.sub_mul]at h2 ⊢;have yE:xs.length=n*sz:=by rw[←lY,List.length_take];omega
 generalize i*sz=a at *;generalize j*sz=b at *;generalize n*sz=c at *;have e0:cur.take a=xs.take a:=by rw[←lY,List.take_take];congr 1;omega
 have e1:cur1.take (a+(c-b))=xs.take a++xs.drop b:=by rw[h1,e0];exact List.take_left' (by simp only[List.length_append,List.length_take,List.length_drop];omega)
 rw[h2,e1,List.append_assoc];exact List.take_left' (by simp only[List.length_append,List.length_take,List.length_drop];omega)
set_option maxHeartbeats 4000000 in
set_option maxRecDepth 100000 in
theorem Lk(w:World)(g c n i j X:Nat)(xs:List Value)(cur:Array Value)(hg:w.heap[g]? = some (.cells cur 38 (0,0)))(iY:cur.size=c*5)(lY:cur.toList.take (n*5)=xs)(yE:xs.length=n*5) (Gv:i<j) (S5:j≤n) (Aw:n≤c) (hc:c≤maxLen) (hX:if c=j then X=0 else X=j*5)
  (h1:∀q∈xs,q.oneCell'=true) :
  Calls Tryz.prog 154 #[.slice (some ⟨g,0,none⟩) n c,.int .i64 i,.int .i64 j] w fun en w'=>en=.returned (.slice (some ⟨g,0,none⟩) (i+(n-j)) c) ∧ ∃gM:Array Value,w'.heap[g]? = some (.cells gM 38 (0,0))∧gM.size=cur.size∧gM.toList.take ((i+(n-j))*5)=xs.take (i*5)++xs.drop (j*5)∧w.grownBy w' (some g):=by
 have ht:Tryz.prog.underlying 24=some (.slice 38):=by kernel_rfl
 have hz:(Tryz.prog.info? 38).map (·.size)=some 5:=by kernel_rfl
 obtain⟨zs,JA⟩:∃zs,Ch Tryz.prog 38=some zs:=acu.1 (by kernel_rfl);obtain⟨i0,z0,hi0,hz0,rfl,yC⟩:=qG JA;obtain⟨i1,z1,he⟩:=cj (P:=Tryz.prog) (e:=38) (k:=.pair (.pair (.int .i64) (.int .i64)) (.pair (.sl (.pair (.pair (.int .i64) (.int .i64)) (.int .i64))) (.pair .str (.int .i64)))) (by kernel_rfl);have ei:i1=i0:=by have:=he.info;simp_all
 subst ei;have ez:z1=z0:=by have:=he.zero;simp_all
 subst ez;have MI:z1.cells.size=5:=he.w4;clear he JA;have Lf:(xs.drop (j*5)).length=(n-j)*5:=by grind
 obtain⟨cur1,ti⟩:∃cur1:Array Value,cur1=(cur.toList.take (i*5)++xs.drop (j*5)++cur.toList.drop (i*5+(xs.drop (j*5)).length)).toArray:=⟨_,rfl⟩;have Nq:cur1.size=cur.size:=by grind
 have YH:∀ty sc,(Builtin.append_ #[24,24] ty #[.slice (some ⟨g,0,none⟩) i c,.slice (some ⟨g,X,none⟩) (n-j) sc]).run Tryz.prog w.drew=.ok (.slice (some ⟨g,0,none⟩) (i+(n-j)) c) (w.drew.setRow g cur1):=fun ty sc=>by
  by_cases Vw:c=j
  ·have hnj:n=j:=by omega
   have:n-j=0:=by omega
   rw[this]at Lf ⊢;have MV:xs.drop (j*5)=[]:=abY (by omega);rw[fQ ht hi0 _ _ _ (by omega) _ _,ti,MV];simp only[List.append_nil,List.length_nil,Nat.add_zero,List.take_append_drop,Array.toArray_toList];rw[setRow_self w.drew g cur 38 (0,0) hg]
  ·rw[if_neg Vw]at hX;subst hX;rw[ti];exact pU (P:=Tryz.prog) w.drew 24 ty 38 5 g i c ⟨g,j*5,none⟩ (n-j) sc cur (xs.drop (j*5)) ht hz hg Lf (wq (size:=5) (n:=n) (w:=w.drew) hg lY (j*5)) (fun q hq=>h1 q (adK hq)) (by omega) (by omega)
 obtain⟨dx,xX⟩:∃dx:Array Value,dx=(cur1.toList.take ((i+(n-j))*5)++(Builtin.zeroCells z1.cells (j-i)).toList++cur1.toList.drop ((i+(n-j))*5+(Builtin.zeroCells z1.cells (j-i)).toList.length)).toArray:=⟨_,rfl⟩;have hzc:(Builtin.zeroCells z1.cells (j-i)).toList.length=(j-i)*5:=by simp[Builtin.zeroCells,MI]
 have QP:dx.size=cur.size:=by rw[xX];simp[hzc];omega
 have vR:∀ty sc,(Builtin.clear_ #[24] ty #[.slice (some ⟨g,(i+(n-j))*5,none⟩) (n-(i+(n-j))) sc]).run Tryz.prog (w.drew.setRow g cur1)=.ok (.tuple #[]) ((w.drew.setRow g cur1).setRow g dx):=fun ty sc=>by have:=tg (P:=Tryz.prog) (w.drew.setRow g cur1) 24 ty 38 5 g ((i+(n-j))*5) (j-i) sc cur1 i1 z1 ht hi0 hz0 MI yC (setRow_heap w.drew g cur _ 38 _ hg) (by omega) (by omega);rw[show n-(i+(n-j))=j-i by omega,this,xX]
 have jr:dx.toList.take ((i+(n-j))*5)=xs.take (i*5)++xs.drop (j*5):=Lj (cur1:=cur1.toList) lY (by simp;omega) (by omega) S5 (by rw[ti]) (by rw[xX]);clear ti xX lY Lf;have h63:c≤9223372036854775807:=by grind [maxLen]
 have uj:i≤n:=by omega
 have hic:¬(c=i):=by omega
 have hjc:j≤c:=by omega
 have bB:¬((i:Int)=(j:Int)):=by omega
 have rM:i≤j:=by omega
 have alg:i≤c:=by omega
 have alh:i+(n-j)≤n:=by omega
 have ali:i+(n-j)≤c:=by omega
 have alj:¬(c=i+(n-j)):=by omega
 have alk:(i:Int)+((n-j:Nat):Int)≤(n:Int):=by omega
 have mixed:Tryz.prog.follows .mixedOrders=true:=by kernel_rfl
 by_cases Vw:c=j
 ·rw[if_pos Vw]at hX;subst hX;subst Vw;obtain rfl:n=c:=by omega
  simp only[Nat.sub_self,Nat.add_zero]at YH vR jr ⊢
  go_enter Tryz.func154,Tryz.ntmps154
  go_wp2_with fail
  go_region_law (go_loud (refine jc rfl _ _ 24 24 rfl (.slice (some ⟨g,0,none⟩) i n) (.slice (some ⟨g,0,none⟩) 0 0) (by simp[Act.eval,Act.put]) (by simp[Act.eval,Act.put]) (YH 24 0) ?_))
  go_wp2_with (simp only[vR])
  go_ret
  refine⟨rfl,dx,setRow_heap _ g cur1 _ 38 _ (setRow_heap w.drew g cur _ 38 _ hg),QP,jr,⟨rfl,rfl,rfl,by simp_all,fun k hk RO=>?_⟩⟩;have wy:k≠g:=fun e=>RO (by rw[e]);rw[_root_.Go.setRow_other _ g k _ wy,_root_.Go.setRow_other _ g k _ wy];rfl
 ·rw[if_neg Vw]at hX;subst hX
  go_enter Tryz.func154,Tryz.ntmps154
  go_wp2_with fail
  go_region_law (go_loud (refine jc rfl _ _ 24 24 rfl (.slice (some ⟨g,0,none⟩) i c) (.slice (some ⟨g,j*5,none⟩) (n-j) (c-j)) (by simp[Act.eval,Act.put]) (by simp[Act.eval,Act.put]) (YH 24 (c-j)) ?_))
  go_wp2_with (simp only[vR])
  go_ret
  refine⟨rfl,dx,setRow_heap _ g cur1 _ 38 _ (setRow_heap w.drew g cur _ 38 _ hg),QP,jr,⟨rfl,rfl,rfl,by simp_all,fun k hk RO=>?_⟩⟩;have wy:k≠g:=fun e=>RO (by rw[e]);rw[_root_.Go.setRow_other _ g k _ wy,_root_.Go.setRow_other _ g k _ wy];rfl
theorem ab5:NG Tryz.prog 154 38 5:=fun w v n i j xs hv Gv S5 hm h1=>by
 rcases hv.2 with⟨h0,_⟩|⟨g,c,cur,rfl,hc0,hg,Aw,XW,iY,lY⟩
 ·omega
 have oV:ob (.slice (some ⟨g,0,none⟩) n c)=some g:=by simp only[ob];grind
 refine(Lk w g c n i j (if c=j then 0 else j*5) xs cur hg iY lY hv.1 Gv S5 Aw XW (by split<;>rfl) h1).mono fun en w' ⟨e1,gM,e2,e3,e4,e5⟩=>?_;refine⟨_,e1,⟨?_,.inr ⟨g,c,gM,rfl,hc0,e2,by omega,XW,by rw[e3,iY],e4⟩⟩,by simp_all,?_⟩
 ·grind
 rfl
end Go.Vs
namespace Go.Vs
open Go.Proofs
variable {P:Program}
theorem D5{Z:Nat→Prop}{w:World}{k:K}{xs:List k.T}{vs:List Value}(hv:lj Z w k xs vs)(hl:vs.length=xs.length*k.sz):∀q∈vs,q.oneCell'=true:=fun q hq=>by
 obtain⟨p,hp⟩:=adC hq;have aN:p<vs.length:=(abC.1 hp).1;have hs:=k.gQ;have hd:p / k.sz<xs.length:=Nat.div_lt_of_lt_mul (by grind);have hr:=hv (p / k.sz) _ (aa8 hd);refine hr.one q ?_;have hm:=Nat.mod_add_div p k.sz;have hml:=adJ p hs;have:((vs.drop (p / k.sz*k.sz)).take k.sz)[p%k.sz]? = some q:=by
  grind
 grind
theorem Hc{Z:Nat→Prop}{w:World}{k:K}{xs:List k.T}{vs:List Value}(hv:lj Z w k xs vs)(n:Nat):lj Z w k (xs.take n) (vs.take (n*k.sz)):=fun i x hx=>by
 rw[List.getElem?_take]at hx
 split at hx
 ·rename_i hi;have:=hv i x hx;have e:((vs.take (n*k.sz)).drop (i*k.sz)).take k.sz=(vs.drop (i*k.sz)).take k.sz:=by
   rw[List.drop_take,List.take_take];congr 1;have:(i+1)*k.sz≤n*k.sz:=acd _ hi
   grind
  simp_all
 ·cases hx
theorem Hd{Z:Nat→Prop}{w:World}{k:K}{xs:List k.T}{vs:List Value}(hv:lj Z w k xs vs)(n:Nat):lj Z w k (xs.drop n) (vs.drop (n*k.sz)):=fun i x hx=>by
 rw[List.getElem?_drop]at hx;have:=hv (n+i) x hx
 grind [List.drop_drop,Nat.add_mul]
theorem wz{f:FuncId}{ty:TypeId}{k:K}(hr:D4 P f ty k.sz):gI P f (Tl ty k):=by
 intro Z ψ h w B0 O N hh id e vs us g hB bz hN bm mQ oW Bp he;unfold Tl at he
 split at he
 rotate_left
 ·cases he
 rename_i o i j
 split at he
 rotate_left
 ·cases he
 rename_i xs ys Ax QQ
 split at he
 ·cases he
 rename_i hoj;simp only[Option.some.injEq,Prod.mk.injEq]at he;obtain⟨kZ,rfl⟩:=he;have hhg:hh.get=h:=mQ _ _ rfl;have XY:hh.get o=some (.own (.row ty k) xs):=kD Ax;have hgj:hh.get j=some (.own (.row ty k) ys):=kD QQ;simp only[au,aA]at oW;obtain⟨v,_,rfl,⟨_,hv⟩,n,_,rfl,rfl,u,_,rfl,⟨_,hu⟩,rfl⟩:=oW;simp only[sF,Bool.and_eq_true,decide_eq_true_eq,aI]at kZ;obtain⟨h0,h1,h2,h3⟩:=kZ;obtain⟨m,rfl⟩:∃m:Nat,i=m:=⟨i.toNat,by omega⟩;subst hhg;have hvo:v=ψ o:=hv (by rw[XY];simp);have huj:u=ψ j:=hu (by rw[hgj];simp);obtain⟨vs,Rs,yY⟩:=g.row o (.row ty k) xs XY;obtain⟨jn,ho2,BI⟩:=g.row j (.row ty k) ys hgj;simp only[aC,aL]at Bp;have bM:N id:=hN 0 (by omega);have bB:o≠id:=fun e=>Bp.1 (e▸bM);rw[h2]at ho2;subst hvo;subst huj;refine(hr w _ _ xs.length m vs jn Rs ho2 (by omega) (by omega) (fun b hb Fk=>hoj (g.apart o j b (by rw[XY];simp) (by rw[hgj];simp) hb Fk)) (D5 yY Rs.1) (D5 BI (by rw[ho2.1,h2]))).mono fun en w' ⟨v',e1,e2,e3,e4⟩=>?_;have kk:cT ψ hh.get w w':=cT.grown e3 (fun b e=>⟨o,by rw[XY];simp,e⟩);have sm:=kk.same g;have hlen:(ji xs (m:Int) ys).length=xs.length+1:=by
  grind [ji,Int.toNat_natCast,List.length_append,List.length_take,List.length_drop]
 have htl:(vs.take (m*k.sz)).length=(xs.take m).length*k.sz:=by have:m*k.sz≤xs.length*k.sz:=acd _ (by omega);rw[List.length_take,List.length_take,Rs.1,Nat.min_eq_left this,Nat.min_eq_left (by omega)]
 have pw:lj Z w k (ji xs (m:Int) ys) (vs.take (m*k.sz)++(jn++vs.drop (m*k.sz))):=(Hc yY m).append (BI.append (Hd yY m) (by rw[ho2.1,h2])) htl;have Rm:=nV (N:=N) g hB id o bM XY bB e3 (v:=v') (ok:=.row ty k) (y:=ji xs m ys) ⟨_,by simp_all,pw.Cz sm⟩ e4 (fun i ty cs hb=>aC.imp (p:=fun i=>¬N i) (q:=fun i=>i≠id) (fun a ha e=>ha (by simp_all)) (bm i ty cs hb));have hhp:Heap.get ((id,Ob.own (.row ty k) (ji xs (m:Int) ys))::hh.del o)=dY (dY hh.get o none) id (some (.own (.row ty k) (ji xs m ys))):=by rw[CE,tS]
 refine⟨v',Z,dY ψ id v',e1,?_,?_⟩
 ·show Next Z ψ hh.get w B0 O N Z (dY ψ id v') (Heap.get ((id,Ob.own (.row ty k) (ji xs (m:Int) ys))::hh.del o)) w';simp_all
 ·simp only[bF.v,aA];exact⟨e2.one,fun _=>(bh _ _ _).symm⟩
theorem D6{f:FuncId}{ty:TypeId}{k:K}(hr:NG P f ty k.sz):gI P f (Ya ty k):=by
 intro Z ψ h w B0 O N hh id e vs us g hB bz hN bm mQ oW Bp he;unfold Ya at he
 split at he
 rotate_left
 ·cases he
 rename_i o i j
 split at he
 rotate_left
 ·cases he
 rename_i xs Ax;simp only[Option.some.injEq,Prod.mk.injEq]at he;obtain⟨kZ,rfl⟩:=he;have hhg:hh.get=h:=mQ _ _ rfl;have XY:hh.get o=some (.own (.row ty k) xs):=kD Ax;simp only[au,aA]at oW;obtain⟨v,_,rfl,⟨_,hv⟩,n,_,rfl,rfl,u,_,rfl,rfl,rfl⟩:=oW;simp only[kj,Bool.and_eq_true,decide_eq_true_eq,aI]at kZ;obtain⟨h0,h1,h2,h3⟩:=kZ;obtain⟨m,rfl⟩:∃m:Nat,i=m:=⟨i.toNat,by omega⟩;obtain⟨q,rfl⟩:∃m:Nat,j=m:=⟨j.toNat,by omega⟩;subst hhg;have hvo:v=ψ o:=hv (by rw[XY];simp);obtain⟨vs,Rs,yY⟩:=g.row o (.row ty k) xs XY;simp only[aC,aL]at Bp;have bM:N id:=hN 0 (by omega);have bB:o≠id:=fun e=>Bp.1 (e▸bM);subst hvo;refine(hr w _ xs.length m q vs Rs (by omega) (by omega) (by omega) (D5 yY Rs.1)).mono fun en w' ⟨v',e1,e2,e3,e4⟩=>?_;have kk:cT ψ hh.get w w':=cT.grown e3 (fun b e=>⟨o,by rw[XY];simp,e⟩);have sm:=kk.same g;have hlen:(dJ xs (m:Int) q).length=m+(xs.length-q):=by
  grind [dJ,Int.toNat_natCast,List.length_append,List.length_take,List.length_drop]
 have htl:(vs.take (m*k.sz)).length=(xs.take m).length*k.sz:=by have:m*k.sz≤xs.length*k.sz:=acd _ (by omega);rw[List.length_take,List.length_take,Rs.1,Nat.min_eq_left this,Nat.min_eq_left (by omega)]
 have pw:lj Z w k (dJ xs (m:Int) q) (vs.take (m*k.sz)++vs.drop (q*k.sz)):=(Hc yY m).append (Hd yY q) htl;have Rm:=nV (N:=N) g hB id o bM XY bB e3 (v:=v') (ok:=.row ty k) (y:=dJ xs m q) ⟨_,by simp_all,pw.Cz sm⟩ (.inl e4) (fun i ty cs hb=>aC.imp (p:=fun i=>¬N i) (q:=fun i=>i≠id) (fun a ha e=>ha (by simp_all)) (bm i ty cs hb));have hhp:Heap.get ((id,Ob.own (.row ty k) (dJ xs (m:Int) q))::hh.del o)=dY (dY hh.get o none) id (some (.own (.row ty k) (dJ xs m q))):=by rw[CE,tS]
 refine⟨v',Z,dY ψ id v',e1,?_,?_⟩
 ·show Next Z ψ hh.get w B0 O N Z (dY ψ id v') (Heap.get ((id,Ob.own (.row ty k) (dJ xs (m:Int) q))::hh.del o)) w';simp_all
 ·simp only[bF.v,aA];exact⟨e2.one,fun _=>(bh _ _ _).symm⟩
end Go.Vs
namespace Go.Vs
open Go.Proofs Go.RowKit
set_option maxHeartbeats 4000000 in
set_option maxRecDepth 100000 in
theorem NH:IN Tryz.prog 191 84 4:=fun w v u n xs ys hv hu hm h1=>by
 have ht:Tryz.prog.underlying 25=some (.slice 84):=by kernel_rfl
 obtain⟨i0,z0,he⟩:=cj (P:=Tryz.prog) (e:=84) (k:=.pair (.pair (.int .i64) (.int .i64)) (.pair .str (.int .i64))) (by kernel_rfl);have yS:=IP hu h1;obtain⟨v',w',dn,h4,h5,h6⟩:=dZ (P:=Tryz.prog) (ty:=25) ht he hv yS hm;obtain⟨A,c,rfl⟩:=hv.slice;have Aw:n≤c:=by
  rcases hv.2 with⟨h0,A,e⟩|⟨g,cap,cur,e,hc,h2,h3,_⟩
  ·omega
  simp_all
 obtain⟨B,cu,rfl⟩:=hu.slice;have afH:n≤1073741824:=by grind [fB]
 go_enter Tryz.func191,Tryz.ntmps191
 go_wp2_with (at_builtin;refine Lib.wpList_append_run _ rfl _ _ _ _ rfl _ _ rfl rfl _ _ dn ?_)
 all_goals go_ret
 all_goals first|exact⟨_,rfl,h4,h5,h6⟩|(subst_vars;exact⟨_,rfl,h4,h5,h6⟩)
set_option maxHeartbeats 4000000 in
set_option maxRecDepth 100000 in
theorem IU:xW Tryz.prog 191 84 4:=fun w g c g2 c2 n i xs ys cur dx hg iY lY yE wP pV pC lM FE bB hi dO hc h1 h2=>by
 have ht:Tryz.prog.underlying 25=some (.slice 84):=by kernel_rfl
 have hz:(Tryz.prog.info? 84).map (·.size)=some 4:=by kernel_rfl
 have JA:∀w,(Go.sizeOf 84).run Tryz.prog w=.ok 4 w:=fun w=>by rfl
 have XX:∀a2 lb cb,(callFunc 213 #[.slice (some ⟨g2,0,none⟩) 1 c2,.slice (some ⟨g,a2,none⟩) lb cb]).run Tryz.prog w=.ok (.value (.bool false)) w:=fun a2 lb cb=>by rw[run_callFunc_extern Tryz.func213 (by kernel_rfl) (by kernel_rfl) (by kernel_rfl) (e:=Extern.SlicesOverlaps.overlaps #[25,25] #[4]) (by kernel_rfl),Lib.run_overlaps_apart w 25 4 84 ht 4 JA ⟨g2,0,none⟩ ⟨g,a2,none⟩ 1 c2 lb cb bB 84 84 dx.size cur.size (by simp[World.shape?,wP]) (by simp[World.shape?,hg]) (by omega) (by simp[World.frozen?,wP]) (by simp[World.frozen?,wP])];rfl
 obtain⟨cur1,cur3,NA,Lg,Td,jr⟩:=wu ht hz w g c g2 c2 n i xs ys cur dx hg iY lY yE wP pV pC lM FE bB hi dO hc h1 h2;have h63:c≤9223372036854775807:=by grind [maxLen]
 obtain⟨MH,Lh,hb1,uj,htn,Fk,hb3,hb4,BJ,ON⟩:=wx hi dO hc;clear lY lM;have mixed:Tryz.prog.follows .mixedOrders=true:=by kernel_rfl
 go_enter Tryz.func191,Tryz.ntmps191
 go_wp2_with (simp only[XX])
 go_region_law (go_loud (refine step_copy_runI rfl _ _ 25 25 rfl (.slice (some ⟨g,(i+1)*4,none⟩) (n-i) (c-(i+1))) (.slice (some ⟨g,i*4,none⟩) (n+1-i) (c-i)) (by simp[Act.eval,Act.put]) (by simp[Act.eval,Act.put]) (NA w.drew rfl 3 (c-(i+1)) (c-i)) ?_))
 go_wp2_with (simp only[Lg])
 go_ret
 refine⟨rfl,cur3,setRow_heap _ g cur1 _ 84 _ (setRow_heap w.drew g cur _ 84 _ hg),Td,jr,⟨rfl,rfl,rfl,by simp_all,fun k hk RO=>?_⟩⟩;have wy:k≠g:=fun e=>RO (by rw[e]);rw[_root_.Go.setRow_other _ g k _ wy,_root_.Go.setRow_other _ g k _ wy];rfl
set_option maxHeartbeats 4000000 in
set_option maxRecDepth 100000 in
theorem Ll:B3 Tryz.prog 191 84 4:=fun w g c g2 c2 n i xs ys cur dx hg iY lY yE wP pV pC lM FE bB hi Aw dO hm h1 h2=>by
 have ht:Tryz.prog.underlying 25=some (.slice 84):=by kernel_rfl
 obtain⟨i0,z0,he⟩:=cj (P:=Tryz.prog) (e:=84) (k:=.pair (.pair (.int .i64) (.int .i64)) (.pair .str (.int .i64))) (by kernel_rfl);obtain⟨G,vc,row2,row3,W1,XV,IS,FF,si,NB,NC,Td,RN,IQ,jr⟩:=zJ (sz:=4) rfl (by decide) ht (by kernel_rfl) he w g c g2 c2 n i xs ys cur dx hg iY lY yE wP pV pC lM FE bB hi Aw dO hm h1 h2;obtain⟨MH,Lh,hw3,hb1,uj,afK,hGi,afL,hci,hb3,BJ,ON⟩:=zK hi Aw dO hm RN;unfold fB at hm;clear lY lM;have mixed:Tryz.prog.follows .mixedOrders=true:=by kernel_rfl
 go_enter Tryz.func191,Tryz.ntmps191
 go_wp2_with (first
  |(at_builtin;refine Lib.wpList_append_run _ rfl _ _ _ _ rfl _ _ rfl rfl _ _ (XV _) ?_)
  |(at_builtin;refine wpList_copy_runI _ rfl _ _ 25 25 rfl _ _ rfl rfl (NB _ (by rfl) _ _ _) ?_))
 go_region_law (go_loud (refine step_copy_runI rfl _ _ 25 25 rfl (.slice (some ⟨w.heap.size,(i+1)*4,none⟩) (n-i) (G-(i+1))) (.slice (some ⟨g,i*4,none⟩) (n-i) (c-i)) (by simp[Act.eval,Act.put]) (by simp[Act.eval,Act.put]) (NC (W1.setRow w.heap.size row2).drew rfl 3 (G-(i+1)) (c-i)) ?_))
 go_wp2
 go_ret
 refine⟨G,rfl,row3,setRow_heap _ w.heap.size row2 _ 84 _ (setRow_heap W1 w.heap.size vc _ 84 _ IS),by omega,RN,IQ,jr,⟨si.os,si.tape,si.output,by have:=si.size;simp_all,fun k hk _=>?_⟩⟩;rw[_root_.Go.setRow_other _ w.heap.size k _ (Nat.ne_of_lt hk)];exact(_root_.Go.setRow_other W1 w.heap.size k _ (Nat.ne_of_lt hk)).trans (FF k hk)
theorem ab7:D4 Tryz.prog 191 84 4:=ND NH IU Ll
set_option maxHeartbeats 4000000 in
set_option maxRecDepth 100000 in
theorem Lm(w:World)(g c n i j X:Nat)(xs:List Value)(cur:Array Value)(hg:w.heap[g]? = some (.cells cur 84 (0,0)))(iY:cur.size=c*4)(lY:cur.toList.take (n*4)=xs)(yE:xs.length=n*4) (Gv:i<j) (S5:j≤n) (Aw:n≤c) (hc:c≤maxLen) (hX:if c=j then X=0 else X=j*4)
  (h1:∀q∈xs,q.oneCell'=true) :
  Calls Tryz.prog 164 #[.slice (some ⟨g,0,none⟩) n c,.int .i64 i,.int .i64 j] w fun en w'=>en=.returned (.slice (some ⟨g,0,none⟩) (i+(n-j)) c) ∧ ∃gM:Array Value,w'.heap[g]? = some (.cells gM 84 (0,0))∧gM.size=cur.size∧gM.toList.take ((i+(n-j))*4)=xs.take (i*4)++xs.drop (j*4)∧w.grownBy w' (some g):=by
 have ht:Tryz.prog.underlying 25=some (.slice 84):=by kernel_rfl
 have hz:(Tryz.prog.info? 84).map (·.size)=some 4:=by kernel_rfl
 obtain⟨zs,JA⟩:∃zs,Ch Tryz.prog 84=some zs:=acu.1 (by kernel_rfl);obtain⟨i0,z0,hi0,hz0,rfl,yC⟩:=qG JA;obtain⟨i1,z1,he⟩:=cj (P:=Tryz.prog) (e:=84) (k:=.pair (.pair (.int .i64) (.int .i64)) (.pair .str (.int .i64))) (by kernel_rfl);have ei:i1=i0:=by have:=he.info;simp_all
 subst ei;have ez:z1=z0:=by have:=he.zero;simp_all
 subst ez;have MI:z1.cells.size=4:=he.w4;clear he JA;have Lf:(xs.drop (j*4)).length=(n-j)*4:=by grind
 obtain⟨cur1,ti⟩:∃cur1:Array Value,cur1=(cur.toList.take (i*4)++xs.drop (j*4)++cur.toList.drop (i*4+(xs.drop (j*4)).length)).toArray:=⟨_,rfl⟩;have Nq:cur1.size=cur.size:=by grind
 have YH:∀ty sc,(Builtin.append_ #[25,25] ty #[.slice (some ⟨g,0,none⟩) i c,.slice (some ⟨g,X,none⟩) (n-j) sc]).run Tryz.prog w.drew=.ok (.slice (some ⟨g,0,none⟩) (i+(n-j)) c) (w.drew.setRow g cur1):=fun ty sc=>by
  by_cases Vw:c=j
  ·have hnj:n=j:=by omega
   have:n-j=0:=by omega
   rw[this]at Lf ⊢;have MV:xs.drop (j*4)=[]:=abY (by omega);rw[fQ ht hi0 _ _ _ (by omega) _ _,ti,MV];simp only[List.append_nil,List.length_nil,Nat.add_zero,List.take_append_drop,Array.toArray_toList];rw[setRow_self w.drew g cur 84 (0,0) hg]
  ·rw[if_neg Vw]at hX;subst hX;rw[ti];exact pU (P:=Tryz.prog) w.drew 25 ty 84 4 g i c ⟨g,j*4,none⟩ (n-j) sc cur (xs.drop (j*4)) ht hz hg Lf (wq (size:=4) (n:=n) (w:=w.drew) hg lY (j*4)) (fun q hq=>h1 q (adK hq)) (by omega) (by omega)
 obtain⟨dx,xX⟩:∃dx:Array Value,dx=(cur1.toList.take ((i+(n-j))*4)++(Builtin.zeroCells z1.cells (j-i)).toList++cur1.toList.drop ((i+(n-j))*4+(Builtin.zeroCells z1.cells (j-i)).toList.length)).toArray:=⟨_,rfl⟩;have hzc:(Builtin.zeroCells z1.cells (j-i)).toList.length=(j-i)*4:=by simp[Builtin.zeroCells,MI]
 have QP:dx.size=cur.size:=by rw[xX];simp[hzc];omega
 have vR:∀ty sc,(Builtin.clear_ #[25] ty #[.slice (some ⟨g,(i+(n-j))*4,none⟩) (n-(i+(n-j))) sc]).run Tryz.prog (w.drew.setRow g cur1)=.ok (.tuple #[]) ((w.drew.setRow g cur1).setRow g dx):=fun ty sc=>by have:=tg (P:=Tryz.prog) (w.drew.setRow g cur1) 25 ty 84 4 g ((i+(n-j))*4) (j-i) sc cur1 i1 z1 ht hi0 hz0 MI yC (setRow_heap w.drew g cur _ 84 _ hg) (by omega) (by omega);rw[show n-(i+(n-j))=j-i by omega,this,xX]
 have jr:dx.toList.take ((i+(n-j))*4)=xs.take (i*4)++xs.drop (j*4):=Lj (cur1:=cur1.toList) lY (by simp;omega) (by omega) S5 (by rw[ti]) (by rw[xX]);clear ti xX lY Lf;have h63:c≤9223372036854775807:=by grind [maxLen]
 have uj:i≤n:=by omega
 have hic:¬(c=i):=by omega
 have hjc:j≤c:=by omega
 have bB:¬((i:Int)=(j:Int)):=by omega
 have rM:i≤j:=by omega
 have alg:i≤c:=by omega
 have alh:i+(n-j)≤n:=by omega
 have ali:i+(n-j)≤c:=by omega
 have alj:¬(c=i+(n-j)):=by omega
 have alk:(i:Int)+((n-j:Nat):Int)≤(n:Int):=by omega
 have mixed:Tryz.prog.follows .mixedOrders=true:=by kernel_rfl
 by_cases Vw:c=j
 ·rw[if_pos Vw]at hX;subst hX;subst Vw;obtain rfl:n=c:=by omega
  simp only[Nat.sub_self,Nat.add_zero]at YH vR jr ⊢
  go_enter Tryz.func164,Tryz.ntmps164
  go_wp2_with fail
  go_region_law (go_loud (refine jc rfl _ _ 25 25 rfl (.slice (some ⟨g,0,none⟩) i n) (.slice (some ⟨g,0,none⟩) 0 0) (by simp[Act.eval,Act.put]) (by simp[Act.eval,Act.put]) (YH 25 0) ?_))
  go_wp2_with (simp only[vR])
  go_ret
  refine⟨rfl,dx,setRow_heap _ g cur1 _ 84 _ (setRow_heap w.drew g cur _ 84 _ hg),QP,jr,⟨rfl,rfl,rfl,by simp_all,fun k hk RO=>?_⟩⟩;have wy:k≠g:=fun e=>RO (by rw[e]);rw[_root_.Go.setRow_other _ g k _ wy,_root_.Go.setRow_other _ g k _ wy];rfl
 ·rw[if_neg Vw]at hX;subst hX
  go_enter Tryz.func164,Tryz.ntmps164
  go_wp2_with fail
  go_region_law (go_loud (refine jc rfl _ _ 25 25 rfl (.slice (some ⟨g,0,none⟩) i c) (.slice (some ⟨g,j*4,none⟩) (n-j) (c-j)) (by simp[Act.eval,Act.put]) (by simp[Act.eval,Act.put]) (YH 25 (c-j)) ?_))
  go_wp2_with (simp only[vR])
  go_ret
  refine⟨rfl,dx,setRow_heap _ g cur1 _ 84 _ (setRow_heap w.drew g cur _ 84 _ hg),QP,jr,⟨rfl,rfl,rfl,by simp_all,fun k hk RO=>?_⟩⟩;have wy:k≠g:=fun e=>RO (by rw[e]);rw[_root_.Go.setRow_other _ g k _ wy,_root_.Go.setRow_other _ g k _ wy];rfl
theorem ab8:NG Tryz.prog 164 84 4:=fun w v n i j xs hv Gv S5 hm h1=>by
 rcases hv.2 with⟨h0,_⟩|⟨g,c,cur,rfl,hc0,hg,Aw,XW,iY,lY⟩
 ·omega
 have oV:ob (.slice (some ⟨g,0,none⟩) n c)=some g:=by simp only[ob];grind
 refine(Lm w g c n i j (if c=j then 0 else j*4) xs cur hg iY lY hv.1 Gv S5 Aw XW (by split<;>rfl) h1).mono fun en w' ⟨e1,gM,e2,e3,e4,e5⟩=>?_;refine⟨_,e1,⟨?_,.inr ⟨g,c,gM,rfl,hc0,e2,by omega,XW,by rw[e3,iY],e4⟩⟩,by simp_all,?_⟩
 ·grind
 rfl
set_option maxHeartbeats 4000000 in
set_option maxRecDepth 100000 in
theorem NI:IN Tryz.prog 220 42 6:=fun w v u n xs ys hv hu hm h1=>by
 have ht:Tryz.prog.underlying 28=some (.slice 42):=by kernel_rfl
 obtain⟨i0,z0,he⟩:=cj (P:=Tryz.prog) (e:=42) (k:=.pair (.pair (.pair (.int .i64) (.int .i64)) (.int .i64)) (.pair (.pair (.int .i64) (.int .i64)) (.int .i64))) (by kernel_rfl);have yS:=IP hu h1;obtain⟨v',w',dn,h4,h5,h6⟩:=dZ (P:=Tryz.prog) (ty:=28) ht he hv yS hm;obtain⟨A,c,rfl⟩:=hv.slice;have Aw:n≤c:=by
  rcases hv.2 with⟨h0,A,e⟩|⟨g,cap,cur,e,hc,h2,h3,_⟩
  ·omega
  simp_all
 obtain⟨B,cu,rfl⟩:=hu.slice;have afH:n≤1073741824:=by grind [fB]
 go_enter Tryz.func220,Tryz.ntmps220
 go_wp2_with (at_builtin;refine Lib.wpList_append_run _ rfl _ _ _ _ rfl _ _ rfl rfl _ _ dn ?_)
 all_goals go_ret
 all_goals first|exact⟨_,rfl,h4,h5,h6⟩|(subst_vars;exact⟨_,rfl,h4,h5,h6⟩)
set_option maxHeartbeats 4000000 in
set_option maxRecDepth 100000 in
theorem IV:xW Tryz.prog 220 42 6:=fun w g c g2 c2 n i xs ys cur dx hg iY lY yE wP pV pC lM FE bB hi dO hc h1 h2=>by
 have ht:Tryz.prog.underlying 28=some (.slice 42):=by kernel_rfl
 have hz:(Tryz.prog.info? 42).map (·.size)=some 6:=by kernel_rfl
 have JA:∀w,(Go.sizeOf 42).run Tryz.prog w=.ok 6 w:=fun w=>by rfl
 have XX:∀a2 lb cb,(callFunc 232 #[.slice (some ⟨g2,0,none⟩) 1 c2,.slice (some ⟨g,a2,none⟩) lb cb]).run Tryz.prog w=.ok (.value (.bool false)) w:=fun a2 lb cb=>by rw[run_callFunc_extern Tryz.func232 (by kernel_rfl) (by kernel_rfl) (by kernel_rfl) (e:=Extern.SlicesOverlaps.overlaps #[28,28] #[4]) (by kernel_rfl),Lib.run_overlaps_apart w 28 4 42 ht 6 JA ⟨g2,0,none⟩ ⟨g,a2,none⟩ 1 c2 lb cb bB 42 42 dx.size cur.size (by simp[World.shape?,wP]) (by simp[World.shape?,hg]) (by omega) (by simp[World.frozen?,wP]) (by simp[World.frozen?,wP])];rfl
 obtain⟨cur1,cur3,NA,Lg,Td,jr⟩:=wu ht hz w g c g2 c2 n i xs ys cur dx hg iY lY yE wP pV pC lM FE bB hi dO hc h1 h2;have h63:c≤9223372036854775807:=by grind [maxLen]
 obtain⟨MH,Lh,hb1,uj,htn,Fk,hb3,hb4,BJ,ON⟩:=wx hi dO hc;clear lY lM;have mixed:Tryz.prog.follows .mixedOrders=true:=by kernel_rfl
 go_enter Tryz.func220,Tryz.ntmps220
 go_wp2_with (simp only[XX])
 go_region_law (go_loud (refine step_copy_runI rfl _ _ 28 28 rfl (.slice (some ⟨g,(i+1)*6,none⟩) (n-i) (c-(i+1))) (.slice (some ⟨g,i*6,none⟩) (n+1-i) (c-i)) (by simp[Act.eval,Act.put]) (by simp[Act.eval,Act.put]) (NA w.drew rfl 3 (c-(i+1)) (c-i)) ?_))
 go_wp2_with (simp only[Lg])
 go_ret
 refine⟨rfl,cur3,setRow_heap _ g cur1 _ 42 _ (setRow_heap w.drew g cur _ 42 _ hg),Td,jr,⟨rfl,rfl,rfl,by simp_all,fun k hk RO=>?_⟩⟩;have wy:k≠g:=fun e=>RO (by rw[e]);rw[_root_.Go.setRow_other _ g k _ wy,_root_.Go.setRow_other _ g k _ wy];rfl
set_option maxHeartbeats 4000000 in
set_option maxRecDepth 100000 in
theorem Ln:B3 Tryz.prog 220 42 6:=fun w g c g2 c2 n i xs ys cur dx hg iY lY yE wP pV pC lM FE bB hi Aw dO hm h1 h2=>by
 have ht:Tryz.prog.underlying 28=some (.slice 42):=by kernel_rfl
 obtain⟨i0,z0,he⟩:=cj (P:=Tryz.prog) (e:=42) (k:=.pair (.pair (.pair (.int .i64) (.int .i64)) (.int .i64)) (.pair (.pair (.int .i64) (.int .i64)) (.int .i64))) (by kernel_rfl);obtain⟨G,vc,row2,row3,W1,XV,IS,FF,si,NB,NC,Td,RN,IQ,jr⟩:=zJ (sz:=6) rfl (by decide) ht (by kernel_rfl) he w g c g2 c2 n i xs ys cur dx hg iY lY yE wP pV pC lM FE bB hi Aw dO hm h1 h2;obtain⟨MH,Lh,hw3,hb1,uj,afK,hGi,afL,hci,hb3,BJ,ON⟩:=zK hi Aw dO hm RN;unfold fB at hm;clear lY lM;have mixed:Tryz.prog.follows .mixedOrders=true:=by kernel_rfl
 go_enter Tryz.func220,Tryz.ntmps220
 go_wp2_with (first
  |(at_builtin;refine Lib.wpList_append_run _ rfl _ _ _ _ rfl _ _ rfl rfl _ _ (XV _) ?_)
  |(at_builtin;refine wpList_copy_runI _ rfl _ _ 28 28 rfl _ _ rfl rfl (NB _ (by rfl) _ _ _) ?_))
 go_region_law (go_loud (refine step_copy_runI rfl _ _ 28 28 rfl (.slice (some ⟨w.heap.size,(i+1)*6,none⟩) (n-i) (G-(i+1))) (.slice (some ⟨g,i*6,none⟩) (n-i) (c-i)) (by simp[Act.eval,Act.put]) (by simp[Act.eval,Act.put]) (NC (W1.setRow w.heap.size row2).drew rfl 3 (G-(i+1)) (c-i)) ?_))
 go_wp2
 go_ret
 refine⟨G,rfl,row3,setRow_heap _ w.heap.size row2 _ 42 _ (setRow_heap W1 w.heap.size vc _ 42 _ IS),by omega,RN,IQ,jr,⟨si.os,si.tape,si.output,by have:=si.size;simp_all,fun k hk _=>?_⟩⟩;rw[_root_.Go.setRow_other _ w.heap.size k _ (Nat.ne_of_lt hk)];exact(_root_.Go.setRow_other W1 w.heap.size k _ (Nat.ne_of_lt hk)).trans (FF k hk)
theorem ab9:D4 Tryz.prog 220 42 6:=ND NI IV Ln
def Pu(P:Program)(f:FuncId)(e:TypeId)(size:Nat):Prop :=∀(w:World) (n:Nat),n≤fB→Calls P f #[.slice none 0 0,.int .i64 n] w fun en w'=>∃v',en=.returned v'∧dW w' e size v' 0 []∧w.grownBy w' none∧∀b,ob v'=some b→w.heap.size≤b
set_option maxHeartbeats 4000000 in
set_option maxRecDepth 100000 in
theorem YI:Pu Tryz.prog 222 40 3:=fun w n hm=>by
 have ht:Tryz.prog.underlying 36=some (.slice 40):=by kernel_rfl
 have htn:Tryz.prog.underlying 3=some (.int .i64):=by kernel_rfl
 obtain⟨i0,z0,he⟩:=cj (P:=Tryz.prog) (e:=40) (k:=.pair (.pair (.int .i64) (.int .i64)) (.int .i64)) (by kernel_rfl);have MI:z0.cells.size=3:=he.w4;have JA:i0.size=3:=he.size;have MJ:=he.bytes;unfold fB at hm;by_cases hn:n=0
 ·subst hn;have oV:ob (.slice none 0 0)=none:=rfl
  go_enter Tryz.func222,Tryz.ntmps222
  go_wp2
  go_ret
  exact⟨_,rfl,⟨by simp,.inl ⟨rfl,none,rfl⟩⟩,World.grownBy.refl w _,fun b hb=>by simp_all⟩
 ·have sO:n*i0.bytes≤281474976710656:=acE (aek hm MJ) (by decide);obtain⟨G,hG⟩:∃G,G=grownCap w n 0 40:=⟨_,rfl⟩;obtain⟨vc,ab2⟩:∃vc,vc=Builtin.zeroCells z0.cells n++Builtin.zeroCells z0.cells (G-n):=⟨_,rfl⟩;obtain⟨W1,G9⟩:∃W1,W1=w.drew.alloc (.cells vc 40):=⟨_,rfl⟩;have XV:∀ty,(Builtin.append_ #[36,3] ty #[.slice none 0 0,.int .i64 n]).run Tryz.prog w=.ok (.slice (some ⟨w.heap.size,0,none⟩) n G) W1:=fun ty=>by rw[G9,ab2,hG];exact Lib.run_append_nil_zeros w 36 3 ty 40 i0 z0 .i64 .i64 ht htn he.info he.zero n (by omega) (by omega) (by omega) sO
  have RN:n≤G:=by grind [grownCap_ge]
  have IQ:G≤9223372036854775807:=by
   grind [grownCap_le_maxLen,maxLen]
  have hRs:vc.size=G*3:=by
   grind [Builtin.zeroCells]
  have IS:W1.heap[w.heap.size]? = some (.cells vc 40 (0,0)):=by rw[G9];exact(MapKept.heap_alloc w.drew (.cells vc 40)).1
  have FF:∀b,b<w.heap.size→W1.heap[b]? = w.heap[b]? := fun b hb=>by rw[G9];exact(Below.heap_alloc w.drew (.cells vc 40) b hb).trans rfl
  have si:w.grownBy W1 none:=⟨by rw[G9];rfl,by rw[G9];rfl,by rw[G9];rfl,by simp_all,fun k hk _=>FF k hk⟩;clear ab2 G9 hG;have hn0:¬((n:Int)<0):=by omega
  have hn1:0<(n:Int):=by omega
  have hn2:IntKind.i64.wrap (n:Int)=n:=by rw[IntKind.wrap_i64];omega
  have hG0:¬(G=0):=by omega
  go_enter Tryz.func222,Tryz.ntmps222
  go_wp2_with (at_builtin;refine Lib.wpList_append_run _ rfl _ _ _ _ rfl _ _ rfl rfl _ _ (XV _) ?_)
  go_ret
  refine⟨.slice (some ⟨w.heap.size,0,none⟩) 0 G,rfl,⟨by simp,.inr ⟨w.heap.size,G,vc,rfl,by omega,IS,by omega,IQ,hRs,by simp⟩⟩,si,fun b hb=>?_⟩;simp_all [ob,if_neg]
theorem Lo{P:Program}{f:FuncId}{ty:TypeId}{k:K}(hr:Pu P f ty k.sz):gI P f (Tn ty k):=by
 intro Z ψ h w B0 O N hh id e vs us g hB bz hN bm mQ oW Bp he;unfold Tn at he
 split at he
 rotate_left
 ·cases he
 rename_i n;simp only[Option.some.injEq,Prod.mk.injEq]at he;obtain⟨kZ,rfl⟩:=he;simp only[Co,Bool.and_eq_true,decide_eq_true_eq]at kZ;obtain⟨h0,h1⟩:=kZ;obtain⟨m,rfl⟩:∃m:Nat,n=m:=⟨n.toNat,by omega⟩;simp only[au,aA]at oW;obtain⟨v,_,rfl,rfl,u,_,rfl,rfl,rfl⟩:=oW;have bM:N id:=hN 0 (by omega);refine(hr w m (by omega)).mono fun en w' ⟨v',e1,e2,e3,e4⟩=>?_;have kk:cT ψ h w w':=cT.grown e3 (fun b e=>by cases e);have Rm:=pz (N:=N) g hB id ty bM (k:=k) (xs:=[]) (vs:=[]) kk (fun b hb=>e3.block b (g.bQ hb) (by simp)) e2 (fun i x hx=>by simp at hx) e4 (fun i ty cs hb=>aC.imp (p:=fun i=>¬N i) (q:=fun i=>i≠id) (fun a ha e=>ha (by simp_all)) (bm i ty cs hb));refine⟨v',Z,dY ψ id v',e1,?_,?_⟩
 ·have hhp:(bF.new (.bN id) [(id,Ob.own (.row ty k) [])]).hp h=dY h id (some (.own (.row ty k) [])):=gS id _ h;simp_all
 ·simp only[bF.v,aA];exact⟨e2.one,fun _=>(bh _ _ _).symm⟩
end Go.Vs
namespace Go.Vs
variable {P:Program}
def BA(P:Program)(g:TypeId→K→Bool):List Field→Nat→K→Bool
 |[],_,_=>false
 |[f],off,k=>(f.name != "_")&&(decide (f.offset=off)&&(decide (P.cellsOf f.type=k.sz)&&g f.type k))
 |f::f'::r,off,.pair a b=>(f.name != "_")&&(decide (f.offset=off)&&(decide (P.cellsOf f.type=a.sz)&&(g f.type a&&BA P g (f'::r) (off+a.sz) b)))
 |_,_,_=>false
def Vx(P:Program):Nat→TypeId→K→Bool
 |0,_,_=>false
 |d+1,t,k =>
  match P.underlying t,k with
  |some (.int a),.int b=>decide (a=b)
  |some .bool,.bool=>true
  |some .string,.str=>true
  |some (.struct fs),.pair a b => !P.stoodInHeld t&&BA P (Vx P d) fs.toList 0 (.pair a b)
  |_,_=>false
def VK(w:World)(Z:Nat→Prop):(k:K)→k.T→Value→Prop
 |.pair a b,x,v=>∃cs:Array Value,v=.agg cs∧aJ Z w (.pair a b) x cs.toList
 |.one k,x,v=>False
 |k,x,v=>aJ Z w k x [v]
theorem B4{Z:Nat→Prop}{w:World}{d:Nat}{t:TypeId}{k:K}(hk:Vx P d t k=true)(hc:P.cellsOf t=k.sz){cs:Array Value}{off:Nat}{x:k.T}(hr:aJ Z w k x ((cs.toList.drop off).take k.sz)) :
  ∃v,(part t cs off).run P w=.ok v w∧VK w Z k x v:=by
 cases d with
 |zero=>simp[Vx]at hk
 |succ d =>
  have plain:k.sz=1→(P.underlying t).map ML=some false→∃v,(part t cs off).run P w=.ok v w∧aJ Z w k x [v]:=fun h1 h2=>by
   rw[h1]at hr;have hl:=hr.len;rw[h1,List.length_take,List.length_drop,Array.length_toList]at hl;have aN:off<cs.size:=by omega
   refine⟨cs[off],?_,?_⟩
   ·simp[part,gR h2,aN]
   grind [List.drop_eq_getElem_cons]
  unfold Vx at hk
  split at hk
  ·rename_i a b hu;exact plain rfl (by rw[hu];rfl)
  ·rename_i hu;exact plain rfl (by rw[hu];rfl)
  ·rename_i hu;exact plain rfl (by rw[hu];rfl)
  ·rename_i fs a b hu;obtain⟨i,hi⟩:=vg hu;refine⟨.agg (cs.extract off (off+P.cellsOf t)),?_,_,rfl,?_⟩
   ·have h2:(P.underlying t).map ML=some true:=by rw[hu];rfl
    simp[part,gR h2,dm hi]
   simp_all
  ·cases hk
def kJ(em:Bool)(d:Nat)(cs:Array Value):List Field→Sem Unit
 |[]=>pure ()
 |f::fs =>
  if f.name≠ "_" then do
   let a ←part f.type cs f.offset
   Instr.checkKey em d f.type a
   kJ em d cs fs
  else kJ em d cs fs
theorem vd(em:Bool)(w:World)(d:Nat)(t:TypeId)(cs:Array Value)(fs:Array Field)(ht:P.underlying t=some (.struct fs)) :
  (Instr.checkKey em (d+1) t (.agg cs)).run P w=(kJ em d cs fs.toList).run P w:=by
 simp only[Instr.checkKey,Sem.run_bind,run_underlying ht,Result.andThen_ok];rw[←Array.forIn_toList];generalize fs.toList=l;clear ht
 induction l generalizing w with
 |nil=>rfl
 |cons f fs ih =>
  simp only[List.forIn_cons,kJ,Sem.run_bind,Sem.run_ite]
  split
  ·generalize (part f.type cs f.offset).run P w=r1
   cases r1 with
   |ok a w1 =>
    simp only[Result.andThen_ok];generalize (Instr.checkKey em d f.type a).run P w1=r2
    cases r2 with
    |ok b w2 =>simp_all
    |halt x w2=>rfl
   |halt x w1=>rfl
  simp_all
theorem Lq{Z:Nat→Prop}{D d:Nat}(em:Bool)(hg:∀t k,Vx P d t k=true→∀(w:World) (x y:k.T) (u v:Value),VK w Z k x u→VK w Z k y v→(Op.equalIn (D+d) t u v).run P w=.ok (tH k x y) w∧(Instr.checkKey em (D+d) t u).run P w=.ok () w)(w:World)(xs ys:Array Value) :
  ∀(fs:List Field) (off:Nat) (k:K),BA P (Vx P d) fs off k=true→∀(x y:k.T),aJ Z w k x ((xs.toList.drop off).take k.sz)→aJ Z w k y ((ys.toList.drop off).take k.sz) →(Op.eqFields (D+d) xs ys fs).run P w=.ok (tH k x y) w∧(kJ em (D+d) xs fs).run P w=.ok () w
 |[],_,_,h,_,_,_,_=>by simp[BA]at h
 |[f],off,k,h,x,y,hx,hy=>by
  have h':f.name≠ "_"∧f.offset=off∧P.cellsOf f.type=k.sz∧Vx P d f.type k=true:=by
   grind [BA]
  obtain⟨h0,h1,h2,h3⟩:=h';subst h1;obtain⟨u,hu,hu'⟩:=B4 h3 h2 hx;obtain⟨v,hv,BL⟩:=B4 h3 h2 hy;obtain⟨e1,e2⟩:=hg _ _ h3 w x y u v hu' BL;constructor
  ·simp only[Op.eqFields,if_pos h0,Sem.run_bind,hu,hv,e1,Result.andThen_ok]
   cases tH k x y<;>simp
  simp_all [kJ]
 |f::f'::r,off,.pair a b,h,x,y,hx,hy=>by
  simp only[BA,Bool.and_eq_true,decide_eq_true_eq,bne_iff_ne,ne_eq]at h;obtain⟨h0,h1,h2,h3,h4⟩:=h;subst h1;simp only[aJ,K.sz]at hx hy;obtain⟨us,ws,ex,Vy,hx2⟩:=hx;obtain⟨jn,ws',ey,XZ,X0⟩:=hy;have sp:∀(zs:Array Value) (us ws:List Value),us.length=a.sz→ws.length=b.sz→(zs.toList.drop f.offset).take (a.sz+b.sz)=us++ws→us=(zs.toList.drop f.offset).take a.sz∧ws=(zs.toList.drop (f.offset+a.sz)).take b.sz:=fun zs us ws l1 l2 e=>by
   rw[List.take_add,]at e;have hl:((zs.toList.drop f.offset).take a.sz).length=us.length:=by
    have:=congrArg List.length e
    grind
   grind [List.append_inj,List.drop_drop]
  obtain⟨rfl,rfl⟩:=sp xs us ws Vy.len hx2.len ex;obtain⟨rfl,rfl⟩:=sp ys jn ws' XZ.len X0.len ey;obtain⟨u,hu,hu'⟩:=B4 h3 h2 Vy;obtain⟨v,hv,BL⟩:=B4 h3 h2 XZ;obtain⟨e1,e2⟩:=hg _ _ h3 w x.1 y.1 u v hu' BL;obtain⟨e3,e4⟩:=Lq em hg w xs ys (f'::r) (f.offset+a.sz) b h4 x.2 y.2 hx2 X0;constructor
  ·rw[Op.eqFields,if_pos h0];simp only[Sem.run_bind,hu,hv,e1,Result.andThen_ok,Sem.run_ite,e3,tH]
   cases tH a x.1 y.1<;>simp
  ·rw[kJ,if_pos h0];simp only[Sem.run_bind,hu,e2,Result.andThen_ok];exact e4
 |f::f'::r,off,.int _,h,_,_,_,_=>by simp[BA]at h
 |f::f'::r,off,.bool,h,_,_,_,_=>by simp[BA]at h
 |f::f'::r,off,.str,h,_,_,_,_=>by simp[BA]at h
 |f::f'::r,off,.sl _,h,_,_,_,_=>by simp[BA]at h
 |f::f'::r,off,.one _,h,_,_,_,_=>by simp[BA]at h
 |f::f'::r,off,.mp _ _,h,_,_,_,_=>by simp[BA]at h
theorem Pv{Z:Nat→Prop}(D:Nat)(em:Bool):∀(d:Nat) (t:TypeId) (k:K),Vx P d t k=true→∀(w:World) (x y:k.T) (u v:Value),VK w Z k x u→VK w Z k y v →(Op.equalIn (D+d) t u v).run P w=.ok (tH k x y) w∧(Instr.checkKey em (D+d) t u).run P w=.ok () w
 |0,_,_,h,_,_,_,_,_,_,_=>by simp[Vx]at h
 |d+1,t,k,h,w,x,y,u,v,hu,hv=>by
  rw[←Nat.add_assoc];unfold Vx at h
  split at h
  ·rename_i a b ht;simp only[decide_eq_true_eq]at h;subst h;simp only[VK,aJ,List.cons.injEq,and_true]at hu hv;subst hu;subst hv;exact⟨run_equalIn_int w _ _ _ _ _ _ ht,by simp[Instr.checkKey,run_underlying ht]⟩
  ·rename_i ht;simp only[VK,aJ,List.cons.injEq,and_true]at hu hv;subst hu;subst hv;exact⟨run_equalIn_bool' w _ _ _ _ ht,by simp[Instr.checkKey,run_underlying ht]⟩
  ·rename_i ht;simp only[VK,aJ,List.cons.injEq,and_true]at hu hv;subst hu;subst hv;exact⟨(run_equalIn_string w _ _ _ _ ht).trans (congrArg (fun b=>Result.ok b w) (beq_toListBytes (show ByteArray from x) (show ByteArray from y)).symm),by simp[Instr.checkKey,run_underlying ht]⟩
  ·rename_i fs a b ht;simp only[Bool.and_eq_true,Bool.not_eq_true']at h;obtain⟨hs,hf⟩:=h;obtain⟨xs,rfl,hx⟩:=hu;obtain⟨ys,rfl,hy⟩:=hv;have hfo:P.fieldsOf t=fs:=by simp[Program.fieldsOf,ht]
   have yE:=hx.len;have FE:=hy.len;obtain⟨e1,e2⟩:=Lq (D:=D) (Z:=Z) em (fun t k hk w x y u v hu hv=>Pv D em d t k hk w x y u v hu hv) w xs ys fs.toList 0 (.pair a b) hf x y (by grind) (by grind)
   grind [run_equalIn_struct,vd]
  ·cases h
theorem RP{d:Nat}{t:TypeId}{a b:K}(hd:d≤10000)(hk:Vx P d t (.pair a b)=true)(hg:P.eqGuardType P.depth t=false):mR P t (.pair a b):=fun Z w x y xs ys hx hy=>by
 have e:10000-d+d=10000:=by omega
 have key:=fun em=>Pv (Z:=Z) (10000-d) em d t (.pair a b) hk w x y (.agg xs) (.agg ys) ⟨xs,rfl,hx⟩ ⟨ys,rfl,hy⟩;rw[e]at key;exact⟨(key true).1,fun op p q=>run_eqGuard_agg w op t p q xs ys hg,fun em=>(key em).2⟩
end Go.Vs
namespace Go.Vs
open Go.Proofs
theorem Vz{f:FuncId}{g:aO}(h:Sg f=some g):(f,g)∈sgs:=by
 unfold Sg at h;obtain⟨p,hp,rfl⟩:=adj.1 h
 grind
theorem mq:∀f g,Sg f=some g→jT Tryz.prog (f%1000):=fun f g h=>by
 have hm:=Vz h;have key:(sgs.all fun p=>match Tryz.prog.funcs[p.1%1000]? with|some fn => !(fn.name== "runtime.NumGoroutine")&&fn.body.isSome|none=>false)=true:=by kernel_rfl
 have:=adp.1 key _ hm;simp only at this
 split at this
 ·rename_i fn hf;simp only[Bool.and_eq_true,Bool.not_eq_true']at this;exact⟨fn,hf,this.1,this.2⟩
 ·cases this
theorem uF:Tryz.prog.follows .mixedOrders=true:=by kernel_rfl
theorem D7:∀t k,Eqs t=some k→mR Tryz.prog t k:=fun t k h=>by
 unfold Eqs at h;obtain⟨p,hp,rfl⟩:=adj.1 h;have h1:=adq hp;have h2:=adG hp;have e:p.1=t:=by simpa using h2
 subst e;simp only[eqs,List.mem_cons,List.not_mem_nil,or_false]at h1;rcases h1 with rfl|rfl|rfl|rfl|rfl|rfl
 all_goals exact RP (d:=5) (by omega) (by kernel_rfl) (by kernel_rfl)
end Go.Vs
set_option maxRecDepth 1000000
set_option maxHeartbeats 0
namespace Go.Vs
open Go.Proofs
def YJ:aO:={ ps:=[.own],bs:=[.own (.row 38 cV)],rs:=[.own (.row 38 cV)] }
def YK:aO:={ ps:=[.own],bs:=[.own (.row 84 dw)],rs:=[.own (.row 84 dw)] }
def mr:aO:={ ps:=[.agg 2],bs:=[.own (.row 38 cV),.own (.row 84 dw)],rs:=[.agg [.own (.row 38 cV),.own (.row 84 dw)]] }
def uG(ty:TypeId)(k:K)(h:Heap)(id:Nat):List AV→Option (Bool×bF)
 |[.bN a]=>match eT h (.row ty k) (.bN a) with
  |some xs=>some (aI 0 xs.length,.new (.bN (id+128)) [(id+128,.own (.row ty k) xs)])
  |_=>none
 |_=>none
def alp:aO:={ ps:=[],bs:=[],rs:=[],x:=some (uG 38 cV) }
def alq:aO:={ ps:=[],bs:=[],rs:=[],x:=some (uG 84 dw) }
def aca:List (Nat×aO):=[(500109,YJ),(500110,YK)]
def Sg0(f:FuncId):Option aO:=(aca.find? (fun p=>p.1==f)).map (fun p=>p.2)
def acb:List (Nat×aO):=[(111,By),(500083,mr),(500109,alp),(500110,alq)]
def X1(f:FuncId):Option aO:=(acb.find? (fun p=>p.1==f)).map (fun p=>p.2)
def Lr:Shape:=⟨[(14,.int .i64),(15,.int .i64)],[(.slot 2,20000,.box 27 [.own (.row 38 cV),.own (.row 84 dw)]),(.slot 3,20001,.box 27 [.own (.row 38 cV),.own (.row 84 dw)])],[(6,1000,(.row 38 (.pair (.pair (.int .i64) (.int .i64)) (.pair (.sl (.pair (.pair (.int .i64) (.int .i64)) (.int .i64))) (.pair .str (.int .i64)))))),(9,1020,(.row 84 (.pair (.pair (.int .i64) (.int .i64)) (.pair .str (.int .i64)))))],[]⟩
def An0(f:FuncId)(key:Nat):Option Shape:=none
def An1(f:FuncId)(key:Nat):Option Shape:=if f=500083 then(if key=3 then some Lr else none) else none
noncomputable def VA(SG:FuncId→Option aO)(AN:FuncId→Nat→Option Shape)(f:FuncId)(g:aO)(fn:Func)(F:FT)(J:JT g)(x:g.A):Option g.B:=aF Tryz.prog Eqs SG F fn.ntmps (AN f) J (sL Tryz.prog g fn) fuel [.code (fn.body.getD .skip)] (entry g x)
noncomputable def ace(SG:FuncId→Option aO)(AN:FuncId→Nat→Option Shape)(f j:Nat)(g:aO)(fn:Func)(sh:Shape)(F:FT)(J:JT g)(x:sh.T):Option g.B:=aF Tryz.prog Eqs SG F fn.ntmps (AN f) J (sL Tryz.prog g fn) fuel (round (aK Tryz.prog (f%1000) j)) (aw sh x)
theorem afQ(F:FT)(J:JT YJ)(x:(Unit×((List ai)×Unit))):VA Sg0 An0 500109 YJ Tryz.f109 F J x = cond (List.isEmpty x.2.1) (sI 2 fun(j1:Nat) =>cond ((j1==0)==true) (some ((([]:List ai),()),x.2)) (cond (aI (List.length ([]:List ai)) (List.length x.2.1)) (some (((([]:List ai)++x.2.1),()),x.2)) (none))) (cond (aI (List.length ([]:List ai)) (List.length x.2.1)) (some (((([]:List ai)++x.2.1),()),x.2)) (none)):=by kernel_rfl
theorem afR(F:FT)(J:JT YK)(x:(Unit×((List ag)×Unit))):VA Sg0 An0 500110 YK Tryz.f110 F J x = cond (List.isEmpty x.2.1) (sI 2 fun(j1:Nat) =>cond ((j1==0)==true) (some ((([]:List ag),()),x.2)) (cond (aI (List.length ([]:List ag)) (List.length x.2.1)) (some (((([]:List ag)++x.2.1),()),x.2)) (none))) (cond (aI (List.length ([]:List ag)) (List.length x.2.1)) (some (((([]:List ag)++x.2.1),()),x.2)) (none)):=by kernel_rfl
theorem afS(F:FT)(J:JT By)(x:(((List ab)×Unit)×Unit)):VA X1 An1 111 By Tryz.f111 F J x = cond (List.isEmpty x.1.1) (sI 2 fun(j1:Nat) =>cond ((j1==0)==true) (some ((([]:List ab),()),())) (cond (aI (List.length ([]:List ab)) (List.length x.1.1)) (some (((([]:List ab)++x.1.1),()),())) (none))) (cond (aI (List.length ([]:List ab)) (List.length x.1.1)) (some (((([]:List ab)++x.1.1),()),())) (none)):=by kernel_rfl
theorem afT(F:FT)(J:JT mr)(x:(Unit×((List ai)×((List ag)×Unit)))):VA X1 An1 500083 mr Tryz.f83 F J x = cond (aI 0 (List.length x.2.1)) (cond (aI 0 (List.length x.2.2.1)) (J Lr (aK Tryz.prog 83 0) (((((List.length x.2.1):Nat):Int),((0:Int),())),(((([]:List ai),(([]:List ag),())),((x.2.1,x.2.2),())),(x.2.1,x.2.2)))) (none)) (none):=by kernel_rfl
theorem Pw(F:FT)(J:JT mr)(x:((Int×(Int×Unit))×((((List ai)×((List ag)×Unit))×(((List ai)×((List ag)×Unit))×Unit))×((List ai)×((List ag)×Unit))))):ace X1 An1 500083 0 mr Tryz.f83 Lr F J x = cond (decide (x.1.2.1<x.1.1)) (cond ((decide ((0:Int)≤x.1.2.1))&&(decide (x.1.2.1<(((List.length x.2.1.2.1.1):Nat):Int)))) (((x.2.1.2.1.1)[(Int.toNat x.1.2.1)]?).bind fun(y1:ai) =>(F 111 By ((y1.2.1,()),())).bind fun(y2:(((List ab)×Unit)×Unit)) =>cond ((decide ((0:Int)≤x.1.2.1))&&(decide (x.1.2.1<(((List.length x.2.1.2.1.1):Nat):Int)))) (((x.2.1.2.1.1)[(Int.toNat x.1.2.1)]?).bind fun(y3:ai) =>J Lr (aK Tryz.prog 83 0) ((x.1.1,((IntKind.wrap .i64 (x.1.2.1+(1:Int))),())),(((x.2.1.1.1,x.2.1.1.2),(((List.set x.2.1.2.1.1 (Int.toNat x.1.2.1) (y3.1,(y2.1.1,y3.2.2))),x.2.1.2.1.2),())),(x.2.2.1,x.2.2.2)))) (none)) (none)) (some (((x.2.1.2.1.1,x.2.1.2.1.2),()),(x.2.2.1,x.2.2.2))):=by kernel_rfl
end Go.Vs
namespace Go.Vs
open Go.Proofs
variable {P:Program}
theorem vD{f:FuncId}{ty:TypeId}{k:K}(hf:f%1000=f)(hc:∀(xs:List k.T),aI 0 xs.length=true→GF P f ⟨[.own],[.own (.row ty k)],[.own (.row ty k)],none⟩ ((),(xs,())) ((xs,()),(xs,()))):gI P f (uG ty k):=by
 intro Z ψ h w B0 O N hh id e vs us g hB bz hN bm mQ oW Bp he;unfold uG at he
 split at he
 rotate_left
 ·cases he
 rename_i a
 split at he
 rotate_left
 ·cases he
 rename_i xs Ax;simp only[Option.some.injEq,Prod.mk.injEq]at he;obtain⟨kZ,rfl⟩:=he;have ha:h a=some (.own (.row ty k) xs):=bz _ _ (kD Ax);have Px:h a≠none:=by rw[ha];simp
 simp only[au,aA]at oW;obtain⟨v1,_,rfl,⟨_,yY⟩,rfl⟩:=oW;have yY:=yY Px;subst yY;simp only[aC,aL]at Bp;have nR0:N (id+128):=hN 128 (by omega);have na:¬N a:=Bp.1;have a0:a≠id+128:=fun e=>na (e▸nR0)
 let ψ0:Nat→Value:=fun i=>if i=1000 then ψ a else ψ i
 have p0:ψ0 1000=ψ a:=if_pos rfl
 let g0:aO:=⟨[.own],[.own (.row ty k)],[.own (.row ty k)],none⟩
 have uj:rK g0 ((),(xs,()))=Heap.get [(1000,.own (.row ty k) xs)]:=rfl;have i0:rK g0 ((),(xs,())) 1000=some (.own (.row ty k) xs):=rfl;have iN:∀i,rK g0 ((),(xs,())) i≠none→i=1000:=fun i hi=>by simp_all [Heap.get,Ne.symm]
 have oin:∀q,Own ψ0 (rK g0 ((),(xs,()))) q→ob (ψ a)=some q:=fun q ⟨i,h1,h2⟩=>by simp_all
 have oh:∀q,Own ψ0 (rK g0 ((),(xs,()))) q→Own ψ h q:=fun q hq=>⟨a,Px,oin q hq⟩;have G0:Good Z ψ0 (rK g0 ((),(xs,()))) w w.heap.size (Own ψ0 (rK g0 ((),(xs,())))):=by
  refine⟨fun i ty cs k=>?_,fun i ok x k=>?_,fun i q h1 h2=>⟨fun hz=>?_,.inr ⟨i,h1,h2⟩⟩,fun i j q h1 h2 h3 h4=>?_,g.kz⟩
  ·grind
  ·have:=iN i (by rw[k];simp);subst this;rw[i0]at k;cases k;rw[p0];exact g.row a _ _ ha
  ·have:=iN i h1;subst this;rw[p0]at h2;exact(g.live a q Px h2).1 hz
  grind
 have c0:(ψ a).cells=#[ψ a]∧(ψ a).oneCell'=true:=(g.row a _ _ ha).one;have R0:au Z ψ0 (rK g0 ((),(xs,()))) w (Ic g0 ((),(xs,()))) [ψ a]:=by
  show au Z ψ0 (rK g0 ((),(xs,()))) w [.bN 1000] [ψ a];simp only[au,aA]
  grind
 have TJ:=hc xs kZ Z ψ0 w [ψ a] G0 R0;rw[hf]at TJ;refine TJ.mono fun en w' ⟨V,Z',ψ',e1,zs,zf,kp,gd,bM,hr⟩=>?_;have q0:ψ' 1000=ψ a:=(bM 1000 (by show 1000∈[1000];simp)).trans p0;have o0:(lq g0 ((xs,()),(xs,()))).get 1000=some (.own (.row ty k) xs):=rfl;have o2:(lq g0 ((xs,()),(xs,()))).get 3000=some (.own (.row ty k) xs):=rfl;have gd:Good Z' ψ' (lq g0 ((xs,()),(xs,()))).get w' w.heap.size (Own ψ0 (rK g0 ((),(xs,())))):=gd;have hr:aA Z' ψ' (lq g0 ((xs,()),(xs,()))).get w' (.bN 3000) V:=hr;generalize (lq g0 ((xs,()),(xs,()))).get=out at *;have keep:cT ψ h w w':=⟨kp.os,kp.tape,kp.output,kp.size,fun q hq hn=>kp.block q hq fun ho=>hn (oh q ho)⟩;have sm:cv Z w w':=keep.same g;have cI:∀i q,i≠a→h i≠none→ob (ψ i)=some q→w'.heap[q]? = w.heap[q]? := fun i q k1 h1 h2 =>kp.block q (g.bQ ⟨i,h1,h2⟩) fun ho=>k1 (g.apart i a q h1 Px h2 (oin q ho))
 let eY:Nat→Value:=fun i=>if i=id+128 then ψ' 3000 else ψ i
 let H:Hp:=(bF.new (.bN (id+128)) [(id+128,.own (.row ty k) xs)]).hp h
 have s0:eY (id+128)=ψ' 3000:=if_pos rfl;have sn:∀i,i≠id+128→eY i=ψ i:=fun i k1=>if_neg k1;have H0:H (id+128)=some (.own (.row ty k) xs):=by grind [bF.hp,Heap.get]
 have Hn:∀i,i≠id+128→H i=h i:=fun i k1=>by show(bF.hp h _) _=_;simp[bF.hp,Heap.get,Ne.symm k1]
 have two:∀q,ob (ψ' 3000)=some q→¬Z' q∧(w.heap.size≤q∨ob (ψ a)=some q):=fun q h2=>by
  obtain⟨h3,h4⟩:=gd.live 3000 q (by rw[o2];simp) h2
  grind
 have one:∀q,ob (ψ a)=some q→¬Z' q:=fun q h2=>(gd.live 1000 q (by rw[o0];simp) (by grind)).1;have YL:∀q,ob (ψ' 3000)=some q→ob (ψ a)=some q→False:=fun q h2 h3=>by have:=gd.apart 3000 1000 q (by rw[o2];simp) (by rw[o0];simp) h2 (by grind);omega
 have fresh:∀q,ob (ψ' 3000)=some q→w.heap.size≤q:=fun q h2=>(two q h2).2.resolve_right (YL q h2);have ids:∀i,H i≠none→(h i≠none∧eY i=ψ i)∨N i:=fun i hi=>by
  grind
 have live:∀i q,i≠id+128→h i≠none→ob (ψ i)=some q→¬Z' q:=fun i q k1 h1 h2 hz=>by
  by_cases k3:i=a
  ·grind
  rcases zf q hz with k|k|k
  ·exact(g.live i q h1 h2).1 k
  ·grind
  ·have:=g.bQ ⟨i,h1,h2⟩;omega
 refine⟨V,Z',eY,e1,⟨zs,fun q hq=>(zf q hq).imp (fun h=>h) fun k=>k.imp (oh q) fun h=>h,keep,ids,⟨fun i Jz cs k=>?_,fun i ok x k=>?_,fun i q h1 h2=>?_,fun i j q h1 h2 h3 h4=>?_,gd.kz⟩⟩,?_⟩
 ·have k1:i≠id+128:=fun e=>by grind
  have k3:i≠a:=fun e=>by grind
  have r8:h i=some (.box Jz cs):=(Hn i k1).symm.trans k;obtain⟨gg,vs,f1,f2,f3,f4⟩:=g.box i Jz cs r8;exact⟨gg,vs,(sn i k1).trans f1,(cI i gg k3 (by rw[r8];simp) (by rw[f1];rfl)).trans f2,f3.move zs sm (fun j hj bB=>(ids j bB).resolve_right hj) (bm i Jz cs r8),f4⟩
 ·by_cases k1:i=id+128
  ·subst k1;have k:H (id+128)=some (.own ok x):=k;rw[H0]at k;cases k;rw[s0];exact gd.row 3000 _ _ o2
  have r8:h i=some (.own ok x):=(Hn i k1).symm.trans k;rw[sn i k1];by_cases k3:i=a
  ·subst k3;rw[ha]at r8;cases r8;rw[←q0];exact gd.row 1000 _ _ o0
  exact(g.row i ok x r8).kept zs sm fun q hq=>cI i q k3 (by rw[r8];simp) hq
 ·by_cases k1:i=id+128
  ·grind
  ·have h1:h i≠none:=by grind
   rw[sn i k1]at h2;exact⟨live i q k1 h1 h2,(g.live i q h1 h2).2⟩
 ·have lt:∀j,j≠id+128→H j≠none→ob (eY j)=some q→q<w.heap.size:=fun j k1 k2 k3=>by rw[Hn j k1]at k2;rw[sn j k1]at k3;exact g.bQ ⟨j,k2,k3⟩
  by_cases k1:i=id+128<;>by_cases k2:j=id+128
  ·omega
  ·grind
  ·grind
  ·rw[sn i k1]at h3;rw[sn j k2]at h4;exact g.apart i j q (by grind) (by grind) h3 h4
 ·simp only[aA]at hr;show aA Z' eY H w' (.bN (id+128)) V
  grind [aA,trans]
theorem IW(hc:∀(xs:List cV.T) (ys:List dw.T),qY xs ys=true→GF P 83 mr ((),(xs,(ys,()))) (((xs,(ys,())),()),(xs,(ys,())))):gI P 83 Ix:=by
 intro Z ψ h w B0 O N hh id e vs us g hB bz hN bm mQ oW Bp he;unfold Ix at he
 split at he
 rotate_left
 ·cases he
 rename_i a b
 split at he
 rotate_left
 ·cases he
 rename_i xs ys Ax QQ
 split at he
 ·cases he
 rename_i zH;simp only[Option.some.injEq,Prod.mk.injEq]at he;obtain⟨kZ,rfl⟩:=he;have ha:h a=some (.own (.row 38 cV) xs):=bz _ _ (kD Ax);have hb:h b=some (.own (.row 84 dw) ys):=bz _ _ (kD QQ);have Px:h a≠none:=by rw[ha];simp
 have MJ:h b≠none:=by rw[hb];simp
 simp only[au,aA]at oW;obtain⟨v,_,rfl,⟨cs,rfl,v1,_,MX,⟨_,yY⟩,v2,_,rfl,⟨_,BI⟩,rfl⟩,rfl⟩:=oW;have yY:=yY Px;have BI:=BI MJ;subst yY BI;simp only[aC,aL]at Bp;have nR0:N (id+128):=hN 128 (by omega);have nR1:N (id+129):=hN 129 (by omega);have na:¬N a:=Bp.1.1;have nb:¬N b:=Bp.1.2.1;have a0:a≠id+128:=fun e=>na (e▸nR0);have a1:a≠id+129:=fun e=>na (e▸nR1);have b0:b≠id+128:=fun e=>nb (e▸nR0);have b1:b≠id+129:=fun e=>nb (e▸nR1)
 let ψ0:Nat→Value:=fun i=>if i=1000 then ψ a else if i=1020 then ψ b else ψ i
 have p0:ψ0 1000=ψ a:=if_pos rfl;have p1:ψ0 1020=ψ b:=(if_neg (by decide)).trans (if_pos rfl);have uj:rK mr ((),(xs,(ys,())))=Heap.get [(1000,.own (.row 38 cV) xs),(1020,.own (.row 84 dw) ys)]:=rfl;have i0:rK mr ((),(xs,(ys,()))) 1000=some (.own (.row 38 cV) xs):=rfl;have i1:rK mr ((),(xs,(ys,()))) 1020=some (.own (.row 84 dw) ys):=rfl;have iN:∀i,rK mr ((),(xs,(ys,()))) i≠none→i=1000∨i=1020:=fun i hi=>by
  by_cases e0:i=1000
  ·exact .inl e0
  by_cases e1:i=1020
  ·exact .inr e1
  rw[uj]at hi;simp[Heap.get,Ne.symm e0,Ne.symm e1]at hi
 have oin:∀q,Own ψ0 (rK mr ((),(xs,(ys,())))) q→ob (ψ a)=some q∨ob (ψ b)=some q:=fun q ⟨i,h1,h2⟩=>by
  rcases iN i h1 with rfl|rfl
  ·exact .inl (by rw[←p0];exact h2)
  ·exact .inr (by rw[←p1];exact h2)
 have oh:∀q,Own ψ0 (rK mr ((),(xs,(ys,())))) q→Own ψ h q:=fun q hq=>(oin q hq).elim (fun k=>⟨a,Px,k⟩) fun k=>⟨b,MJ,k⟩;have G0:Good Z ψ0 (rK mr ((),(xs,(ys,())))) w w.heap.size (Own ψ0 (rK mr ((),(xs,(ys,()))))):=by
  refine⟨fun i ty cs k=>?_,fun i ok x k=>?_,fun i q h1 h2=>⟨fun hz=>?_,.inr ⟨i,h1,h2⟩⟩,fun i j q h1 h2 h3 h4=>?_,g.kz⟩
  ·rcases iN i (by rw[k];simp) with rfl|rfl
   ·rw[i0]at k;cases k
   ·rw[i1]at k;cases k
  ·rcases iN i (by rw[k];simp) with rfl|rfl
   ·rw[i0]at k;cases k;rw[p0];exact g.row a _ _ ha
   ·rw[i1]at k;cases k;rw[p1];exact g.row b _ _ hb
  ·rcases iN i h1 with rfl|rfl
   ·rw[p0]at h2;exact(g.live a q Px h2).1 hz
   ·rw[p1]at h2;exact(g.live b q MJ h2).1 hz
  ·rcases iN i h1 with rfl|rfl<;>rcases iN j h2 with rfl|rfl
   ·rfl
   ·rw[p0]at h3;rw[p1]at h4;exact absurd (g.apart a b q Px MJ h3 h4) zH
   ·rw[p1]at h3;rw[p0]at h4;exact absurd (g.apart a b q Px MJ h4 h3) zH
   ·rfl
 have c0:(ψ a).cells=#[ψ a]∧(ψ a).oneCell'=true:=(g.row a _ _ ha).one;have c1:(ψ b).cells=#[ψ b]∧(ψ b).oneCell'=true:=(g.row b _ _ hb).one;have R0:au Z ψ0 (rK mr ((),(xs,(ys,())))) w (Ic mr ((),(xs,(ys,())))) [.agg cs]:=by show au Z ψ0 (rK mr ((),(xs,(ys,())))) w [.agg [.bN 1000,.bN 1020]] [.agg cs];simp only[au,aA];exact⟨.agg cs,[],rfl,⟨cs,rfl,ψ a,[ψ b],MX,⟨c0,fun _=>p0.symm⟩,ψ b,[],rfl,⟨c1,fun _=>p1.symm⟩,rfl⟩,rfl⟩
 refine(hc xs ys kZ Z ψ0 w [.agg cs] G0 R0).mono fun en w' ⟨V,Z',ψ',e1,zs,zf,kp,gd,bM,hr⟩=>?_;have q0:ψ' 1000=ψ a:=(bM 1000 (by show 1000∈[1000,1020];simp)).trans p0;have q1:ψ' 1020=ψ b:=(bM 1020 (by show 1020∈[1000,1020];simp)).trans p1;have o0:(lq mr (((xs,(ys,())),()),(xs,(ys,())))).get 1000=some (.own (.row 38 cV) xs):=rfl;have o1:(lq mr (((xs,(ys,())),()),(xs,(ys,())))).get 1020=some (.own (.row 84 dw) ys):=rfl;have o2:(lq mr (((xs,(ys,())),()),(xs,(ys,())))).get 3000=some (.own (.row 38 cV) xs):=rfl;have o3:(lq mr (((xs,(ys,())),()),(xs,(ys,())))).get 3001=some (.own (.row 84 dw) ys):=rfl;generalize (lq mr (((xs,(ys,())),()),(xs,(ys,())))).get=out at *;have keep:cT ψ h w w':=⟨kp.os,kp.tape,kp.output,kp.size,fun q hq hn=>kp.block q hq fun ho=>hn (oh q ho)⟩;have sm:cv Z w w':=keep.same g;have cI:∀i q,i≠a→i≠b→h i≠none→ob (ψ i)=some q→w'.heap[q]? = w.heap[q]? := fun i q k1 k2 h1 h2 =>kp.block q (g.bQ ⟨i,h1,h2⟩) fun ho=>(oin q ho).elim (fun k=>k1 (g.apart i a q h1 Px h2 k)) fun k=>k2 (g.apart i b q h1 MJ h2 k)
 let κ:Nat→Nat:=fun i=>if i=id+128 then 3000 else if i=id+129 then 3001 else if i=a then 1000 else 1020
 let X2:Nat→Prop:=fun i=>i=id+128∨i=id+129∨i=a∨i=b
 let eY:Nat→Value:=fun i=>if i=id+128 then ψ' 3000 else if i=id+129 then ψ' 3001 else ψ i
 let H:Hp:=(bF.new (.agg [.bN (id+128),.bN (id+129)]) [(id+128,.own (.row 38 cV) xs),(id+129,.own (.row 84 dw) ys)]).hp h
 have s0:eY (id+128)=ψ' 3000:=if_pos rfl;have s1:eY (id+129)=ψ' 3001:=(if_neg (by omega)).trans (if_pos rfl);have sn:∀i,i≠id+128→i≠id+129→eY i=ψ i:=fun i k1 k2=>(if_neg k1).trans (if_neg k2);have H0:H (id+128)=some (.own (.row 38 cV) xs):=by show(bF.hp h _) _=_;simp[bF.hp,Heap.get]
 have H1:H (id+129)=some (.own (.row 84 dw) ys):=by show(bF.hp h _) _=_;simp[bF.hp,Heap.get]
 have Hn:∀i,i≠id+128→i≠id+129→H i=h i:=fun i k1 k2=>by show(bF.hp h _) _=_;simp[bF.hp,Heap.get,Ne.symm k1,Ne.symm k2]
 have Ha:H a=some (.own (.row 38 cV) xs):=(Hn a a0 a1).trans ha;have Hb:H b=some (.own (.row 84 dw) ys):=(Hn b b0 b1).trans hb;have kap:∀i,X2 i→out (κ i)≠none∧ψ' (κ i)=eY i:=fun i hi=>by
  rcases hi with rfl|rfl|rfl|rfl
  ·have:κ (id+128)=3000:=if_pos rfl;rw[this,o2,s0];exact⟨by simp,rfl⟩
  ·have:κ (id+129)=3001:=(if_neg (by omega)).trans (if_pos rfl);rw[this,o3,s1];exact⟨by simp,rfl⟩
  ·have:κ i=1000:=(if_neg a0).trans ((if_neg a1).trans (if_pos rfl));rw[this,o0,q0,sn i a0 a1];exact⟨by simp,rfl⟩
  ·have:κ i=1020:=(if_neg b0).trans ((if_neg b1).trans (if_neg (fun k=>zH k.symm)));rw[this,o1,q1,sn i b0 b1];exact⟨by simp,rfl⟩
 have alu:∀i j,X2 i→X2 j→κ i=κ j→i=j:=fun i j hi hj hk=>by have v1:κ (id+128)=3000:=if_pos rfl;have v2:κ (id+129)=3001:=(if_neg (by omega)).trans (if_pos rfl);have v3:κ a=1000:=(if_neg a0).trans ((if_neg a1).trans (if_pos rfl));have v4:κ b=1020:=(if_neg b0).trans ((if_neg b1).trans (if_neg (fun k=>zH k.symm)));rcases hi with rfl|rfl|rfl|rfl<;>rcases hj with rfl|rfl|rfl|rfl<;>first|rfl|(rw[v1]at hk;first|(rw[v2]at hk;cases hk)|(rw[v3]at hk;cases hk)|(rw[v4]at hk;cases hk))|(rw[v2]at hk;first|(rw[v1]at hk;cases hk)|(rw[v3]at hk;cases hk)|(rw[v4]at hk;cases hk))|(rw[v3,v4]at hk;cases hk)|(rw[v4,v3]at hk;cases hk)
 have back:∀i q,X2 i→ob (eY i)=some q→¬Z' q∧(w.heap.size≤q∨ob (ψ a)=some q∨ob (ψ b)=some q):=fun i q hi h2=>by obtain⟨k1,k2⟩:=kap i hi;rw[←k2]at h2;obtain⟨h3,h4⟩:=gd.live (κ i) q k1 h2;exact⟨h3,h4.imp (fun h=>h) (oin q)⟩
 have rest:∀i,¬X2 i→i≠id+128∧i≠id+129∧i≠a∧i≠b:=fun i hi=>⟨fun k=>hi (.inl k),fun k=>hi (.inr (.inl k)),fun k=>hi (.inr (.inr (.inl k))),fun k=>hi (.inr (.inr (.inr k)))⟩;have mixed:∀i j q,X2 i→¬X2 j→h j≠none→ob (eY i)=some q→ob (ψ j)=some q→False:=fun i j q hi hj h2 h3 h4=>by
  obtain⟨_,_,k3,k4⟩:=rest j hj;rcases (back i q hi h3).2 with k|k|k
  ·have:=g.bQ ⟨j,h2,h4⟩;omega
  ·exact k3 (g.apart j a q h2 Px h4 k)
  ·exact k4 (g.apart j b q h2 MJ h4 k)
 have ids:∀i,H i≠none→(h i≠none∧eY i=ψ i)∨N i:=fun i hi=>by
  by_cases k1:i=id+128
  ·exact .inr (k1▸nR0)
  by_cases k2:i=id+129
  ·exact .inr (k2▸nR1)
  ·rw[Hn i k1 k2]at hi;exact .inl ⟨hi,sn i k1 k2⟩
 refine⟨V,Z',eY,e1,⟨zs,fun q hq=>(zf q hq).imp (fun h=>h) fun k=>k.imp (oh q) fun h=>h,keep,ids,⟨fun i ty cs k=>?_,fun i ok x k=>?_,fun i q h1 h2=>?_,fun i j q h1 h2 h3 h4=>?_,gd.kz⟩⟩,?_⟩
 ·have k1:i≠id+128:=fun e=>by rw[e]at k;have k:H (id+128)=some (.box ty cs):=k;rw[H0]at k;cases k
  have k2:i≠id+129:=fun e=>by rw[e]at k;have k:H (id+129)=some (.box ty cs):=k;rw[H1]at k;cases k
  have k3:i≠a:=fun e=>by rw[e]at k;have k:H a=some (.box ty cs):=k;rw[Ha]at k;cases k
  have k4:i≠b:=fun e=>by rw[e]at k;have k:H b=some (.box ty cs):=k;rw[Hb]at k;cases k
  have r8:h i=some (.box ty cs):=(Hn i k1 k2).symm.trans k;obtain⟨gg,vs,f1,f2,f3,f4⟩:=g.box i ty cs r8;exact⟨gg,vs,(sn i k1 k2).trans f1,(cI i gg k3 k4 (by rw[r8];simp) (by rw[f1];rfl)).trans f2,f3.move zs sm (fun j hj bB=>(ids j bB).resolve_right hj) (bm i ty cs r8),f4⟩
 ·by_cases k1:i=id+128
  ·subst k1;have k:H (id+128)=some (.own ok x):=k;rw[H0]at k;cases k;rw[s0];exact gd.row 3000 _ _ o2
  by_cases k2:i=id+129
  ·subst k2;have k:H (id+129)=some (.own ok x):=k;rw[H1]at k;cases k;rw[s1];exact gd.row 3001 _ _ o3
  have r8:h i=some (.own ok x):=(Hn i k1 k2).symm.trans k;rw[sn i k1 k2];by_cases k3:i=a
  ·subst k3;rw[ha]at r8;cases r8;rw[←q0];exact gd.row 1000 _ _ o0
  by_cases k4:i=b
  ·subst k4;rw[hb]at r8;cases r8;rw[←q1];exact gd.row 1020 _ _ o1
  exact(g.row i ok x r8).kept zs sm fun q hq=>cI i q k3 k4 (by rw[r8];simp) hq
 ·by_cases h4:X2 i
  ·obtain⟨k1,k2⟩:=back i q h4 h2;refine⟨k1,?_⟩;rcases k2 with k|k|k
   ·exact .inl (acE hB k)
   ·exact(g.live a q Px k).2
   ·exact(g.live b q MJ k).2
  ·obtain⟨r1,r2,r3,r4⟩:=rest i h4;have h1:h i≠none:=by rw[←Hn i r1 r2];exact h1
   rw[sn i r1 r2]at h2;refine⟨fun hz=>?_,(g.live i q h1 h2).2⟩;rcases zf q hz with k|k|k
   ·exact(g.live i q h1 h2).1 k
   ·rcases oin q k with k|k
    ·exact r3 (g.apart i a q h1 Px h2 k)
    ·exact r4 (g.apart i b q h1 MJ h2 k)
   ·have:=g.bQ ⟨i,h1,h2⟩;omega
 ·by_cases hi:X2 i<;>by_cases hj:X2 j
  ·obtain⟨k1,k2⟩:=kap i hi;obtain⟨k3,k4⟩:=kap j hj;rw[←k2]at h3;rw[←k4]at h4;exact alu i j hi hj (gd.apart _ _ q k1 k3 h3 h4)
  ·obtain⟨r1,r2,r3,r4⟩:=rest j hj;rw[sn j r1 r2]at h4;exact(mixed i j q hi hj (by rw[←Hn j r1 r2];exact h2) h3 h4).elim
  ·obtain⟨r1,r2,r3,r4⟩:=rest i hi;rw[sn i r1 r2]at h3;exact(mixed j i q hj hi (by rw[←Hn i r1 r2];exact h1) h4 h3).elim
  ·obtain⟨r1,r2,_,_⟩:=rest i hi;obtain⟨t1,t2,_,_⟩:=rest j hj;rw[sn i r1 r2]at h3;rw[sn j t1 t2]at h4;exact g.apart i j q (by rw[←Hn i r1 r2];exact h1) (by rw[←Hn j t1 t2];exact h2) h3 h4
 ·have hr:aA Z' ψ' out w' (.agg [.bN 3000,.bN 3001]) V:=hr;simp only[aA,au]at hr;obtain⟨vs,rfl,u1,_,oW,⟨d1,d2⟩,u2,_,rfl,⟨d3,d4⟩,rfl⟩:=hr;show aA Z' eY H w' (.agg [.bN (id+128),.bN (id+129)]) (.agg vs);simp only[aA,au];exact⟨vs,rfl,u1,[u2],oW,⟨d1,fun _=>(d2 (by rw[o2];simp)).trans s0.symm⟩,u2,[],rfl,⟨d3,fun _=>(d4 (by rw[o3];simp)).trans s1.symm⟩,rfl⟩
end Go.Vs
namespace Go.Vs
open Go.Proofs
abbrev YM:(f:FuncId)→(g:aO)→Option (g.A→Option g.B):=fun _ _=>none
section
variable (SG:FuncId→Option aO) (AN:FuncId→Nat→Option Shape)
noncomputable abbrev YN:FT:=Fix Tryz.prog Eqs SG AN YM
noncomputable abbrev LXG(f:FuncId)(g:aO)(fn:Func):JT g:=Lp Tryz.prog Eqs SG AN YM f g fn
end
theorem IX{SG:FuncId→Option aO}{AN:FuncId→Nat→Option Shape}{f:FuncId}{g:aO}{fn:Func}{x:g.A}{y:g.B}(hb:body Tryz.prog (f%1000)=some (fn,fn.body.getD .skip))(hc:(decide (g.ps.length≤fn.ntmps)&&decide (g.bs.length≤8))=true) (h:VA SG AN f g fn (YN SG AN) (LXG SG AN f g fn) x=some y):YN SG AN f g x=some y:=O5 rfl hb hc h
theorem VB{SG:FuncId→Option aO}{AN:FuncId→Nat→Option Shape}{f j:Nat}{g:aO}{fn:Func}{sh:Shape}{x:sh.T}{y:g.B}(hs:(match aK Tryz.prog (f%1000) j with | .inLoop _::_=>true|_=>false)=true)
  (h:ace SG AN f j g fn sh (YN SG AN) (LXG SG AN f g fn) x=some y):LXG SG AN f g fn sh (aK Tryz.prog (f%1000) j) x=some y:=by
 unfold ace at h;generalize aK Tryz.prog (f%1000) j=s at hs h ⊢
 split at hs
 ·exact Up h
 ·cases hs
theorem VC{α β:Type}{o:Option α}{f:α→Option β}{a:α}{r:Option β}(h:o=some a)(k:f a=r):o.bind f=r:=by simp_all
theorem D8{α:Type}{c:Bool}{x y r:α}(h:c=true)(k:x=r):cond c x y=r:=by simp_all
theorem YO{α:Type}{c:Bool}{x y r:α}(h:c=false)(k:y=r):cond c x y=r:=by simp_all
theorem VD{R:Type}{f:Nat→Option R}{r:R}(h0:f 0=some r)(h1:f 1=some r):sI 2 f=some r :=ml (by omega) fun j hj=>by
  grind
theorem afV(xs:List ai)(h:aI 0 xs.length=true):YN Sg0 An0 500109 YJ ((),(xs,()))=some ((xs,()),(xs,())):=by
 refine IX (fn:=Tryz.f109) (by kernel_rfl) (by kernel_rfl) ((afQ _ _ _).trans ?_)
 cases xs with
 |nil=>exact D8 rfl (VD rfl rfl)
 |cons x r=>exact YO rfl (D8 h rfl)
theorem afW(xs:List ag)(h:aI 0 xs.length=true):YN Sg0 An0 500110 YK ((),(xs,()))=some ((xs,()),(xs,())):=by
 refine IX (fn:=Tryz.f110) (by kernel_rfl) (by kernel_rfl) ((afR _ _ _).trans ?_)
 cases xs with
 |nil=>exact D8 rfl (VD rfl rfl)
 |cons x r=>exact YO rfl (D8 h rfl)
theorem Py{f:FuncId}{g:aO}(h:Sg0 f=some g):(f,g)∈aca:=by
 unfold Sg0 at h;obtain⟨p,hp,rfl⟩:=adj.1 h
 grind
theorem Pz{f:FuncId}{g:aO}(h:X1 f=some g):(f,g)∈acb:=by
 unfold X1 at h;obtain⟨p,hp,rfl⟩:=adj.1 h
 grind
noncomputable def VF(l:List (Nat×aO)):Bool:=l.all fun p=>match Tryz.prog.funcs[p.1%1000]? with|some fn => !(fn.name== "runtime.NumGoroutine")&&fn.body.isSome|none=>false
theorem IY{l:List (Nat×aO)}(key:VF l=true){f:FuncId}{g:aO}(hm:(f,g)∈l):jT Tryz.prog (f%1000):=by
 have:=adp.1 key _ hm;simp only at this
 split at this
 ·rename_i fn hf;simp only[Bool.and_eq_true,Bool.not_eq_true']at this;exact⟨fn,hf,this.1,this.2⟩
 ·cases this
theorem afX{f:FuncId}{g:aO}{x:g.A}{y:g.B}(hs:Sg0 f=some g)(h:YN Sg0 An0 f g x=some y):GF Tryz.prog f g x y :=BX (fun f g u hf hu=>by have hm:=Py hf;simp only[aca,List.mem_cons,List.not_mem_nil,or_false,Prod.mk.injEq]at hm;rcases hm with⟨_,rfl⟩|⟨_,rfl⟩<;>cases hu) D7 (fun f g hf=>IY (by kernel_rfl) (Py hf)) uF (fun f g u x y _ hu _=>by cases hu) hs h
theorem YP:gI Tryz.prog 109 (uG 38 cV):=vD rfl fun xs h=>by have:=afX (by kernel_rfl) (afV xs h);exact this
theorem YQ:gI Tryz.prog 110 (uG 84 dw):=vD rfl fun xs h=>by have:=afX (by kernel_rfl) (afW xs h);exact this
theorem afY(l:List ab)(hl:l.length≤50000000):YN X1 An1 111 By ((l,()),())=some ((l,()),()):=by
 refine IX (fn:=Tryz.f111) (by kernel_rfl) (by kernel_rfl) ((afS _ _ _).trans ?_)
 cases l with
 |nil=>exact D8 rfl (VD rfl rfl)
 |cons x r=>exact YO rfl (D8 (decide_eq_true (show 0+(x::r).length≤1073741824 by omega)) rfl)
theorem VG{i n:Nat}(h:i<n)(hn:n≤50000000):IntKind.wrap .i64 ((i:Int)+1)=((i+1:Nat):Int):=by
 grind [IntKind.wrap,IntKind.bits,IntKind.signed]
theorem afZ(xs:List ai)(ys:List ag)(h:qY xs ys=true):YN X1 An1 500083 mr ((),(xs,(ys,())))=some (((xs,(ys,())),()),(xs,(ys,()))):=by
 unfold qY at h;simp only[Bool.and_eq_true,decide_eq_true_eq,List.all_eq_true]at h;obtain⟨hx,hy,hr⟩:=h;refine IX (fn:=Tryz.f83) (by kernel_rfl) (by kernel_rfl) ((afT _ _ _).trans ?_);refine D8 (decide_eq_true (show 0+xs.length≤1073741824 by omega)) (D8 (decide_eq_true (show 0+ys.length≤1073741824 by omega)) ?_);have loop:∀(n i:Nat) (out:List ai),i+n=xs.length→out=xs→LXG X1 An1 500083 mr Tryz.f83 Lr (aK Tryz.prog 83 0) ((((xs.length:Nat):Int),((i:Int),())),(((([]:List ai),(([]:List ag),())),((out,(ys,())),())),(xs,(ys,()))))=some (((xs,(ys,())),()),(xs,(ys,()))):=by
  intro n
  induction n with
  |zero =>intro i out hi ho;subst ho;refine VB (j:=0) (by kernel_rfl) ((Pw _ _ _).trans ?_);exact YO (decide_eq_false (show ¬((i:Int)<((out.length:Nat):Int)) by omega)) rfl
  |succ n ih =>
   intro i out hi ho;have aN:i<xs.length:=by omega
   have Vy:out[i]? = some xs[i]:=by simp_all
   have hol:out.length=xs.length:=by rw[ho]
   have c1:(decide ((0:Int)≤(i:Int))&&decide ((i:Int)<((out.length:Nat):Int)))=true:=by simp_all
   refine VB (j:=0) (by kernel_rfl) ((Pw _ _ _).trans ?_);refine D8 (decide_eq_true (show((i:Int)<((xs.length:Nat):Int)) by omega)) (D8 c1 (VC Vy ?_));refine VC (afY xs[i].2.1 (hr _ (acV aN))) ?_;refine D8 c1 (VC Vy ?_);have hs:out.set i (xs[i].1,(xs[i].2.1,xs[i].2.2))=xs:=by
    grind [List.set_getElem_self]
   have:=ih (i+1) (out.set i (xs[i].1,(xs[i].2.1,xs[i].2.2))) (by omega) hs;rw[←VG aN hx]at this;exact this
 exact loop xs.length 0 xs (by omega) rfl
theorem alv{f:FuncId}{g:aO}{x:g.A}{y:g.B}(hs:X1 f=some g)(h:YN X1 An1 f g x=some y):GF Tryz.prog f g x y :=BX (fun f g u hf hu=>by
  have hm:=Pz hf;simp only[acb,List.mem_cons,List.not_mem_nil,or_false,Prod.mk.injEq]at hm;rcases hm with⟨_,rfl⟩|⟨_,rfl⟩|⟨rfl,rfl⟩|⟨rfl,rfl⟩
  ·cases hu
  ·cases hu
  ·cases hu;grind [id,YP]
  ·cases hu;grind [id,YQ]) D7 (fun f g hf=>IY (by kernel_rfl) (Pz hf)) uF (fun f g u x y _ hu _=>by cases hu) hs h
theorem RQ:gI Tryz.prog 83 Ix:=IW fun xs ys h=>by have:=alv (by kernel_rfl) (afZ xs ys h);exact this
end Go.Vs
namespace Go.Vs
open Go.Proofs Go.RowKit
abbrev aaL:Array Value:=#[.slice none 0 0,.slice none 0 0,.slice none 0 0,.int .i64 0,.slice none 0 0]
theorem YR(w:World):Calls Tryz.prog 28 #[] w fun e w'=>e=.returned (.pointer (some ⟨w.heap.size,0,none⟩))∧w'=w.alloc (.cells aaL 94):=by
 go_enter Tryz.func28,Tryz.ntmps28
 go_wp2
 go_ret
 simp_all
theorem NJ:gI Tryz.prog 28 abZ:=by
 intro Z ψ h w B0 O N hh id e vs us g hB bz hN bm mQ oW Bp he;unfold abZ at he
 split at he
 rotate_left
 ·cases he
 simp only[Option.some.injEq,Prod.mk.injEq,true_and]at he;subst he;simp only[au]at oW;subst oW;have k0:aJ Z w O6 (ki O6) aaL.toList:=by have z:∀(k:K),aJ Z w (.sl k) [] [.slice none 0 0]:=fun k=>⟨_,rfl,none,0,rfl,acf _,fun _=>rfl,fun i x h=>by simp at h⟩;exact⟨[.slice none 0 0,.slice none 0 0,.slice none 0 0],[.int .i64 0,.slice none 0 0],rfl,⟨[.slice none 0 0,.slice none 0 0],[.slice none 0 0],rfl,⟨[.slice none 0 0],[.slice none 0 0],rfl,z _,z _⟩,z _⟩,[.int .i64 0],[.slice none 0 0],rfl,rfl,z _⟩
 have n0:N (id+128):=hN 128 (by omega);have b1:=wZ g hB (id+128) 94 n0 (gZ (h:=h) (ψ:=ψ) k0) k0.one (fun i ty cs hb=>aC.imp (p:=fun j=>¬N j) (q:=fun j=>j≠id+128) (fun j hj e=>hj (by simp_all)) (bm i ty cs hb)) (by show aC _ [.sl false cV [],.sl false dw [],.sl false cC [],.int .i64 0,.sl false nj []];simp[aC,aL]);refine(YR w).mono fun en w' ⟨e1,e2⟩=>?_;subst e2;have hH:(bF.new (.ref (id+128) 0 0 0) [(id+128,.box 94 (enc O6 (ki O6)))]).hp h=dY h (id+128) (some (.box 94 (enc O6 (ki O6)))):=by
  funext i;show(match Heap.get _ i with|some o=>some o|none=>h i)=_;unfold dY;by_cases h2:i=id+128
  ·grind [Heap.get]
  ·simp[Heap.get,h2,Ne.symm h2]
 refine⟨_,Z,dY ψ (id+128) (.pointer (some ⟨w.heap.size,0,none⟩)),e1,?_,?_⟩
 ·simp_all
 ·rw[hH];simp only[bF.v,aA];refine⟨_,rfl,fun _=>?_⟩;rw[bh];rfl
theorem YS(w:World)(b:Nat)(v0 v1 v2 v3 v4:Value)(hg:w.heap[b]? = some (.cells #[v0,v1,v2,v3,v4] 94 (0,0))):Calls Tryz.prog 33 #[.pointer (some ⟨b,0,none⟩)] w fun e w'=>e=.returned v3∧w'=w:=by
 go_enter Tryz.func33,Tryz.ntmps33
 go_wp2_with (simp[World.cell?,hg])
 go_ret
 simp_all
theorem VH{Z:Nat→Prop}{ψ:Nat→Value}{h:Hp}{w:World}{B0:Nat}{O:Nat→Prop}{hh:Heap}(g:Good Z ψ h w B0 O)(bz:∀id o,hh.get id=some o→h id=some o){i:Nat}{cs:List AV}(hb:Cj hh i 94=some cs){x:O6.T}(hd:dz O6 cs=some x) {us:List Value} (oW:au Z ψ h w [.ref i 0 0 0] us) :
  ∃(b:Nat) (p0 p1 p2 p4:Option Addr) (l0 c0 l1 c1 l2 c2 l4 c4:Nat),us=[.pointer (some ⟨b,0,none⟩)]∧w.heap[b]? = some (.cells #[.slice p0 l0 c0,.slice p1 l1 c1,.slice p2 l2 c2,.int .i64 x.2.1,.slice p4 l4 c4] 94 (0,0)) ∧ aJ Z w O6 x [.slice p0 l0 c0,.slice p1 l1 c1,.slice p2 l2 c2,.int .i64 x.2.1,.slice p4 l4 c4]:=by
 have hg:hh.get i=some (.box 94 cs):=by
  grind [Cj]
 have h1:=bz _ _ hg;obtain⟨b,vs,e1,e2,e3,e4⟩:=g.box i 94 cs h1;have hk:=dA hd e3;have hu:us=[.pointer (some ⟨b,0,none⟩)]:=by simp only[au,aA]at oW;obtain⟨v,jn,rfl,⟨a,rfl,ha⟩,rfl⟩:=oW;rw[ha (by rw[h1];simp),e1];rfl
 have qu:=hk;obtain⟨l⟩:=vs;obtain⟨ua,ub,hq,⟨ud,ug,rfl,⟨uv,ue,rfl,⟨_,rfl,p0,c0,rfl,_⟩,⟨_,rfl,p1,c1,rfl,_⟩⟩,⟨_,rfl,p2,c2,rfl,_⟩⟩,un,u4,rfl,hn,⟨_,rfl,p4,c4,rfl,_⟩⟩:=hk;have hn:un=[.int .i64 x.2.1]:=hn
 grind
theorem IZ:gI Tryz.prog 33 Nv:=by
 intro Z ψ h w B0 O N hh id e vs us g hB bz hN bm mQ oW Bp he;unfold Nv at he
 split at he
 rotate_left
 ·cases he
 split at he
 rotate_left
 ·cases he
 rename_i i cs hb
 split at he
 rotate_left
 ·cases he
 rename_i x hd
 cases he
 obtain⟨b,p0,p1,p2,p4,l0,c0,l1,c1,l2,c2,l4,c4,rfl,hg,_⟩:=VH g bz hb hd oW;refine(YS w b _ _ _ _ _ hg).mono fun en w' ⟨e1,e2⟩=>?_;subst e2;refine⟨_,Z,ψ,e1,Next.refl g,?_⟩;rfl
theorem PA(w:World)(a:Option Addr)(n c:Nat)(hn:n≤c):Calls Tryz.prog 145 #[.slice a n c] w fun e w'=>e=.returned (.slice (if n=0 then a else a) n n)∧w'=w:=by
 go_enter Tryz.func145,Tryz.ntmps145
 go_wp2_with (simp)
 go_ret
 exact⟨rfl,rfl⟩
theorem YT:gI Tryz.prog 145 UE:=by
 intro Z ψ h w B0 O N hh id e vs us g hB bz hN bm mQ oW Bp he;unfold UE at he
 split at he
 ·rename_i ex k xs
  cases he
  simp only[au,aA,aJ]at oW;obtain⟨v,jn,rfl,⟨⟨v',hv,A,c,rfl,hl,hc,hx⟩,_⟩,rfl⟩:=oW
  cases hv
  refine(PA w A xs.length c hl).mono fun en w' ⟨e1,e2⟩=>?_;subst e2;refine⟨_,Z,ψ,e1,Next.refl g,?_⟩;simp only[bF.v,aA,aJ,ite_self];exact⟨⟨_,rfl,A,_,rfl,acf _,fun h0=>by have:=hc h0;omega,hx⟩,fun _=>⟨A,_,rfl⟩⟩
 ·cases he
  simp only[au,aA]at oW;obtain⟨v,jn,rfl,rfl,rfl⟩:=oW;refine(PA w none 0 0 (acf _)).mono fun en w' ⟨e1,e2⟩=>?_;subst e2;exact⟨_,Z,ψ,e1,Next.refl g,by simp only[bF.v,aA,ite_self]⟩
 ·cases he
end Go.Vs
namespace Go.Vs
open Go.Proofs
theorem VI:∀f g u,Sg f=some g→g.x=some u→gI Tryz.prog (f%1000) u:=fun f g u h hu=>by
 have hm:=Vz h;have key:(sgs.all fun p=>(p.2.x.isNone || (p.1==153 || (p.1==191 || (p.1==220 || (p.1==154 || (p.1==164 || (p.1==222 || (p.1==500083 || (p.1==28 || (p.1==33 || (p.1==145))))))))))))=true:=by kernel_rfl
 have:=adp.1 key _ hm;simp only[hu,Option.isNone_some,Bool.false_or,Bool.or_eq_true,beq_iff_eq]at this;rcases this with rfl|rfl|rfl|rfl|rfl|rfl|rfl|rfl|rfl|rfl
 ·have e:Sg 153=some aar:=by kernel_rfl
  rw[e]at h;cases h;cases hu;intro Z ψ h w B0 O N hh id e vs us;exact wz (k:=cV) ab3
 ·have e:Sg 191=some aau:=by kernel_rfl
  rw[e]at h;cases h;cases hu;intro Z ψ h w B0 O N hh id e vs us;exact wz (k:=dw) ab7
 ·have e:Sg 220=some aav:=by kernel_rfl
  rw[e]at h;cases h;cases hu;intro Z ψ h w B0 O N hh id e vs us;exact wz (k:=cC) ab9
 ·have e:Sg 154=some aas:=by kernel_rfl
  rw[e]at h;cases h;cases hu;intro Z ψ h w B0 O N hh id e vs us;exact D6 (k:=cV) ab5
 ·have e:Sg 164=some aat:=by kernel_rfl
  rw[e]at h;cases h;cases hu;intro Z ψ h w B0 O N hh id e vs us;exact D6 (k:=dw) ab8
 ·have e:Sg 222=some aaw:=by kernel_rfl
  rw[e]at h;cases h;cases hu;intro Z ψ h w B0 O N hh id e vs us;exact Lo (k:=bj) YI
 ·have e:Sg 500083=some K2:=by kernel_rfl
  rw[e]at h;cases h;cases hu;intro Z ψ h w B0 O N hh id e vs us;exact RQ
 ·have e:Sg 28=some aaC:=by kernel_rfl
  rw[e]at h;cases h;cases hu;intro Z ψ h w B0 O N hh id e vs us;exact NJ
 ·have e:Sg 33=some aaA:=by kernel_rfl
  rw[e]at h;cases h;cases hu;intro Z ψ h w B0 O N hh id e vs us;exact IZ
 ·have e:Sg 145=some aaB:=by kernel_rfl
  rw[e]at h;cases h;cases hu;intro Z ψ h w B0 O N hh id e vs us;exact YT
end Go.Vs
