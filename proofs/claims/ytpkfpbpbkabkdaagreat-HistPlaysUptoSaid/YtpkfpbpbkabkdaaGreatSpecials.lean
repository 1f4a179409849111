/- slices.Insert -/
import Derived.Test.YtpkfpbpbkabkdaaGreatEngineD
import Derived.Lib.AppendZerosOnto
import Derived.Lib.Overlaps
import Derived.Lib.Walk
import Derived.Shelf.Spec.SlicesInsert
import Derived.Laws.NewBlocks
set_option linter.unusedVariables false
set_option linter.unusedSimpArgs false
namespace Go.Vs
variable {P:Program} {w:World}
theorem jQ(w:World)(dT sT ty elem:TypeId)(sz g o WU afT:Nat)(a:Addr)(WV afU:Nat)(cur:Array Value)(t:TypeId)(cs:List Value) (hu:P.underlying dT=some (.slice elem)) (hs:(P.info? elem).map (·.size)=some sz) (hg:w.heap[g]? = some (.cells cur t (0,0))) (hn:cs.length=Nat.min WV WU*sz) (vP:∀(j:Nat) v,cs[j]? = some v→w.cell? (a.add j)=some v) (Tb:o+cs.length≤cur.size) (h1:∀v∈cs,v.oneCell'=true) :
  (Builtin.copy_ #[dT,sT] ty #[.slice (some ⟨g,o,none⟩) WU afT,.slice (some a) WV afU]).run P w = .ok (goInt (Nat.min WV WU)) (w.setRow g (cur.toList.take o++cs++cur.toList.drop (o+cs.length)).toArray):=by
 have hl:=run_loadCells_list (P:=P) w a cs vP;have tY:=run_storeCells_at P g o t cs 0 cur w hg (by simpa using Tb) h1
 cases hq:P.info? elem with
 |none=>simp[hq]at hs
 |some i =>
  have hi:i.size=sz:=by simpa[hq] using hs
  simp only[Nat.add_zero]at tY;simp[Builtin.copy_,run_underlying hu,Builtin.lenOf,Builtin.firstCells,sizeOf,typeInfo,hq,hi,←hn,hl,tY]
theorem nK(w:World)(t ty e:TypeId)(sz g n c:Nat)(a:Addr)(m mc:Nat)(cur:Array Value)(news:List Value)(ht:P.underlying t=some (.slice e))(hs:(P.info? e).map (·.size)=some sz) (hg:w.heap[g]? = some (.cells cur e (0,0))) (hl:news.length=m*sz) (vP:∀(j:Nat) v,news[j]? = some v→w.cell? (a.add j)=some v) (h1:∀v∈news,v.oneCell'=true) (dE:n+m≤c) (iF:c*sz≤cur.size) :
  (Builtin.append_ #[t,t] ty #[.slice (some ⟨g,0,none⟩) n c,.slice (some a) m mc]).run P w=.ok (.slice (some ⟨g,0,none⟩) (n+m) c) (w.setRow g (cur.toList.take (n*sz)++news++cur.toList.drop (n*sz+news.length)).toArray):=by
 have hle:n*sz+m*sz≤c*sz:=by rw[←Nat.add_mul];exact adm _ dE
 have aaQ:=run_loadCells_list (P:=P) w a news vP;have tY:=run_storeCells_at P g (n*sz) e news 0 cur w hg (by omega) h1;simp only[Nat.add_zero]at tY;have ha:(⟨g,0,none⟩:Addr).add (n*sz)=⟨g,n*sz,none⟩:=by rw[cG,Nat.zero_add]
 cases hq:P.info? e with
 |none=>simp[hq]at hs
 |some i =>
  have hi:i.size=sz:=by simpa[hq] using hs
  simp[Builtin.append_,run_underlying ht,Builtin.lenOf,Builtin.firstCells,sizeOf,typeInfo,hq,hi,←hl,aaQ,dE,ha,tY]
theorem qG(w:World)(t ty e:TypeId)(sz g o k c:Nat)(cur:Array Value)(i:TypeInfo)(z:Value)(ht:P.underlying t=some (.slice e))(hi:P.info? e=some i)(hz:i.zero=some z)(yF:z.cells.size=sz)(h1:∀v∈z.cells.toList,v.oneCell'=true) (hg:w.heap[g]? = some (.cells cur e (0,0))) (hk:0<k) (Tb:o+k*sz≤cur.size) :
  (Builtin.clear_ #[t] ty #[.slice (some ⟨g,o,none⟩) k c]).run P w=.ok (.tuple #[]) (w.setRow g (cur.toList.take o++(Builtin.zeroCells z.cells k).toList++cur.toList.drop (o+(Builtin.zeroCells z.cells k).toList.length)).toArray):=by
 have hl:(Builtin.zeroCells z.cells k).toList.length=k*sz:=by simp[Builtin.zeroCells,yF]
 have Eo:∀v∈(Builtin.zeroCells z.cells k).toList,v.oneCell'=true:=fun v hv=>by
  simp only[Builtin.zeroCells,Array.toList_map,List.mem_map]at hv;obtain⟨q,hq,rfl⟩:=hv;have hq':q<k*z.cells.size:=by simpa using hq
  have hp:0<z.cells.size:=by
   rcases Nat.eq_zero_or_pos z.cells.size with h|h
   ·rw[h,Nat.mul_zero]at hq';omega
   ·exact h
  have aF:q%z.cells.size<z.cells.size:=adU _ hp;rw[getElem!_pos z.cells _ aF];exact h1 _ (by simp)
 have tY:=run_storeCells_at P g o e (Builtin.zeroCells z.cells k).toList 0 cur w hg (by omega) Eo;simp only[Nat.add_zero]at tY;obtain⟨m,rfl⟩:∃m,k=m+1:=⟨k-1,by omega⟩;simp[Builtin.clear_,run_underlying ht,zeroValue,typeInfo,hi,hz,tY]
end Go.Vs
namespace Go.Vs
open Go.Proofs Go.RowKit
def Bu(P:Program)(f:FuncId)(e:TypeId)(size:Nat):Prop :=∀(w:World) (v u:Value) (n i:Nat) (xs ys:List Value),dS w e size v n xs→dS w e size u 1 ys→i≤n→n+1≤fz→(∀b,ob v=some b→ob u≠some b) →(∀q∈xs,q.oneCell'=true)→(∀q∈ys,q.oneCell'=true) → Calls P f #[v,.int .i64 i,u] w fun en w'=>∃v',en=.returned v'∧dS w' e size v' (n+1) (xs.take (i*size)++(ys++xs.drop (i*size)))∧w.grownBy w' (ob v)∧(ob v'=ob v∨∀b,ob v'=some b→w.heap.size≤b)
def EZ(P:Program)(f:FuncId)(e:TypeId)(sz:Nat):Prop:=∀(w:World) (v u:Value) (n:Nat) (xs ys:List Value) (hv:dS w e sz v n xs) (hu:dS w e sz u 1 ys) (hm:n+1≤fz) (h1:∀q∈ys,q.oneCell'=true),Calls P f #[v,.int .i64 n,u] w fun en w'=>∃v',en=.returned v'∧dS w' e sz v' (n+1) (xs++ys)∧w.grownBy w' (ob v)∧(ob v'=ob v∨∀b,ob v'=some b→w.heap.size≤b)
def u7(P:Program)(f:FuncId)(e:TypeId)(sz:Nat):Prop:=∀(w:World) (g c g2 c2 n i:Nat) (xs ys:List Value) (cur c7:Array Value) (hg:w.heap[g]? = some (.cells cur e (0,0))) (iF:cur.size=c*sz) (jR:cur.toList.take (n*sz)=xs) (u9:xs.length=n*sz) (tO:w.heap[g2]? = some (.cells c7 e (0,0))) (mf:c7.size=c2*sz) (oa:0<c2) (kd:c7.toList.take (1*sz)=ys) (Cp:ys.length=1*sz) (bq:g2≠g) (hi:i<n) (dE:n+1≤c) (hc:c≤maxLen) (h1:∀q∈xs,q.oneCell'=true) (h2:∀q∈ys,q.oneCell'=true),Calls P f #[.slice (some ⟨g,0,none⟩) n c,.int .i64 i,.slice (some ⟨g2,0,none⟩) 1 c2] w fun en w'=>en=.returned (.slice (some ⟨g,0,none⟩) (n+1) c) ∧ ∃iM:Array Value,w'.heap[g]? = some (.cells iM e (0,0))∧iM.size=cur.size∧iM.toList.take ((n+1)*sz)=xs.take (i*sz)++(ys++xs.drop (i*sz))∧w.grownBy w' (some g)
def yX(P:Program)(f:FuncId)(e:TypeId)(sz:Nat):Prop:=∀(w:World) (g c g2 c2 n i:Nat) (xs ys:List Value) (cur c7:Array Value) (hg:w.heap[g]? = some (.cells cur e (0,0))) (iF:cur.size=c*sz) (jR:cur.toList.take (n*sz)=xs) (u9:xs.length=n*sz) (tO:w.heap[g2]? = some (.cells c7 e (0,0))) (mf:c7.size=c2*sz) (oa:0<c2) (kd:c7.toList.take (1*sz)=ys) (Cp:ys.length=1*sz) (bq:g2≠g) (hi:i<n) (xi:n≤c) (dE:c<n+1) (hm:n+1≤fz) (h1:∀q∈xs,q.oneCell'=true) (h2:∀q∈ys,q.oneCell'=true),Calls P f #[.slice (some ⟨g,0,none⟩) n c,.int .i64 i,.slice (some ⟨g2,0,none⟩) 1 c2] w fun en w'=>∃G,en=.returned (.slice (some ⟨w.heap.size,0,none⟩) (n+1) G) ∧ ∃iM:Array Value,w'.heap[w.heap.size]? = some (.cells iM e (0,0))∧iM.size=G*sz∧n+1≤G∧G≤maxLen∧iM.toList.take ((n+1)*sz)=xs.take (i*sz)++(ys++xs.drop (i*sz))∧w.grownBy w' (some g)
theorem E0{w:World}{e sz:Nat}{u:Value}{ys:List Value}(hu:dS w e sz u 1 ys)(h1:∀q∈ys,q.oneCell'=true):SZ w sz u 1 ys:=by
 refine⟨hu.1,h1,.inr ?_⟩;rcases hu.2 with⟨h0,_⟩|⟨g,cap,cur,rfl,_,hg,_,_,hc,jR⟩
 ·cases h0
 ·refine⟨_,_,rfl,fun j q hj=>?_⟩;rw[cG,Nat.zero_add];rw[←jR,List.getElem?_take]at hj
  split at hj
  ·simp[World.cell?,hg];simpa using hj
  ·cases hj
theorem QF{α:Type}{cur xs ys cur1 cur3:List α}{i n sz:Nat}(jR:cur.take (n*sz)=xs)(hl:(n+1)*sz≤cur.length)(hy:ys.length=sz)(hi:i≤n) (h1:cur1=cur.take ((i+1)*sz)++xs.drop (i*sz)++cur.drop ((i+1)*sz+(xs.drop (i*sz)).length)) (h3:cur3=cur1.take (i*sz)++ys++cur1.drop (i*sz+ys.length)) :
  cur3.take ((n+1)*sz)=xs.take (i*sz)++(ys++xs.drop (i*sz)):=by
 have Cq:i*sz≤n*sz:=adm _ hi;rw[Nat.add_mul,Nat.one_mul]at hl h1 ⊢;have u9:xs.length=n*sz:=by rw[←jR,List.length_take];omega
 generalize i*sz=a at *;generalize n*sz=b at *;have e1:cur1.take a=xs.take a:=by rw[h1,List.append_assoc,List.take_append_of_le_length (by rw[List.length_take];omega),List.take_take,←jR,List.take_take];congr 1;omega
 have e2:cur1.drop (a+ys.length)=xs.drop a++cur.drop (a+1*sz+(xs.drop a).length):=by rw[h1,List.append_assoc,Nat.one_mul,hy];exact List.drop_left' (by rw[List.length_take];omega)
 rw[h3,e1,e2,←List.append_assoc,←List.append_assoc];rw[List.take_left' (by simp only[List.length_append,List.length_take,List.length_drop];omega)]
theorem tu{w:World}{e size:Nat}{g n:Nat}{cur:Array Value}{xs:List Value}(hg:w.heap[g]? = some (.cells cur e (0,0)))(jR:cur.toList.take (n*size)=xs)(o:Nat):∀(j:Nat) q,(xs.drop o)[j]? = some q→w.cell? ((⟨g,o,none⟩:Addr).add j)=some q:=fun j q hj=>by
 rw[cG];rw[List.getElem?_drop,←jR,List.getElem?_take]at hj
 split at hj
 ·simp[World.cell?,hg];simpa using hj
 ·cases hj
theorem tv{P:Program}{t e sz:Nat}(ht:P.underlying t=some (.slice e))(hz:(P.info? e).map (·.size)=some sz)(w:World)(g c g2 c2 n i:Nat)(xs ys:List Value)(cur c7:Array Value)(hg:w.heap[g]? = some (.cells cur e (0,0)))(iF:cur.size=c*sz)(jR:cur.toList.take (n*sz)=xs)(u9:xs.length=n*sz)(tO:w.heap[g2]? = some (.cells c7 e (0,0)))(mf:c7.size=c2*sz)(oa:0<c2)(kd:c7.toList.take (1*sz)=ys)(Cp:ys.length=1*sz)(bq:g2≠g)(hi:i<n)(dE:n+1≤c)(hc:c≤maxLen)(h1:∀q∈xs,q.oneCell'=true)(h2:∀q∈ys,q.oneCell'=true) :
  ∃cur1 cur3:Array Value,(∀(W:World),W.heap=w.heap→∀ty dc sc,(Builtin.copy_ #[t,t] ty #[.slice (some ⟨g,(i+1)*sz,none⟩) (n-i) dc,.slice (some ⟨g,i*sz,none⟩) (n+1-i) sc]).run P W=.ok (goInt (n-i:Nat)) (W.setRow g cur1))∧(∀ty dc sc,(Builtin.copy_ #[t,t] ty #[.slice (some ⟨g,i*sz,none⟩) (n+1-i) dc,.slice (some ⟨g2,0,none⟩) 1 sc]).run P (w.drew.setRow g cur1)=.ok (goInt 1) ((w.drew.setRow g cur1).setRow g cur3))∧cur3.size=cur.size∧cur3.toList.take ((n+1)*sz)=xs.take (i*sz)++(ys++xs.drop (i*sz)):=by
 have Mi:=tu (size:=sz) (n:=1) tO kd 0;have xj:=tu (size:=sz) (n:=n) hg jR (i*sz);have h63:c≤9223372036854775807:=by unfold maxLen at hc;omega
 have m6:(n+1)*sz≤c*sz:=adm _ dE;have m1:(n+1)*sz=n*sz+sz:=ad4 ..;have m2:(i+1)*sz=i*sz+sz:=ad4 ..;have m3:(n-i)*sz=n*sz-i*sz:=Nat.sub_mul ..;have m4:(i+1)*sz≤n*sz:=adm _ hi;have m5:1*sz=sz:=Nat.one_mul _;have hn5:n*sz≤cur.size:=by omega
 obtain⟨cur1,lR⟩:∃cur1:Array Value,cur1=(cur.toList.take ((i+1)*sz)++xs.drop (i*sz)++cur.toList.drop ((i+1)*sz+(xs.drop (i*sz)).length)).toArray:=⟨_,rfl⟩;have N7:(xs.drop (i*sz)).length=(n-i)*sz:=by rw[List.length_drop,u9];omega
 have JN:∀(W:World),W.heap=w.heap→∀ty dc sc,(Builtin.copy_ #[t,t] ty #[.slice (some ⟨g,(i+1)*sz,none⟩) (n-i) dc,.slice (some ⟨g,i*sz,none⟩) (n+1-i) sc]).run P W=.ok (goInt (n-i:Nat)) (W.setRow g cur1):=fun W hW ty dc sc=>by have:=jQ (P:=P) W t t ty e sz g ((i+1)*sz) (n-i) dc ⟨g,i*sz,none⟩ (n+1-i) sc cur e (xs.drop (i*sz)) ht hz (by rw[hW];exact hg) (by rw[N7];simp only[Nat.min_def];split<;>omega) (fun j v hj=>by have:=xj j v hj;simpa only[World.cell?,hW] using this) (by omega) (fun q hq=>h1 q (adF hq));rw[this,lR];congr 2;simp only[Nat.min_def];split<;>omega
 have IV:cur1.size=cur.size:=by rw[lR];simp;omega
 obtain⟨cur3,QG⟩:∃cur3:Array Value,cur3=(cur1.toList.take (i*sz)++ys++cur1.toList.drop (i*sz+ys.length)).toArray:=⟨_,rfl⟩;have afV:∀(W:World),W.heap[g]? = some (.cells cur1 e (0,0))→W.heap[g2]? = w.heap[g2]?→∀ty dc sc,(Builtin.copy_ #[t,t] ty #[.slice (some ⟨g,i*sz,none⟩) (n+1-i) dc,.slice (some ⟨g2,0,none⟩) 1 sc]).run P W=.ok (goInt 1) (W.setRow g cur3):=fun W hW hW2 ty dc sc=>by have:=jQ (P:=P) W t t ty e sz g (i*sz) (n+1-i) dc ⟨g2,0,none⟩ 1 sc cur1 e ys ht hz hW (by rw[Cp];simp only[Nat.min_def];split<;>omega) (fun j v hj=>by have:=Mi j v (by simpa using hj);simpa only[World.cell?,eT,hW2] using this) (by omega) h2;rw[this,QG];congr 2;simp only[Nat.min_def];split<;>omega
 have M3:cur3.size=cur.size:=by rw[QG];simp;omega
 have gR:cur3.toList.take ((n+1)*sz)=xs.take (i*sz)++(ys++xs.drop (i*sz)):=QF (sz:=sz) (cur1:=cur1.toList) (cur3:=cur3.toList) jR (by simp;omega) (by rw[Cp,m5]) (Nat.le_of_lt hi) (by rw[lR]) (by rw[QG]);exact⟨cur1,cur3,JN,afV (w.drew.setRow g cur1) (setRow_heap w.drew g cur _ e _ hg) (_root_.Go.setRow_other w.drew g g2 _ bq),M3,gR⟩
theorem tw{n i c:Nat}(hi:i<n)(dE:n+1≤c)(hc:c≤maxLen):(IntKind.i64.wrap ((i:Int)+1)=(i:Int)+1)∧(IntKind.i64.wrap ((n:Int)+1)=(n:Int)+1)∧((0:Int)≤(i:Int)+1)∧(i≤n)∧(((i:Int)+1).toNat=i+1)∧(¬(c=i+1))∧((i:Int)≤(n:Int)+1)∧(¬(c=i))∧(¬((i:Int)=(n:Int)))∧(¬((c:Int)<(n:Int)+1)):=by unfold maxLen at hc;exact⟨by rw[IntKind.wrap_i64];omega,by rw[IntKind.wrap_i64];omega,by omega,by omega,by omega,by omega,by omega,by omega,by omega,by omega⟩
theorem M4{α:Type}{row xs ys row2 row3:List α}{i n sz:Nat}(hA:row.take (i*sz)=xs.take (i*sz))(hl:(n+1)*sz≤row.length)(u9:xs.length=n*sz)(hy:ys.length=sz)(hi:i≤n) (h2:row2=row.take (i*sz)++ys++row.drop (i*sz+ys.length)) (h3:row3=row2.take ((i+1)*sz)++xs.drop (i*sz)++row2.drop ((i+1)*sz+(xs.drop (i*sz)).length)) :
  row3.take ((n+1)*sz)=xs.take (i*sz)++(ys++xs.drop (i*sz)):=by
 have Cq:i*sz≤n*sz:=adm _ hi;rw[Nat.add_mul,Nat.one_mul]at hl h3 ⊢;generalize i*sz=a at *;generalize n*sz=b at *;have e1:row2.take (a+1*sz)=xs.take a++ys:=by rw[h2,hA,Nat.one_mul];exact List.take_left' (by simp only[List.length_append,List.length_take];omega)
 rw[Nat.one_mul]at e1;rw[h3,e1];rw[List.take_left' (by simp only[List.length_append,List.length_take,List.length_drop];omega)];rw[List.append_assoc]
theorem wD{P:Program}{t e sz:Nat}{k:K}{i0:TypeInfo}{z0:Value}(hk:k.sz=sz)(h0:0<sz)(ht:P.underlying t=some (.slice e))(WW:P.underlying 3=some (.int .i64))(he:mN P e k i0 z0)(w:World)(g c g2 c2 n i:Nat)(xs ys:List Value)(cur c7:Array Value)(hg:w.heap[g]? = some (.cells cur e (0,0)))(iF:cur.size=c*sz)(jR:cur.toList.take (n*sz)=xs)(u9:xs.length=n*sz)(tO:w.heap[g2]? = some (.cells c7 e (0,0)))(mf:c7.size=c2*sz)(oa:0<c2)(kd:c7.toList.take (1*sz)=ys)(Cp:ys.length=1*sz)(bq:g2≠g)(hi:i<n)(xi:n≤c)(dE:c<n+1)(hm:n+1≤fz)(h1:∀q∈xs,q.oneCell'=true)(h2:∀q∈ys,q.oneCell'=true) :
  ∃(G:Nat) (rD row2 row3:Array Value) (W1:World),(∀ty,(Builtin.append_ #[t,3] ty #[.slice (some ⟨g,0,none⟩) i c,.int .i64 ((n:Int)+1-(i:Int))]).run P w=.ok (.slice (some ⟨w.heap.size,0,none⟩) (n+1) G) W1)∧W1.heap[w.heap.size]? = some (.cells rD e (0,0))∧(∀b,b<w.heap.size→W1.heap[b]? = w.heap[b]?)∧w.grownBy W1 none∧(∀(W:World),W.heap=W1.heap→∀ty dc sc,(Builtin.copy_ #[t,t] ty #[.slice (some ⟨w.heap.size,i*sz,none⟩) (n+1-i) dc,.slice (some ⟨g2,0,none⟩) 1 sc]).run P W=.ok (goInt 1) (W.setRow w.heap.size row2))∧(∀(W:World),W.heap=(W1.setRow w.heap.size row2).heap→∀ty dc sc,(Builtin.copy_ #[t,t] ty #[.slice (some ⟨w.heap.size,(i+1)*sz,none⟩) (n-i) dc,.slice (some ⟨g,i*sz,none⟩) (n-i) sc]).run P W=.ok (goInt (n-i:Nat)) (W.setRow w.heap.size row3))∧row3.size=G*sz∧n+1≤G∧G≤9223372036854775807∧row3.toList.take ((n+1)*sz)=xs.take (i*sz)++(ys++xs.drop (i*sz)):=by
 have FJ:z0.cells.size=sz:=he.xh.trans hk;have yF:i0.size=sz:=he.size.trans hk;have hz:(P.info? e).map (·.size)=some sz:=by rw[he.info];exact congrArg some yF
 have Hq:=he.bytes;have Mi:=tu (size:=sz) (n:=1) tO kd 0;have xj:=tu (size:=sz) (n:=n) hg jR (i*sz);have afW:=tu (size:=sz) (n:=n) hg jR 0;have hgl:g<w.heap.size:=(acV.1 hg).1;have afX:g2<w.heap.size:=(acV.1 tO).1;unfold fz at hm;have m1:(n+1)*sz=n*sz+sz:=ad4 ..;have m2:(i+1)*sz=i*sz+sz:=ad4 ..;have m3:(n-i)*sz=n*sz-i*sz:=Nat.sub_mul ..;have m4:(i+1)*sz≤n*sz:=adm _ hi;have m5:1*sz=sz:=Nat.one_mul _;have m6:(n+1-i)*sz=n*sz+sz-i*sz:=by rw[Nat.sub_mul,m1]
 have ot:(n+1)*i0.bytes≤140737488355328:=adk (Nat.mul_le_mul hm Hq) (by decide);have hold:(Builtin.firstCells i0.size i (.slice (some ⟨g,0,none⟩) i c)).run P w.drew=.ok (xs.take (i*sz)).toArray w.drew:=by
  rw[yF];exact run_firstCells_some w.drew sz i ⟨g,0,none⟩ i c (xs.take (i*sz)) (by rw[List.length_take];omega) (fun j v hj=>by
   rw[List.getElem?_take]at hj
   split at hj
   ·exact afW j v hj
   ·cases hj)
 obtain⟨G,hG⟩:∃G,G=grownCap w (n+1) c e:=⟨_,rfl⟩;obtain⟨rD,JO⟩:∃rD:Array Value,rD=(xs.take (i*sz)).toArray++Builtin.zeroCells z0.cells (n+1-i)++Builtin.zeroCells z0.cells (G-(n+1)):=⟨_,rfl⟩;have Zm:i+(n+1-i)=n+1:=by omega
 have SI:∀ty,(Builtin.append_ #[t,3] ty #[.slice (some ⟨g,0,none⟩) i c,.int .i64 ((n:Int)+1-(i:Int))]).run P w=.ok (.slice (some ⟨w.heap.size,0,none⟩) (n+1) G) (w.drew.alloc (.cells rD e)):=fun ty=>by have h:=Lib.run_append_grow_zeros w t 3 ty e i0 z0 .i64 .i64 ht WW he.info he.zero (some ⟨g,0,none⟩) i c (xs.take (i*sz)) hold (n+1-i) (by omega) (by omega) (by omega) (by omega) (adk (adm _ (show n+1-i≤n+1 by omega)) (by omega)) (by rw[Zm];exact growslice_fits dE ot);rw[Zm]at h;rw[show(n:Int)+1-(i:Int)=((n+1-i:Nat):Int) by omega,JO,hG];exact h
 have M5:n+1≤G:=by rw[hG];exact grownCap_ge w _ _ _
 have m7:(G-(n+1))*sz=G*sz-(n*sz+sz):=by rw[Nat.sub_mul,m1]
 have m8:(n+1)*sz≤G*sz:=adm _ M5;have E1:G≤9223372036854775807:=by have:=grownCap_le_maxLen w (n+1) c e (by unfold maxLen;omega);rw[←hG]at this;unfold maxLen at this;omega
 have hRs:rD.size=G*sz:=by rw[JO];simp[Builtin.zeroCells,FJ,List.length_take,u9];rw[Nat.min_eq_left (by omega)];omega
 have hRt:rD.toList.take (i*sz)=xs.take (i*sz):=by rw[JO];simp only[Array.toList_append,List.append_assoc];exact List.take_left' (by rw[List.length_take];omega)
 obtain⟨W1,Bv⟩:∃W1,W1=w.drew.alloc (.cells rD e):=⟨_,rfl⟩;have wE:W1.heap[w.heap.size]? = some (.cells rD e (0,0)):=by rw[Bv];exact(MapKept.heap_alloc w.drew (.cells rD e)).1
 have yu:∀b,b<w.heap.size→W1.heap[b]? = w.heap[b]? := fun b hb=>by rw[Bv];exact(Below.heap_alloc w.drew (.cells rD e) b hb).trans rfl
 have pR:w.grownBy W1 none:=⟨by rw[Bv];rfl,by rw[Bv];rfl,by rw[Bv];rfl,by have:=(acV.1 wE).1;omega,fun k hk _=>yu k hk⟩;obtain⟨row2,QH⟩:∃row2:Array Value,row2=(rD.toList.take (i*sz)++ys++rD.toList.drop (i*sz+ys.length)).toArray:=⟨_,rfl⟩;have JE:row2.size=rD.size:=by rw[QH];simp;omega
 have JP:∀(W:World),W.heap=W1.heap→∀ty dc sc,(Builtin.copy_ #[t,t] ty #[.slice (some ⟨w.heap.size,i*sz,none⟩) (n+1-i) dc,.slice (some ⟨g2,0,none⟩) 1 sc]).run P W=.ok (goInt 1) (W.setRow w.heap.size row2):=fun W hW ty dc sc=>by have:=jQ (P:=P) W t t ty e sz w.heap.size (i*sz) (n+1-i) dc ⟨g2,0,none⟩ 1 sc rD e ys ht hz (by rw[hW];exact wE) (by rw[Cp];simp only[Nat.min_def];split<;>omega) (fun j v hj=>by have:=Mi j v (by simpa using hj);simpa only[World.cell?,eT,hW,yu g2 afX] using this) (by omega) h2;rw[this,QH];congr 2;simp only[Nat.min_def];split<;>omega
 obtain⟨row3,QI⟩:∃row3:Array Value,row3=(row2.toList.take ((i+1)*sz)++xs.drop (i*sz)++row2.toList.drop ((i+1)*sz+(xs.drop (i*sz)).length)).toArray:=⟨_,rfl⟩;have N7:(xs.drop (i*sz)).length=(n-i)*sz:=by rw[List.length_drop,u9];omega
 have M3:row3.size=rD.size:=by rw[QI];simp;omega
 have JQ:∀(W:World),W.heap=(W1.setRow w.heap.size row2).heap→∀ty dc sc,(Builtin.copy_ #[t,t] ty #[.slice (some ⟨w.heap.size,(i+1)*sz,none⟩) (n-i) dc,.slice (some ⟨g,i*sz,none⟩) (n-i) sc]).run P W=.ok (goInt (n-i:Nat)) (W.setRow w.heap.size row3):=fun W hW ty dc sc=>by have:=jQ (P:=P) W t t ty e sz w.heap.size ((i+1)*sz) (n-i) dc ⟨g,i*sz,none⟩ (n-i) sc row2 e (xs.drop (i*sz)) ht hz (by rw[hW];exact setRow_heap W1 w.heap.size rD _ e _ wE) (by rw[N7];simp only[Nat.min_def];split<;>omega) (fun j v hj=>by have:=xj j v hj;simpa only[World.cell?,eT,hW,_root_.Go.setRow_other W1 w.heap.size g _ (Nat.ne_of_lt hgl),yu g hgl] using this) (by omega) (fun q hq=>h1 q (adF hq));rw[this,QI];congr 2;simp only[Nat.min_def];split<;>omega
 have gR:row3.toList.take ((n+1)*sz)=xs.take (i*sz)++(ys++xs.drop (i*sz)):=M4 (sz:=sz) (row:=rD.toList) (row2:=row2.toList) (row3:=row3.toList) hRt (by simp;omega) u9 (by rw[Cp,m5]) (by omega) (by rw[QH]) (by rw[QI]);rw[←Bv]at SI;exact⟨G,rD,row2,row3,W1,SI,wE,yu,pR,JP,JQ,by omega,M5,E1,gR⟩
theorem wF{n i c G:Nat}(hi:i<n)(xi:n≤c)(dE:c<n+1)(hm:n+1≤fz)(M5:n+1≤G):(IntKind.i64.wrap ((i:Int)+1)=(i:Int)+1)∧(IntKind.i64.wrap ((n:Int)+1)=(n:Int)+1)∧(IntKind.i64.wrap ((n:Int)+1-(i:Int))=(n:Int)+1-(i:Int))∧((0:Int)≤(i:Int)+1)∧(i≤n)∧(((i:Int)+1).toNat=i+1)∧(¬(G=i))∧(¬(G=i+1))∧(¬(c=i))∧((i:Int)≤(n:Int))∧(¬((i:Int)=(n:Int)))∧((c:Int)<(n:Int)+1):=by unfold fz at hm;exact⟨by rw[IntKind.wrap_i64];omega,by rw[IntKind.wrap_i64];omega,by rw[IntKind.wrap_i64];omega,by omega,by omega,by omega,by omega,by omega,by omega,by omega,by omega,by omega⟩
theorem JR{P:Program}{f:FuncId}{e:TypeId}{sz:Nat}(hE:EZ P f e sz)(hS:u7 P f e sz)(hG:yX P f e sz):Bu P f e sz:=fun w v u n i xs ys hv hu hi hm TG h1 h2=>by
 by_cases he:i=n
 ·subst he;refine(hE w v u i xs ys hv hu hm h2).mono fun en w' ⟨v',e1,e2,e3,e4⟩=>⟨v',e1,?_,e3,e4⟩;have hl:=hv.1;rw[List.take_of_length_le (by omega),List.drop_eq_nil_of_le (by omega),List.append_nil];exact e2
 ·have pN:i<n:=by omega
  have m1:(n+1)*sz=n*sz+sz:=ad4 ..;have m4:i*sz≤n*sz:=adm _ hi;have m5:1*sz=sz:=Nat.one_mul _;rcases hv.2 with⟨h0,_⟩|⟨g,c,cur,rfl,Vq,hg,xi,M6,iF,jR⟩
  ·omega
  rcases hu.2 with⟨h0,_⟩|⟨g2,c2,c7,rfl,aaS,tO,_,_,mf,kd⟩
  ·omega
  have mb:ob (.slice (some ⟨g,0,none⟩) n c)=some g:=by simp only[ob];rw[if_neg (by omega)]
  have afY:ob (.slice (some ⟨g2,0,none⟩) 1 c2)=some g2:=by simp only[ob];rw[if_neg (by omega)]
  have bq:g2≠g:=fun e=>TG g mb (by rw[afY,e]);by_cases dE:n+1≤c
  ·refine(hS w g c g2 c2 n i xs ys cur c7 hg iF jR hv.1 tO mf aaS kd hu.1 bq pN dE M6 h1 h2).mono fun en w' ⟨e1,iM,e2,e3,e4,e5⟩=>?_;refine⟨_,e1,⟨?_,.inr ⟨g,c,iM,rfl,Vq,e2,dE,M6,by rw[e3,iF],e4⟩⟩,by rw[mb];exact e5,.inl ?_⟩
   ·have hl:=hv.1;have vQ:=hu.1;simp only[List.length_append,List.length_take,List.length_drop];omega
   ·rw[mb];simp only[ob];rw[if_neg (by omega)]
  ·refine(hG w g c g2 c2 n i xs ys cur c7 hg iF jR hv.1 tO mf aaS kd hu.1 bq pN xi (by omega) hm h1 h2).mono fun en w' ⟨G,e1,iM,e2,e3,e4,e5,e6,e7⟩=>?_;refine⟨_,e1,⟨?_,.inr ⟨w.heap.size,G,iM,rfl,by omega,e2,e4,e5,e3,e6⟩⟩,by rw[mb];exact e7,.inr fun b hb=>?_⟩
   ·have hl:=hv.1;have vQ:=hu.1;simp only[List.length_append,List.length_take,List.length_drop];omega
   ·simp only[ob]at hb;rw[if_neg (by omega)]at hb;cases hb;omega
set_option maxHeartbeats 4000000 in
set_option maxRecDepth 100000 in
theorem JS:EZ Tryz.prog 176 52 5:=fun w v u n xs ys hv hu hm h1=>by
 have ht:Tryz.prog.underlying 38=some (.slice 52):=by kernel_rfl
 obtain⟨i0,z0,he⟩:=ct (P:=Tryz.prog) (e:=52) (k:=.pair (.pair (.int .i64) (.int .i64)) (.pair (.sl (.pair (.pair (.int .i64) (.int .i64)) (.int .i64))) (.pair .str (.int .i64)))) (by kernel_rfl);have vP:=E0 hu h1;obtain⟨v',w',dn,h4,h5,h6⟩:=dC (P:=Tryz.prog) (ty:=38) ht he hv vP hm;obtain⟨A,c,rfl⟩:=hv.slice;have xi:n≤c:=by
  rcases hv.2 with⟨h0,A,e⟩|⟨g,cap,cur,e,hc,h2,h3,_⟩
  ·omega
  ·cases e;exact h3
 obtain⟨B,cu,rfl⟩:=hu.slice;have aaT:n≤1073741824:=by unfold fz at hm;omega
 go_enter Tryz.func176,Tryz.ntmps176
 go_wp2_with (at_builtin;refine Lib.wpList_append_run _ rfl _ _ _ _ rfl _ _ rfl rfl _ _ dn ?_)
 all_goals go_ret
 all_goals first|exact⟨_,rfl,h4,h5,h6⟩|(subst_vars;exact⟨_,rfl,h4,h5,h6⟩)
set_option maxHeartbeats 4000000 in
set_option maxRecDepth 100000 in
theorem E2:u7 Tryz.prog 176 52 5:=fun w g c g2 c2 n i xs ys cur c7 hg iF jR u9 tO mf oa kd Cp bq hi dE hc h1 h2=>by
 have ht:Tryz.prog.underlying 38=some (.slice 52):=by kernel_rfl
 have hz:(Tryz.prog.info? 52).map (·.size)=some 5:=by kernel_rfl
 have yF:∀w,(Go.sizeOf 52).run Tryz.prog w=.ok 5 w:=fun w=>by
  cases hq:Tryz.prog.info? 52 with
  |none=>rw[hq]at hz;cases hz
  |some i=>rw[hq]at hz;simp at hz;simp[sizeOf,typeInfo,hq,hz]
 have SJ:∀a2 lb cb,(callFunc 209 #[.slice (some ⟨g2,0,none⟩) 1 c2,.slice (some ⟨g,a2,none⟩) lb cb]).run Tryz.prog w=.ok (.value (.bool false)) w:=fun a2 lb cb=>by rw[run_callFunc_extern Tryz.func209 (by kernel_rfl) (by kernel_rfl) (by kernel_rfl) (e:=Extern.SlicesOverlaps.overlaps #[38,38] #[4]) (by kernel_rfl),Lib.run_overlaps_apart w 38 4 52 ht 5 yF ⟨g2,0,none⟩ ⟨g,a2,none⟩ 1 c2 lb cb bq 52 52 c7.size cur.size (by simp[World.shape?,tO]) (by simp[World.shape?,hg]) (by omega) (by simp[World.frozen?,tO]) (by simp[World.frozen?,tO])];rfl
 obtain⟨cur1,cur3,JN,Hr,M3,gR⟩:=tv ht hz w g c g2 c2 n i xs ys cur c7 hg iF jR u9 tO mf oa kd Cp bq hi dE hc h1 h2;have h63:c≤9223372036854775807:=by unfold maxLen at hc;omega
 obtain⟨Jy,TH,TI,pN,WW,Cx,hb3,hb4,Cm,IK⟩:=tw hi dE hc;clear jR kd;have mixed:Tryz.prog.follows .mixedOrders=true:=by kernel_rfl
 go_enter Tryz.func176,Tryz.ntmps176
 go_wp2_with (simp only[SJ])
 go_region_law (go_loud (refine step_copy_runI rfl _ _ 38 38 rfl (.slice (some ⟨g,(i+1)*5,none⟩) (n-i) (c-(i+1))) (.slice (some ⟨g,i*5,none⟩) (n+1-i) (c-i)) (by simp[Act.eval,Act.put]) (by simp[Act.eval,Act.put]) (JN w.drew rfl 3 (c-(i+1)) (c-i)) ?_))
 go_wp2_with (simp only[Hr])
 go_ret
 refine⟨rfl,cur3,setRow_heap _ g cur1 _ 52 _ (setRow_heap w.drew g cur _ 52 _ hg),M3,gR,⟨rfl,rfl,rfl,by simp[World.setRow],fun k hk M7=>?_⟩⟩;have vF:k≠g:=fun e=>M7 (by rw[e]);rw[_root_.Go.setRow_other _ g k _ vF,_root_.Go.setRow_other _ g k _ vF];rfl
set_option maxHeartbeats 4000000 in
set_option maxRecDepth 100000 in
theorem Hs:yX Tryz.prog 176 52 5:=fun w g c g2 c2 n i xs ys cur c7 hg iF jR u9 tO mf oa kd Cp bq hi xi dE hm h1 h2=>by
 have ht:Tryz.prog.underlying 38=some (.slice 52):=by kernel_rfl
 obtain⟨i0,z0,he⟩:=ct (P:=Tryz.prog) (e:=52) (k:=.pair (.pair (.int .i64) (.int .i64)) (.pair (.sl (.pair (.pair (.int .i64) (.int .i64)) (.int .i64))) (.pair .str (.int .i64)))) (by kernel_rfl);obtain⟨G,rD,row2,row3,W1,SI,wE,yu,pR,JP,JQ,M3,M5,E1,gR⟩:=wD (sz:=5) rfl (by decide) ht (by kernel_rfl) he w g c g2 c2 n i xs ys cur c7 hg iF jR u9 tO mf oa kd Cp bq hi xi dE hm h1 h2;obtain⟨Jy,TH,hw3,TI,pN,aaW,hGi,aaX,hci,hb3,Cm,IK⟩:=wF hi xi dE hm M5;unfold fz at hm;clear jR kd;have mixed:Tryz.prog.follows .mixedOrders=true:=by kernel_rfl
 go_enter Tryz.func176,Tryz.ntmps176
 go_wp2_with (first
  |(at_builtin;refine Lib.wpList_append_run _ rfl _ _ _ _ rfl _ _ rfl rfl _ _ (SI _) ?_)
  |(at_builtin;refine wpList_copy_runI _ rfl _ _ 38 38 rfl _ _ rfl rfl (JP _ (by rfl) _ _ _) ?_))
 go_region_law (go_loud (refine step_copy_runI rfl _ _ 38 38 rfl (.slice (some ⟨w.heap.size,(i+1)*5,none⟩) (n-i) (G-(i+1))) (.slice (some ⟨g,i*5,none⟩) (n-i) (c-i)) (by simp[Act.eval,Act.put]) (by simp[Act.eval,Act.put]) (JQ (W1.setRow w.heap.size row2).drew rfl 3 (G-(i+1)) (c-i)) ?_))
 go_wp2
 go_ret
 refine⟨G,rfl,row3,setRow_heap _ w.heap.size row2 _ 52 _ (setRow_heap W1 w.heap.size rD _ 52 _ wE),by omega,M5,E1,gR,⟨pR.os,pR.tape,pR.output,by have:=pR.size;simpa[World.setRow] using this,fun k hk _=>?_⟩⟩;rw[_root_.Go.setRow_other _ w.heap.size k _ (Nat.ne_of_lt hk)];exact(_root_.Go.setRow_other W1 w.heap.size k _ (Nat.ne_of_lt hk)).trans (yu k hk)
theorem WX:Bu Tryz.prog 176 52 5:=JR JS E2 Hs
def JU(P:Program)(f:FuncId)(e:TypeId)(size:Nat):Prop :=∀(w:World) (v:Value) (n i j:Nat) (xs:List Value),dS w e size v n xs→i<j→j≤n→n≤fz→(∀q∈xs,q.oneCell'=true) → Calls P f #[v,.int .i64 i,.int .i64 j] w fun en w'=>∃v',en=.returned v'∧dS w' e size v' (i+(n-j)) (xs.take (i*size)++xs.drop (j*size))∧w.grownBy w' (ob v)∧ob v'=ob v
theorem gY{P:Program}{ops:Array Oper}{o:Oper}{a:Act}{w:World}{K:Act→World→Prop}{Q:Exit→Act→World→Prop}{E:Prop} (hg:o.guard=none) (d x:Operand) (dT sT:TypeId) (EC:o.op=Op.call { callee:=Callee.builtin Builtin.append,args:=#[d,x],argTypes:=#[dT,sT] }) (v u:Value) (hd:a.eval d=v) (hx:a.eval x=u) {v':Value} {w':World} (hr:(Builtin.append_ #[dT,sT] o.type #[v,u]).run P w=.ok v' w') (hK:K (a.put o.dst v') w') :
  if Region.wanted o (yielded ops a.tmps)=true then Oper.wp P o a w K Q else E:=by
 have hw:Region.wanted o (yielded ops a.tmps)=true:=by simp[Region.wanted,hg]
 rw[if_pos hw];unfold Oper.wp;simp[execOp,EC,resolve,invoke,builtin,hd,hx,hr,Result.andThen];exact hK
theorem Ht{α:Type}{cur xs cur1 c7 zs:List α}{i j n sz:Nat}(jR:cur.take (n*sz)=xs)(hl:n*sz≤cur.length)(zZ:i≤j)(NZ:j≤n) (h1:cur1=cur.take (i*sz)++xs.drop (j*sz)++cur.drop (i*sz+(xs.drop (j*sz)).length)) (h2:c7=cur1.take ((i+(n-j))*sz)++zs++cur1.drop ((i+(n-j))*sz+zs.length)) :
  c7.take ((i+(n-j))*sz)=xs.take (i*sz)++xs.drop (j*sz):=by
 have ha:i*sz≤j*sz:=adm _ zZ;have hb:j*sz≤n*sz:=adm _ NZ;rw[Nat.add_mul,Nat.sub_mul]at h2 ⊢;have u9:xs.length=n*sz:=by rw[←jR,List.length_take];omega
 generalize i*sz=a at *;generalize j*sz=b at *;generalize n*sz=c at *;have e0:cur.take a=xs.take a:=by rw[←jR,List.take_take];congr 1;omega
 have e1:cur1.take (a+(c-b))=xs.take a++xs.drop b:=by rw[h1,e0];exact List.take_left' (by simp only[List.length_append,List.length_take,List.length_drop];omega)
 rw[h2,e1,List.append_assoc];exact List.take_left' (by simp only[List.length_append,List.length_take,List.length_drop];omega)
set_option maxHeartbeats 4000000 in
set_option maxRecDepth 100000 in
theorem Hu(w:World)(g c n i j X:Nat)(xs:List Value)(cur:Array Value)(hg:w.heap[g]? = some (.cells cur 52 (0,0)))(iF:cur.size=c*5)(jR:cur.toList.take (n*5)=xs)(u9:xs.length=n*5) (zZ:i<j) (NZ:j≤n) (xi:n≤c) (hc:c≤maxLen) (hX:if c=j then X=0 else X=j*5)
  (h1:∀q∈xs,q.oneCell'=true) :
  Calls Tryz.prog 177 #[.slice (some ⟨g,0,none⟩) n c,.int .i64 i,.int .i64 j] w fun en w'=>en=.returned (.slice (some ⟨g,0,none⟩) (i+(n-j)) c) ∧ ∃iM:Array Value,w'.heap[g]? = some (.cells iM 52 (0,0))∧iM.size=cur.size∧iM.toList.take ((i+(n-j))*5)=xs.take (i*5)++xs.drop (j*5)∧w.grownBy w' (some g):=by
 have ht:Tryz.prog.underlying 38=some (.slice 52):=by kernel_rfl
 have hz:(Tryz.prog.info? 52).map (·.size)=some 5:=by kernel_rfl
 obtain⟨zs,yF⟩:∃zs,zr Tryz.prog 52=some zs:=adi.1 (by kernel_rfl);obtain⟨i0,z0,TJ,S5,rfl,xl⟩:=ou yF;obtain⟨i1,z1,he⟩:=ct (P:=Tryz.prog) (e:=52) (k:=.pair (.pair (.int .i64) (.int .i64)) (.pair (.sl (.pair (.pair (.int .i64) (.int .i64)) (.int .i64))) (.pair .str (.int .i64)))) (by kernel_rfl);have ei:i1=i0:=by have:=he.info;rw[TJ]at this;cases this;rfl
 subst ei;have ez:z1=z0:=by have:=he.zero;rw[S5]at this;cases this;rfl
 subst ez;have FJ:z1.cells.size=5:=he.xh;clear he yF;have N7:(xs.drop (j*5)).length=(n-j)*5:=by rw[List.length_drop,u9];omega
 obtain⟨cur1,lR⟩:∃cur1:Array Value,cur1=(cur.toList.take (i*5)++xs.drop (j*5)++cur.toList.drop (i*5+(xs.drop (j*5)).length)).toArray:=⟨_,rfl⟩;have IV:cur1.size=cur.size:=by rw[lR];simp;omega
 have TG:∀ty sc,(Builtin.append_ #[38,38] ty #[.slice (some ⟨g,0,none⟩) i c,.slice (some ⟨g,X,none⟩) (n-j) sc]).run Tryz.prog w.drew=.ok (.slice (some ⟨g,0,none⟩) (i+(n-j)) c) (w.drew.setRow g cur1):=fun ty sc=>by
  by_cases M8:c=j
  ·have hnj:n=j:=by omega
   have:n-j=0:=by omega
   rw[this]at N7 ⊢;have F3:xs.drop (j*5)=[]:=adh (by omega);rw[eU ht TJ _ _ _ (by omega) _ _,lR,F3];simp only[List.append_nil,List.length_nil,Nat.add_zero,List.take_append_drop,Array.toArray_toList];rw[setRow_self w.drew g cur 52 (0,0) hg]
  ·rw[if_neg M8]at hX;subst hX;rw[lR];exact nK (P:=Tryz.prog) w.drew 38 ty 52 5 g i c ⟨g,j*5,none⟩ (n-j) sc cur (xs.drop (j*5)) ht hz hg N7 (tu (size:=5) (n:=n) (w:=w.drew) hg jR (j*5)) (fun q hq=>h1 q (adF hq)) (by omega) (by omega)
 obtain⟨c7,vc⟩:∃c7:Array Value,c7=(cur1.toList.take ((i+(n-j))*5)++(Builtin.zeroCells z1.cells (j-i)).toList++cur1.toList.drop ((i+(n-j))*5+(Builtin.zeroCells z1.cells (j-i)).toList.length)).toArray:=⟨_,rfl⟩;have Ys:(Builtin.zeroCells z1.cells (j-i)).toList.length=(j-i)*5:=by simp[Builtin.zeroCells,FJ]
 have JE:c7.size=cur.size:=by rw[vc];simp[Ys];omega
 have rU:∀ty sc,(Builtin.clear_ #[38] ty #[.slice (some ⟨g,(i+(n-j))*5,none⟩) (n-(i+(n-j))) sc]).run Tryz.prog (w.drew.setRow g cur1)=.ok (.tuple #[]) ((w.drew.setRow g cur1).setRow g c7):=fun ty sc=>by have:=qG (P:=Tryz.prog) (w.drew.setRow g cur1) 38 ty 52 5 g ((i+(n-j))*5) (j-i) sc cur1 i1 z1 ht TJ S5 FJ xl (setRow_heap w.drew g cur _ 52 _ hg) (by omega) (by omega);rw[show n-(i+(n-j))=j-i by omega,this,vc]
 have gR:c7.toList.take ((i+(n-j))*5)=xs.take (i*5)++xs.drop (j*5):=Ht (cur1:=cur1.toList) jR (by simp;omega) (by omega) NZ (by rw[lR]) (by rw[vc]);clear lR vc jR N7;have h63:c≤9223372036854775807:=by unfold maxLen at hc;omega
 have pN:i≤n:=by omega
 have hic:¬(c=i):=by omega
 have hjc:j≤c:=by omega
 have bq:¬((i:Int)=(j:Int)):=by omega
 have oc:i≤j:=by omega
 have afZ:i≤c:=by omega
 have af0:i+(n-j)≤n:=by omega
 have af1:i+(n-j)≤c:=by omega
 have af2:¬(c=i+(n-j)):=by omega
 have af3:(i:Int)+((n-j:Nat):Int)≤(n:Int):=by omega
 have mixed:Tryz.prog.follows .mixedOrders=true:=by kernel_rfl
 by_cases M8:c=j
 ·rw[if_pos M8]at hX;subst hX;subst M8;obtain rfl:n=c:=by omega
  simp only[Nat.sub_self,Nat.add_zero]at TG rU gR ⊢
  go_enter Tryz.func177,Tryz.ntmps177
  go_wp2_with fail
  go_region_law (go_loud (refine gY rfl _ _ 38 38 rfl (.slice (some ⟨g,0,none⟩) i n) (.slice (some ⟨g,0,none⟩) 0 0) (by simp[Act.eval,Act.put]) (by simp[Act.eval,Act.put]) (TG 38 0) ?_))
  go_wp2_with (simp only[rU])
  go_ret
  refine⟨rfl,c7,setRow_heap _ g cur1 _ 52 _ (setRow_heap w.drew g cur _ 52 _ hg),JE,gR,⟨rfl,rfl,rfl,by simp[World.setRow],fun k hk M7=>?_⟩⟩;have vF:k≠g:=fun e=>M7 (by rw[e]);rw[_root_.Go.setRow_other _ g k _ vF,_root_.Go.setRow_other _ g k _ vF];rfl
 ·rw[if_neg M8]at hX;subst hX
  go_enter Tryz.func177,Tryz.ntmps177
  go_wp2_with fail
  go_region_law (go_loud (refine gY rfl _ _ 38 38 rfl (.slice (some ⟨g,0,none⟩) i c) (.slice (some ⟨g,j*5,none⟩) (n-j) (c-j)) (by simp[Act.eval,Act.put]) (by simp[Act.eval,Act.put]) (TG 38 (c-j)) ?_))
  go_wp2_with (simp only[rU])
  go_ret
  refine⟨rfl,c7,setRow_heap _ g cur1 _ 52 _ (setRow_heap w.drew g cur _ 52 _ hg),JE,gR,⟨rfl,rfl,rfl,by simp[World.setRow],fun k hk M7=>?_⟩⟩;have vF:k≠g:=fun e=>M7 (by rw[e]);rw[_root_.Go.setRow_other _ g k _ vF,_root_.Go.setRow_other _ g k _ vF];rfl
theorem WY:JU Tryz.prog 177 52 5:=fun w v n i j xs hv zZ NZ hm h1=>by
 rcases hv.2 with⟨h0,_⟩|⟨g,c,cur,rfl,Vq,hg,xi,M6,iF,jR⟩
 ·omega
 have mb:ob (.slice (some ⟨g,0,none⟩) n c)=some g:=by simp only[ob];rw[if_neg (by omega)]
 refine(Hu w g c n i j (if c=j then 0 else j*5) xs cur hg iF jR hv.1 zZ NZ xi M6 (by split<;>rfl) h1).mono fun en w' ⟨e1,iM,e2,e3,e4,e5⟩=>?_;refine⟨_,e1,⟨?_,.inr ⟨g,c,iM,rfl,Vq,e2,by omega,M6,by rw[e3,iF],e4⟩⟩,by rw[mb];exact e5,?_⟩
 ·have hl:=hv.1;simp only[List.length_append,List.length_take,List.length_drop];omega
 ·rw[mb];simp only[ob];rw[if_neg (by omega)]
end Go.Vs
namespace Go.Vs
open Go.Proofs
variable {P:Program}
theorem Bw{Z:Nat→Prop}{w:World}{k:K}{xs:List k.T}{vs:List Value}(hv:mK Z w k xs vs)(hl:vs.length=xs.length*k.sz):∀q∈vs,q.oneCell'=true:=fun q hq=>by
 obtain⟨p,hp⟩:=adJ hq;have aF:p<vs.length:=(ack.1 hp).1;have hs:=k.hM;have hd:p / k.sz<xs.length:=Nat.div_lt_of_lt_mul (by rw[Nat.mul_comm];omega);have hr:=hv (p / k.sz) _ (aci hd);refine hr.one q ?_;have hm:=Nat.mod_add_div p k.sz;have hml:=adU p hs;have:((vs.drop (p / k.sz*k.sz)).take k.sz)[p%k.sz]? = some q:=by rw[List.getElem?_take,if_pos hml,List.getElem?_drop,Nat.mul_comm,Nat.add_comm,hm,hp]
 exact adj this
theorem DI{Z:Nat→Prop}{w:World}{k:K}{xs:List k.T}{vs:List Value}(hv:mK Z w k xs vs)(n:Nat):mK Z w k (xs.take n) (vs.take (n*k.sz)):=fun i x hx=>by
 rw[List.getElem?_take]at hx
 split at hx
 ·rename_i hi;have:=hv i x hx;have e:((vs.take (n*k.sz)).drop (i*k.sz)).take k.sz=(vs.drop (i*k.sz)).take k.sz:=by rw[List.drop_take,List.take_take];congr 1;have:(i+1)*k.sz≤n*k.sz:=adm _ hi;rw[Nat.add_mul]at this;omega
  rw[e];exact this
 ·cases hx
theorem DJ{Z:Nat→Prop}{w:World}{k:K}{xs:List k.T}{vs:List Value}(hv:mK Z w k xs vs)(n:Nat):mK Z w k (xs.drop n) (vs.drop (n*k.sz)):=fun i x hx=>by rw[List.getElem?_drop]at hx;have:=hv (n+i) x hx;rw[List.drop_drop,←Nat.add_mul];exact this
theorem tx{f:FuncId}{ty:TypeId}{k:K}(hr:Bu P f ty k.sz):fE P f (Oi ty k):=by
 intro Z ψ h w B0 O N hh id e vs us g hB bu hN bf me ns Co he;unfold Oi at he
 split at he
 rotate_left
 ·cases he
 rename_i o i j
 split at he
 rotate_left
 ·cases he
 rename_i xs ys xj Mi
 split at he
 ·cases he
 rename_i hoj;simp only[Option.some.injEq,Prod.mk.injEq]at he;obtain⟨lu,rfl⟩:=he;have hhg:hh.get=h:=me _ _ rfl;have SK:hh.get o=some (.own (.row ty k) xs):=jy xj;have hgj:hh.get j=some (.own (.row ty k) ys):=jy Mi;simp only[ak,av]at ns;obtain⟨v,_,rfl,⟨_,hv⟩,n,_,rfl,rfl,u,_,rfl,⟨_,hu⟩,rfl⟩:=ns;simp only[p6,Bool.and_eq_true,decide_eq_true_eq,aK]at lu;obtain⟨h0,h1,h2,h3⟩:=lu;obtain⟨m,rfl⟩:∃m:Nat,i=m:=⟨i.toNat,by omega⟩;subst hhg;have hvo:v=ψ o:=hv (by rw[SK];simp);have huj:u=ψ j:=hu (by rw[hgj];simp);obtain⟨vs,KX,uj⟩:=g.row o (.row ty k) xs SK;obtain⟨iq,Lk,xg⟩:=g.row j (.row ty k) ys hgj;simp only[ax,aE]at Co;have bL:N id:=hN 0 (by omega);have bq:o≠id:=fun e=>Co.1 (e▸bL);rw[h2]at Lk;subst hvo;subst huj;refine(hr w _ _ xs.length m vs iq KX Lk (by omega) (by omega) (fun b hb Cx=>hoj (g.apart o j b (by rw[SK];simp) (by rw[hgj];simp) hb Cx)) (Bw uj KX.1) (Bw xg (by rw[Lk.1,h2]))).mono fun en w' ⟨v',e1,e2,e3,e4⟩=>?_;have kk:cV ψ hh.get w w':=cV.grown e3 (fun b e=>⟨o,by rw[SK];simp,e⟩);have sm:=kk.same g;have hlen:(fO xs (m:Int) ys).length=xs.length+1:=by simp only[fO,Int.toNat_natCast,List.length_append,List.length_take,List.length_drop];omega
 have htl:(vs.take (m*k.sz)).length=(xs.take m).length*k.sz:=by have:m*k.sz≤xs.length*k.sz:=adm _ (by omega);rw[List.length_take,List.length_take,KX.1,Nat.min_eq_left this,Nat.min_eq_left (by omega)]
 have nr:mK Z w k (fO xs (m:Int) ys) (vs.take (m*k.sz)++(iq++vs.drop (m*k.sz))):=(DI uj m).append (xg.append (DJ uj m) (by rw[Lk.1,h2])) htl;have Dh:=qk (N:=N) g hB id o bL SK bq e3 (v:=v') (ok:=.row ty k) (y:=fO xs m ys) ⟨_,by rw[hlen];exact e2,nr.FZ sm⟩ e4 (fun i ty cs hb=>ax.imp (p:=fun i=>¬N i) (q:=fun i=>i≠id) (fun a ha e=>ha (by rw[e];exact bL)) (bf i ty cs hb));have hhp:Heap.get ((id,Ob.own (.row ty k) (fO xs (m:Int) ys))::hh.del o)=dA (dA hh.get o none) id (some (.own (.row ty k) (fO xs m ys))):=by rw[zR,uf]
 refine⟨v',Z,dA ψ id v',e1,?_,?_⟩
 ·show Next Z ψ hh.get w B0 O N Z (dA ψ id v') (Heap.get ((id,Ob.own (.row ty k) (fO xs (m:Int) ys))::hh.del o)) w';rw[hhp];exact Dh
 ·simp only[bE.v,av];exact⟨e2.one,fun _=>(bg _ _ _).symm⟩
theorem Bx{f:FuncId}{ty:TypeId}{k:K}(hr:JU P f ty k.sz):fE P f (SS ty k):=by
 intro Z ψ h w B0 O N hh id e vs us g hB bu hN bf me ns Co he;unfold SS at he
 split at he
 rotate_left
 ·cases he
 rename_i o i j
 split at he
 rotate_left
 ·cases he
 rename_i xs xj;simp only[Option.some.injEq,Prod.mk.injEq]at he;obtain⟨lu,rfl⟩:=he;have hhg:hh.get=h:=me _ _ rfl;have SK:hh.get o=some (.own (.row ty k) xs):=jy xj;simp only[ak,av]at ns;obtain⟨v,_,rfl,⟨_,hv⟩,n,_,rfl,rfl,u,_,rfl,rfl,rfl⟩:=ns;simp only[jl,Bool.and_eq_true,decide_eq_true_eq,aK]at lu;obtain⟨h0,h1,h2,h3⟩:=lu;obtain⟨m,rfl⟩:∃m:Nat,i=m:=⟨i.toNat,by omega⟩;obtain⟨q,rfl⟩:∃m:Nat,j=m:=⟨j.toNat,by omega⟩;subst hhg;have hvo:v=ψ o:=hv (by rw[SK];simp);obtain⟨vs,KX,uj⟩:=g.row o (.row ty k) xs SK;simp only[ax,aE]at Co;have bL:N id:=hN 0 (by omega);have bq:o≠id:=fun e=>Co.1 (e▸bL);subst hvo;refine(hr w _ xs.length m q vs KX (by omega) (by omega) (by omega) (Bw uj KX.1)).mono fun en w' ⟨v',e1,e2,e3,e4⟩=>?_;have kk:cV ψ hh.get w w':=cV.grown e3 (fun b e=>⟨o,by rw[SK];simp,e⟩);have sm:=kk.same g;have hlen:(dm xs (m:Int) q).length=m+(xs.length-q):=by simp only[dm,Int.toNat_natCast,List.length_append,List.length_take,List.length_drop];omega
 have htl:(vs.take (m*k.sz)).length=(xs.take m).length*k.sz:=by have:m*k.sz≤xs.length*k.sz:=adm _ (by omega);rw[List.length_take,List.length_take,KX.1,Nat.min_eq_left this,Nat.min_eq_left (by omega)]
 have nr:mK Z w k (dm xs (m:Int) q) (vs.take (m*k.sz)++vs.drop (q*k.sz)):=(DI uj m).append (DJ uj q) htl;have Dh:=qk (N:=N) g hB id o bL SK bq e3 (v:=v') (ok:=.row ty k) (y:=dm xs m q) ⟨_,by rw[hlen];exact e2,nr.FZ sm⟩ (.inl e4) (fun i ty cs hb=>ax.imp (p:=fun i=>¬N i) (q:=fun i=>i≠id) (fun a ha e=>ha (by rw[e];exact bL)) (bf i ty cs hb));have hhp:Heap.get ((id,Ob.own (.row ty k) (dm xs (m:Int) q))::hh.del o)=dA (dA hh.get o none) id (some (.own (.row ty k) (dm xs m q))):=by rw[zR,uf]
 refine⟨v',Z,dA ψ id v',e1,?_,?_⟩
 ·show Next Z ψ hh.get w B0 O N Z (dA ψ id v') (Heap.get ((id,Ob.own (.row ty k) (dm xs (m:Int) q))::hh.del o)) w';rw[hhp];exact Dh
 ·simp only[bE.v,av];exact⟨e2.one,fun _=>(bg _ _ _).symm⟩
end Go.Vs
namespace Go.Vs
open Go.Proofs Go.RowKit
set_option maxHeartbeats 4000000 in
set_option maxRecDepth 100000 in
theorem JV:EZ Tryz.prog 211 118 4:=fun w v u n xs ys hv hu hm h1=>by
 have ht:Tryz.prog.underlying 39=some (.slice 118):=by kernel_rfl
 obtain⟨i0,z0,he⟩:=ct (P:=Tryz.prog) (e:=118) (k:=.pair (.pair (.int .i64) (.int .i64)) (.pair .str (.int .i64))) (by kernel_rfl);have vP:=E0 hu h1;obtain⟨v',w',dn,h4,h5,h6⟩:=dC (P:=Tryz.prog) (ty:=39) ht he hv vP hm;obtain⟨A,c,rfl⟩:=hv.slice;have xi:n≤c:=by
  rcases hv.2 with⟨h0,A,e⟩|⟨g,cap,cur,e,hc,h2,h3,_⟩
  ·omega
  ·cases e;exact h3
 obtain⟨B,cu,rfl⟩:=hu.slice;have aaT:n≤1073741824:=by unfold fz at hm;omega
 go_enter Tryz.func211,Tryz.ntmps211
 go_wp2_with (at_builtin;refine Lib.wpList_append_run _ rfl _ _ _ _ rfl _ _ rfl rfl _ _ dn ?_)
 all_goals go_ret
 all_goals first|exact⟨_,rfl,h4,h5,h6⟩|(subst_vars;exact⟨_,rfl,h4,h5,h6⟩)
set_option maxHeartbeats 4000000 in
set_option maxRecDepth 100000 in
theorem E3:u7 Tryz.prog 211 118 4:=fun w g c g2 c2 n i xs ys cur c7 hg iF jR u9 tO mf oa kd Cp bq hi dE hc h1 h2=>by
 have ht:Tryz.prog.underlying 39=some (.slice 118):=by kernel_rfl
 have hz:(Tryz.prog.info? 118).map (·.size)=some 4:=by kernel_rfl
 have yF:∀w,(Go.sizeOf 118).run Tryz.prog w=.ok 4 w:=fun w=>by
  cases hq:Tryz.prog.info? 118 with
  |none=>rw[hq]at hz;cases hz
  |some i=>rw[hq]at hz;simp at hz;simp[sizeOf,typeInfo,hq,hz]
 have SJ:∀a2 lb cb,(callFunc 228 #[.slice (some ⟨g2,0,none⟩) 1 c2,.slice (some ⟨g,a2,none⟩) lb cb]).run Tryz.prog w=.ok (.value (.bool false)) w:=fun a2 lb cb=>by rw[run_callFunc_extern Tryz.func228 (by kernel_rfl) (by kernel_rfl) (by kernel_rfl) (e:=Extern.SlicesOverlaps.overlaps #[39,39] #[4]) (by kernel_rfl),Lib.run_overlaps_apart w 39 4 118 ht 4 yF ⟨g2,0,none⟩ ⟨g,a2,none⟩ 1 c2 lb cb bq 118 118 c7.size cur.size (by simp[World.shape?,tO]) (by simp[World.shape?,hg]) (by omega) (by simp[World.frozen?,tO]) (by simp[World.frozen?,tO])];rfl
 obtain⟨cur1,cur3,JN,Hr,M3,gR⟩:=tv ht hz w g c g2 c2 n i xs ys cur c7 hg iF jR u9 tO mf oa kd Cp bq hi dE hc h1 h2;have h63:c≤9223372036854775807:=by unfold maxLen at hc;omega
 obtain⟨Jy,TH,TI,pN,WW,Cx,hb3,hb4,Cm,IK⟩:=tw hi dE hc;clear jR kd;have mixed:Tryz.prog.follows .mixedOrders=true:=by kernel_rfl
 go_enter Tryz.func211,Tryz.ntmps211
 go_wp2_with (simp only[SJ])
 go_region_law (go_loud (refine step_copy_runI rfl _ _ 39 39 rfl (.slice (some ⟨g,(i+1)*4,none⟩) (n-i) (c-(i+1))) (.slice (some ⟨g,i*4,none⟩) (n+1-i) (c-i)) (by simp[Act.eval,Act.put]) (by simp[Act.eval,Act.put]) (JN w.drew rfl 3 (c-(i+1)) (c-i)) ?_))
 go_wp2_with (simp only[Hr])
 go_ret
 refine⟨rfl,cur3,setRow_heap _ g cur1 _ 118 _ (setRow_heap w.drew g cur _ 118 _ hg),M3,gR,⟨rfl,rfl,rfl,by simp[World.setRow],fun k hk M7=>?_⟩⟩;have vF:k≠g:=fun e=>M7 (by rw[e]);rw[_root_.Go.setRow_other _ g k _ vF,_root_.Go.setRow_other _ g k _ vF];rfl
set_option maxHeartbeats 4000000 in
set_option maxRecDepth 100000 in
theorem Hv:yX Tryz.prog 211 118 4:=fun w g c g2 c2 n i xs ys cur c7 hg iF jR u9 tO mf oa kd Cp bq hi xi dE hm h1 h2=>by
 have ht:Tryz.prog.underlying 39=some (.slice 118):=by kernel_rfl
 obtain⟨i0,z0,he⟩:=ct (P:=Tryz.prog) (e:=118) (k:=.pair (.pair (.int .i64) (.int .i64)) (.pair .str (.int .i64))) (by kernel_rfl);obtain⟨G,rD,row2,row3,W1,SI,wE,yu,pR,JP,JQ,M3,M5,E1,gR⟩:=wD (sz:=4) rfl (by decide) ht (by kernel_rfl) he w g c g2 c2 n i xs ys cur c7 hg iF jR u9 tO mf oa kd Cp bq hi xi dE hm h1 h2;obtain⟨Jy,TH,hw3,TI,pN,aaW,hGi,aaX,hci,hb3,Cm,IK⟩:=wF hi xi dE hm M5;unfold fz at hm;clear jR kd;have mixed:Tryz.prog.follows .mixedOrders=true:=by kernel_rfl
 go_enter Tryz.func211,Tryz.ntmps211
 go_wp2_with (first
  |(at_builtin;refine Lib.wpList_append_run _ rfl _ _ _ _ rfl _ _ rfl rfl _ _ (SI _) ?_)
  |(at_builtin;refine wpList_copy_runI _ rfl _ _ 39 39 rfl _ _ rfl rfl (JP _ (by rfl) _ _ _) ?_))
 go_region_law (go_loud (refine step_copy_runI rfl _ _ 39 39 rfl (.slice (some ⟨w.heap.size,(i+1)*4,none⟩) (n-i) (G-(i+1))) (.slice (some ⟨g,i*4,none⟩) (n-i) (c-i)) (by simp[Act.eval,Act.put]) (by simp[Act.eval,Act.put]) (JQ (W1.setRow w.heap.size row2).drew rfl 3 (G-(i+1)) (c-i)) ?_))
 go_wp2
 go_ret
 refine⟨G,rfl,row3,setRow_heap _ w.heap.size row2 _ 118 _ (setRow_heap W1 w.heap.size rD _ 118 _ wE),by omega,M5,E1,gR,⟨pR.os,pR.tape,pR.output,by have:=pR.size;simpa[World.setRow] using this,fun k hk _=>?_⟩⟩;rw[_root_.Go.setRow_other _ w.heap.size k _ (Nat.ne_of_lt hk)];exact(_root_.Go.setRow_other W1 w.heap.size k _ (Nat.ne_of_lt hk)).trans (yu k hk)
theorem WZ:Bu Tryz.prog 211 118 4:=JR JV E3 Hv
set_option maxHeartbeats 4000000 in
set_option maxRecDepth 100000 in
theorem Hw(w:World)(g c n i j X:Nat)(xs:List Value)(cur:Array Value)(hg:w.heap[g]? = some (.cells cur 118 (0,0)))(iF:cur.size=c*4)(jR:cur.toList.take (n*4)=xs)(u9:xs.length=n*4) (zZ:i<j) (NZ:j≤n) (xi:n≤c) (hc:c≤maxLen) (hX:if c=j then X=0 else X=j*4)
  (h1:∀q∈xs,q.oneCell'=true) :
  Calls Tryz.prog 186 #[.slice (some ⟨g,0,none⟩) n c,.int .i64 i,.int .i64 j] w fun en w'=>en=.returned (.slice (some ⟨g,0,none⟩) (i+(n-j)) c) ∧ ∃iM:Array Value,w'.heap[g]? = some (.cells iM 118 (0,0))∧iM.size=cur.size∧iM.toList.take ((i+(n-j))*4)=xs.take (i*4)++xs.drop (j*4)∧w.grownBy w' (some g):=by
 have ht:Tryz.prog.underlying 39=some (.slice 118):=by kernel_rfl
 have hz:(Tryz.prog.info? 118).map (·.size)=some 4:=by kernel_rfl
 obtain⟨zs,yF⟩:∃zs,zr Tryz.prog 118=some zs:=adi.1 (by kernel_rfl);obtain⟨i0,z0,TJ,S5,rfl,xl⟩:=ou yF;obtain⟨i1,z1,he⟩:=ct (P:=Tryz.prog) (e:=118) (k:=.pair (.pair (.int .i64) (.int .i64)) (.pair .str (.int .i64))) (by kernel_rfl);have ei:i1=i0:=by have:=he.info;rw[TJ]at this;cases this;rfl
 subst ei;have ez:z1=z0:=by have:=he.zero;rw[S5]at this;cases this;rfl
 subst ez;have FJ:z1.cells.size=4:=he.xh;clear he yF;have N7:(xs.drop (j*4)).length=(n-j)*4:=by rw[List.length_drop,u9];omega
 obtain⟨cur1,lR⟩:∃cur1:Array Value,cur1=(cur.toList.take (i*4)++xs.drop (j*4)++cur.toList.drop (i*4+(xs.drop (j*4)).length)).toArray:=⟨_,rfl⟩;have IV:cur1.size=cur.size:=by rw[lR];simp;omega
 have TG:∀ty sc,(Builtin.append_ #[39,39] ty #[.slice (some ⟨g,0,none⟩) i c,.slice (some ⟨g,X,none⟩) (n-j) sc]).run Tryz.prog w.drew=.ok (.slice (some ⟨g,0,none⟩) (i+(n-j)) c) (w.drew.setRow g cur1):=fun ty sc=>by
  by_cases M8:c=j
  ·have hnj:n=j:=by omega
   have:n-j=0:=by omega
   rw[this]at N7 ⊢;have F3:xs.drop (j*4)=[]:=adh (by omega);rw[eU ht TJ _ _ _ (by omega) _ _,lR,F3];simp only[List.append_nil,List.length_nil,Nat.add_zero,List.take_append_drop,Array.toArray_toList];rw[setRow_self w.drew g cur 118 (0,0) hg]
  ·rw[if_neg M8]at hX;subst hX;rw[lR];exact nK (P:=Tryz.prog) w.drew 39 ty 118 4 g i c ⟨g,j*4,none⟩ (n-j) sc cur (xs.drop (j*4)) ht hz hg N7 (tu (size:=4) (n:=n) (w:=w.drew) hg jR (j*4)) (fun q hq=>h1 q (adF hq)) (by omega) (by omega)
 obtain⟨c7,vc⟩:∃c7:Array Value,c7=(cur1.toList.take ((i+(n-j))*4)++(Builtin.zeroCells z1.cells (j-i)).toList++cur1.toList.drop ((i+(n-j))*4+(Builtin.zeroCells z1.cells (j-i)).toList.length)).toArray:=⟨_,rfl⟩;have Ys:(Builtin.zeroCells z1.cells (j-i)).toList.length=(j-i)*4:=by simp[Builtin.zeroCells,FJ]
 have JE:c7.size=cur.size:=by rw[vc];simp[Ys];omega
 have rU:∀ty sc,(Builtin.clear_ #[39] ty #[.slice (some ⟨g,(i+(n-j))*4,none⟩) (n-(i+(n-j))) sc]).run Tryz.prog (w.drew.setRow g cur1)=.ok (.tuple #[]) ((w.drew.setRow g cur1).setRow g c7):=fun ty sc=>by have:=qG (P:=Tryz.prog) (w.drew.setRow g cur1) 39 ty 118 4 g ((i+(n-j))*4) (j-i) sc cur1 i1 z1 ht TJ S5 FJ xl (setRow_heap w.drew g cur _ 118 _ hg) (by omega) (by omega);rw[show n-(i+(n-j))=j-i by omega,this,vc]
 have gR:c7.toList.take ((i+(n-j))*4)=xs.take (i*4)++xs.drop (j*4):=Ht (cur1:=cur1.toList) jR (by simp;omega) (by omega) NZ (by rw[lR]) (by rw[vc]);clear lR vc jR N7;have h63:c≤9223372036854775807:=by unfold maxLen at hc;omega
 have pN:i≤n:=by omega
 have hic:¬(c=i):=by omega
 have hjc:j≤c:=by omega
 have bq:¬((i:Int)=(j:Int)):=by omega
 have oc:i≤j:=by omega
 have afZ:i≤c:=by omega
 have af0:i+(n-j)≤n:=by omega
 have af1:i+(n-j)≤c:=by omega
 have af2:¬(c=i+(n-j)):=by omega
 have af3:(i:Int)+((n-j:Nat):Int)≤(n:Int):=by omega
 have mixed:Tryz.prog.follows .mixedOrders=true:=by kernel_rfl
 by_cases M8:c=j
 ·rw[if_pos M8]at hX;subst hX;subst M8;obtain rfl:n=c:=by omega
  simp only[Nat.sub_self,Nat.add_zero]at TG rU gR ⊢
  go_enter Tryz.func186,Tryz.ntmps186
  go_wp2_with fail
  go_region_law (go_loud (refine gY rfl _ _ 39 39 rfl (.slice (some ⟨g,0,none⟩) i n) (.slice (some ⟨g,0,none⟩) 0 0) (by simp[Act.eval,Act.put]) (by simp[Act.eval,Act.put]) (TG 39 0) ?_))
  go_wp2_with (simp only[rU])
  go_ret
  refine⟨rfl,c7,setRow_heap _ g cur1 _ 118 _ (setRow_heap w.drew g cur _ 118 _ hg),JE,gR,⟨rfl,rfl,rfl,by simp[World.setRow],fun k hk M7=>?_⟩⟩;have vF:k≠g:=fun e=>M7 (by rw[e]);rw[_root_.Go.setRow_other _ g k _ vF,_root_.Go.setRow_other _ g k _ vF];rfl
 ·rw[if_neg M8]at hX;subst hX
  go_enter Tryz.func186,Tryz.ntmps186
  go_wp2_with fail
  go_region_law (go_loud (refine gY rfl _ _ 39 39 rfl (.slice (some ⟨g,0,none⟩) i c) (.slice (some ⟨g,j*4,none⟩) (n-j) (c-j)) (by simp[Act.eval,Act.put]) (by simp[Act.eval,Act.put]) (TG 39 (c-j)) ?_))
  go_wp2_with (simp only[rU])
  go_ret
  refine⟨rfl,c7,setRow_heap _ g cur1 _ 118 _ (setRow_heap w.drew g cur _ 118 _ hg),JE,gR,⟨rfl,rfl,rfl,by simp[World.setRow],fun k hk M7=>?_⟩⟩;have vF:k≠g:=fun e=>M7 (by rw[e]);rw[_root_.Go.setRow_other _ g k _ vF,_root_.Go.setRow_other _ g k _ vF];rfl
theorem W0:JU Tryz.prog 186 118 4:=fun w v n i j xs hv zZ NZ hm h1=>by
 rcases hv.2 with⟨h0,_⟩|⟨g,c,cur,rfl,Vq,hg,xi,M6,iF,jR⟩
 ·omega
 have mb:ob (.slice (some ⟨g,0,none⟩) n c)=some g:=by simp only[ob];rw[if_neg (by omega)]
 refine(Hw w g c n i j (if c=j then 0 else j*4) xs cur hg iF jR hv.1 zZ NZ xi M6 (by split<;>rfl) h1).mono fun en w' ⟨e1,iM,e2,e3,e4,e5⟩=>?_;refine⟨_,e1,⟨?_,.inr ⟨g,c,iM,rfl,Vq,e2,by omega,M6,by rw[e3,iF],e4⟩⟩,by rw[mb];exact e5,?_⟩
 ·have hl:=hv.1;simp only[List.length_append,List.length_take,List.length_drop];omega
 ·rw[mb];simp only[ob];rw[if_neg (by omega)]
set_option maxHeartbeats 4000000 in
set_option maxRecDepth 100000 in
theorem JW:EZ Tryz.prog 233 54 6:=fun w v u n xs ys hv hu hm h1=>by
 have ht:Tryz.prog.underlying 42=some (.slice 54):=by kernel_rfl
 obtain⟨i0,z0,he⟩:=ct (P:=Tryz.prog) (e:=54) (k:=.pair (.pair (.pair (.int .i64) (.int .i64)) (.int .i64)) (.pair (.pair (.int .i64) (.int .i64)) (.int .i64))) (by kernel_rfl);have vP:=E0 hu h1;obtain⟨v',w',dn,h4,h5,h6⟩:=dC (P:=Tryz.prog) (ty:=42) ht he hv vP hm;obtain⟨A,c,rfl⟩:=hv.slice;have xi:n≤c:=by
  rcases hv.2 with⟨h0,A,e⟩|⟨g,cap,cur,e,hc,h2,h3,_⟩
  ·omega
  ·cases e;exact h3
 obtain⟨B,cu,rfl⟩:=hu.slice;have aaT:n≤1073741824:=by unfold fz at hm;omega
 go_enter Tryz.func233,Tryz.ntmps233
 go_wp2_with (at_builtin;refine Lib.wpList_append_run _ rfl _ _ _ _ rfl _ _ rfl rfl _ _ dn ?_)
 all_goals go_ret
 all_goals first|exact⟨_,rfl,h4,h5,h6⟩|(subst_vars;exact⟨_,rfl,h4,h5,h6⟩)
set_option maxHeartbeats 4000000 in
set_option maxRecDepth 100000 in
theorem E4:u7 Tryz.prog 233 54 6:=fun w g c g2 c2 n i xs ys cur c7 hg iF jR u9 tO mf oa kd Cp bq hi dE hc h1 h2=>by
 have ht:Tryz.prog.underlying 42=some (.slice 54):=by kernel_rfl
 have hz:(Tryz.prog.info? 54).map (·.size)=some 6:=by kernel_rfl
 have yF:∀w,(Go.sizeOf 54).run Tryz.prog w=.ok 6 w:=fun w=>by
  cases hq:Tryz.prog.info? 54 with
  |none=>rw[hq]at hz;cases hz
  |some i=>rw[hq]at hz;simp at hz;simp[sizeOf,typeInfo,hq,hz]
 have SJ:∀a2 lb cb,(callFunc 246 #[.slice (some ⟨g2,0,none⟩) 1 c2,.slice (some ⟨g,a2,none⟩) lb cb]).run Tryz.prog w=.ok (.value (.bool false)) w:=fun a2 lb cb=>by rw[run_callFunc_extern Tryz.func246 (by kernel_rfl) (by kernel_rfl) (by kernel_rfl) (e:=Extern.SlicesOverlaps.overlaps #[42,42] #[4]) (by kernel_rfl),Lib.run_overlaps_apart w 42 4 54 ht 6 yF ⟨g2,0,none⟩ ⟨g,a2,none⟩ 1 c2 lb cb bq 54 54 c7.size cur.size (by simp[World.shape?,tO]) (by simp[World.shape?,hg]) (by omega) (by simp[World.frozen?,tO]) (by simp[World.frozen?,tO])];rfl
 obtain⟨cur1,cur3,JN,Hr,M3,gR⟩:=tv ht hz w g c g2 c2 n i xs ys cur c7 hg iF jR u9 tO mf oa kd Cp bq hi dE hc h1 h2;have h63:c≤9223372036854775807:=by unfold maxLen at hc;omega
 obtain⟨Jy,TH,TI,pN,WW,Cx,hb3,hb4,Cm,IK⟩:=tw hi dE hc;clear jR kd;have mixed:Tryz.prog.follows .mixedOrders=true:=by kernel_rfl
 go_enter Tryz.func233,Tryz.ntmps233
 go_wp2_with (simp only[SJ])
 go_region_law (go_loud (refine step_copy_runI rfl _ _ 42 42 rfl (.slice (some ⟨g,(i+1)*6,none⟩) (n-i) (c-(i+1))) (.slice (some ⟨g,i*6,none⟩) (n+1-i) (c-i)) (by simp[Act.eval,Act.put]) (by simp[Act.eval,Act.put]) (JN w.drew rfl 3 (c-(i+1)) (c-i)) ?_))
 go_wp2_with (simp only[Hr])
 go_ret
 refine⟨rfl,cur3,setRow_heap _ g cur1 _ 54 _ (setRow_heap w.drew g cur _ 54 _ hg),M3,gR,⟨rfl,rfl,rfl,by simp[World.setRow],fun k hk M7=>?_⟩⟩;have vF:k≠g:=fun e=>M7 (by rw[e]);rw[_root_.Go.setRow_other _ g k _ vF,_root_.Go.setRow_other _ g k _ vF];rfl
set_option maxHeartbeats 4000000 in
set_option maxRecDepth 100000 in
theorem Hy:yX Tryz.prog 233 54 6:=fun w g c g2 c2 n i xs ys cur c7 hg iF jR u9 tO mf oa kd Cp bq hi xi dE hm h1 h2=>by
 have ht:Tryz.prog.underlying 42=some (.slice 54):=by kernel_rfl
 obtain⟨i0,z0,he⟩:=ct (P:=Tryz.prog) (e:=54) (k:=.pair (.pair (.pair (.int .i64) (.int .i64)) (.int .i64)) (.pair (.pair (.int .i64) (.int .i64)) (.int .i64))) (by kernel_rfl);obtain⟨G,rD,row2,row3,W1,SI,wE,yu,pR,JP,JQ,M3,M5,E1,gR⟩:=wD (sz:=6) rfl (by decide) ht (by kernel_rfl) he w g c g2 c2 n i xs ys cur c7 hg iF jR u9 tO mf oa kd Cp bq hi xi dE hm h1 h2;obtain⟨Jy,TH,hw3,TI,pN,aaW,hGi,aaX,hci,hb3,Cm,IK⟩:=wF hi xi dE hm M5;unfold fz at hm;clear jR kd;have mixed:Tryz.prog.follows .mixedOrders=true:=by kernel_rfl
 go_enter Tryz.func233,Tryz.ntmps233
 go_wp2_with (first
  |(at_builtin;refine Lib.wpList_append_run _ rfl _ _ _ _ rfl _ _ rfl rfl _ _ (SI _) ?_)
  |(at_builtin;refine wpList_copy_runI _ rfl _ _ 42 42 rfl _ _ rfl rfl (JP _ (by rfl) _ _ _) ?_))
 go_region_law (go_loud (refine step_copy_runI rfl _ _ 42 42 rfl (.slice (some ⟨w.heap.size,(i+1)*6,none⟩) (n-i) (G-(i+1))) (.slice (some ⟨g,i*6,none⟩) (n-i) (c-i)) (by simp[Act.eval,Act.put]) (by simp[Act.eval,Act.put]) (JQ (W1.setRow w.heap.size row2).drew rfl 3 (G-(i+1)) (c-i)) ?_))
 go_wp2
 go_ret
 refine⟨G,rfl,row3,setRow_heap _ w.heap.size row2 _ 54 _ (setRow_heap W1 w.heap.size rD _ 54 _ wE),by omega,M5,E1,gR,⟨pR.os,pR.tape,pR.output,by have:=pR.size;simpa[World.setRow] using this,fun k hk _=>?_⟩⟩;rw[_root_.Go.setRow_other _ w.heap.size k _ (Nat.ne_of_lt hk)];exact(_root_.Go.setRow_other W1 w.heap.size k _ (Nat.ne_of_lt hk)).trans (yu k hk)
theorem W9:Bu Tryz.prog 233 54 6:=JR JW E4 Hy
def Ll(P:Program)(f:FuncId)(e:TypeId)(size:Nat):Prop :=∀(w:World) (n:Nat),n≤fz→Calls P f #[.slice none 0 0,.int .i64 n] w fun en w'=>∃v',en=.returned v'∧dS w' e size v' 0 []∧w.grownBy w' none∧∀b,ob v'=some b→w.heap.size≤b
set_option maxHeartbeats 4000000 in
set_option maxRecDepth 100000 in
theorem TK:Ll Tryz.prog 220 33 3:=fun w n hm=>by
 have ht:Tryz.prog.underlying 50=some (.slice 33):=by kernel_rfl
 have WW:Tryz.prog.underlying 3=some (.int .i64):=by kernel_rfl
 obtain⟨i0,z0,he⟩:=ct (P:=Tryz.prog) (e:=33) (k:=.pair (.pair (.int .i64) (.int .i64)) (.int .i64)) (by kernel_rfl);have FJ:z0.cells.size=3:=he.xh;have yF:i0.size=3:=he.size;have Hq:=he.bytes;unfold fz at hm;by_cases hn:n=0
 ·subst hn;have mb:ob (.slice none 0 0)=none:=rfl
  go_enter Tryz.func220,Tryz.ntmps220
  go_wp2
  go_ret
  exact⟨_,rfl,⟨by simp,.inl ⟨rfl,none,rfl⟩⟩,World.grownBy.refl w _,fun b hb=>by simp[ob]at hb⟩
 ·have ot:n*i0.bytes≤281474976710656:=adk (Nat.mul_le_mul hm Hq) (by decide);obtain⟨G,hG⟩:∃G,G=grownCap w n 0 33:=⟨_,rfl⟩;obtain⟨rD,JO⟩:∃rD,rD=Builtin.zeroCells z0.cells n++Builtin.zeroCells z0.cells (G-n):=⟨_,rfl⟩;obtain⟨W1,Bv⟩:∃W1,W1=w.drew.alloc (.cells rD 33):=⟨_,rfl⟩;have SI:∀ty,(Builtin.append_ #[50,3] ty #[.slice none 0 0,.int .i64 n]).run Tryz.prog w=.ok (.slice (some ⟨w.heap.size,0,none⟩) n G) W1:=fun ty=>by rw[Bv,JO,hG];exact Lib.run_append_nil_zeros w 50 3 ty 33 i0 z0 .i64 .i64 ht WW he.info he.zero n (by omega) (by omega) (by omega) ot
  have M5:n≤G:=by rw[hG];exact grownCap_ge w _ _ _
  have E1:G≤9223372036854775807:=by have:=grownCap_le_maxLen w n 0 33 (by unfold maxLen;omega);rw[←hG]at this;unfold maxLen at this;omega
  have hRs:rD.size=G*3:=by rw[JO];simp[Builtin.zeroCells,FJ];omega
  have wE:W1.heap[w.heap.size]? = some (.cells rD 33 (0,0)):=by rw[Bv];exact(MapKept.heap_alloc w.drew (.cells rD 33)).1
  have yu:∀b,b<w.heap.size→W1.heap[b]? = w.heap[b]? := fun b hb=>by rw[Bv];exact(Below.heap_alloc w.drew (.cells rD 33) b hb).trans rfl
  have pR:w.grownBy W1 none:=⟨by rw[Bv];rfl,by rw[Bv];rfl,by rw[Bv];rfl,by have:=(acV.1 wE).1;omega,fun k hk _=>yu k hk⟩;clear JO Bv hG;have hn0:¬((n:Int)<0):=by omega
  have WD:0<(n:Int):=by omega
  have Y5:IntKind.i64.wrap (n:Int)=n:=by rw[IntKind.wrap_i64];omega
  have hG0:¬(G=0):=by omega
  go_enter Tryz.func220,Tryz.ntmps220
  go_wp2_with (at_builtin;refine Lib.wpList_append_run _ rfl _ _ _ _ rfl _ _ rfl rfl _ _ (SI _) ?_)
  go_ret
  refine⟨.slice (some ⟨w.heap.size,0,none⟩) 0 G,rfl,⟨by simp,.inr ⟨w.heap.size,G,rD,rfl,by omega,wE,by omega,E1,hRs,by simp⟩⟩,pR,fun b hb=>?_⟩;simp only[ob]at hb;rw[if_neg (by omega)]at hb;cases hb;omega
theorem Hz{P:Program}{f:FuncId}{ty:TypeId}{k:K}(hr:Ll P f ty k.sz):fE P f (Oj ty k):=by
 intro Z ψ h w B0 O N hh id e vs us g hB bu hN bf me ns Co he;unfold Oj at he
 split at he
 rotate_left
 ·cases he
 rename_i n;simp only[Option.some.injEq,Prod.mk.injEq]at he;obtain⟨lu,rfl⟩:=he;simp only[zy,Bool.and_eq_true,decide_eq_true_eq]at lu;obtain⟨h0,h1⟩:=lu;obtain⟨m,rfl⟩:∃m:Nat,n=m:=⟨n.toNat,by omega⟩;simp only[ak,av]at ns;obtain⟨v,_,rfl,rfl,u,_,rfl,rfl,rfl⟩:=ns;have bL:N id:=hN 0 (by omega);refine(hr w m (by omega)).mono fun en w' ⟨v',e1,e2,e3,e4⟩=>?_;have kk:cV ψ h w w':=cV.grown e3 (fun b e=>by cases e);have Dh:=qj (N:=N) g hB id ty bL (k:=k) (xs:=[]) (vs:=[]) kk (fun b hb=>e3.block b (g.bM hb) (by simp)) e2 (fun i x hx=>by simp at hx) e4 (fun i ty cs hb=>ax.imp (p:=fun i=>¬N i) (q:=fun i=>i≠id) (fun a ha e=>ha (by rw[e];exact bL)) (bf i ty cs hb));refine⟨v',Z,dA ψ id v',e1,?_,?_⟩
 ·have hhp:(bE.new (.bF id) [(id,Ob.own (.row ty k) [])]).hp h=dA h id (some (.own (.row ty k) [])):=hZ id _ h;rw[hhp];exact Dh
 ·simp only[bE.v,av];exact⟨e2.one,fun _=>(bg _ _ _).symm⟩
end Go.Vs
namespace Go.Vs
variable {P:Program}
def yv(P:Program)(g:TypeId→K→Bool):List Field→Nat→K→Bool
 |[],_,_=>false
 |[f],off,k=>(f.name != "_")&&(decide (f.offset=off)&&(decide (P.cellsOf f.type=k.sz)&&g f.type k))
 |f::f'::r,off,.pair a b=>(f.name != "_")&&(decide (f.offset=off)&&(decide (P.cellsOf f.type=a.sz)&&(g f.type a&&yv P g (f'::r) (off+a.sz) b)))
 |_,_,_=>false
def QJ(P:Program):Nat→TypeId→K→Bool
 |0,_,_=>false
 |d+1,t,k =>
  match P.underlying t,k with
  |some (.int a),.int b=>decide (a=b)
  |some .bool,.bool=>true
  |some .string,.str=>true
  |some (.struct fs),.pair a b => !P.stoodInHeld t&&yv P (QJ P d) fs.toList 0 (.pair a b)
  |_,_=>false
def VK(w:World)(Z:Nat→Prop):(k:K)→k.T→Value→Prop
 |.pair a b,x,v=>∃cs:Array Value,v=.agg cs∧aD Z w (.pair a b) x cs.toList
 |.one k,x,v=>False
 |k,x,v=>aD Z w k x [v]
theorem yY{Z:Nat→Prop}{w:World}{d:Nat}{t:TypeId}{k:K}(hk:QJ P d t k=true)(hc:P.cellsOf t=k.sz){cs:Array Value}{off:Nat}{x:k.T}(hr:aD Z w k x ((cs.toList.drop off).take k.sz)) :
  ∃v,(part t cs off).run P w=.ok v w∧VK w Z k x v:=by
 cases d with
 |zero=>simp[QJ]at hk
 |succ d =>
  have plain:k.sz=1→(P.underlying t).map IY=some false→∃v,(part t cs off).run P w=.ok v w∧aD Z w k x [v]:=fun h1 h2=>by
   rw[h1]at hr;have hl:=hr.len;rw[h1,List.length_take,List.length_drop,Array.length_toList]at hl;have aF:off<cs.size:=by omega
   refine⟨cs[off],?_,?_⟩
   ·simp[part,fP h2,aF]
   ·have:(cs.toList.drop off).take 1=[cs[off]]:=by rw[List.drop_eq_getElem_cons (by simpa using aF)];simp
    rwa [this]at hr
  unfold QJ at hk
  split at hk
  ·rename_i a b hu;exact plain rfl (by rw[hu];rfl)
  ·rename_i hu;exact plain rfl (by rw[hu];rfl)
  ·rename_i hu;exact plain rfl (by rw[hu];rfl)
  ·rename_i fs a b hu;obtain⟨i,hi⟩:=sd hu;refine⟨.agg (cs.extract off (off+P.cellsOf t)),?_,_,rfl,?_⟩
   ·have h2:(P.underlying t).map IY=some true:=by rw[hu];rfl
    simp[part,fP h2,du hi]
   ·rw[Array.toList_extract,hc];simpa[List.extract] using hr
  ·cases hk
def iz(em:Bool)(d:Nat)(cs:Array Value):List Field→Sem Unit
 |[]=>pure ()
 |f::fs =>
  if f.name≠ "_" then do
   let a ←part f.type cs f.offset
   Instr.checkKey em d f.type a
   iz em d cs fs
  else iz em d cs fs
theorem rY(em:Bool)(w:World)(d:Nat)(t:TypeId)(cs:Array Value)(fs:Array Field)(ht:P.underlying t=some (.struct fs)) :
  (Instr.checkKey em (d+1) t (.agg cs)).run P w=(iz em d cs fs.toList).run P w:=by
 simp only[Instr.checkKey,Sem.run_bind,run_underlying ht,Result.andThen_ok];rw[←Array.forIn_toList];generalize fs.toList=l;clear ht
 induction l generalizing w with
 |nil=>simp[iz]
 |cons f fs ih =>
  simp only[List.forIn_cons,iz,Sem.run_bind,Sem.run_ite]
  split
  ·generalize (part f.type cs f.offset).run P w=r1
   cases r1 with
   |ok a w1 =>
    simp only[Result.andThen_ok];generalize (Instr.checkKey em d f.type a).run P w1=r2
    cases r2 with
    |ok b w2 =>simp only[Result.andThen_ok,Sem.run_pure];exact ih w2
    |halt x w2=>simp[Result.andThen]
   |halt x w1=>simp[Result.andThen]
  ·simp only[Sem.run_pure,Result.andThen_ok];exact ih w
theorem HA{Z:Nat→Prop}{D d:Nat}(em:Bool)(hg:∀t k,QJ P d t k=true→∀(w:World) (x y:k.T) (u v:Value),VK w Z k x u→VK w Z k y v→(Op.equalIn (D+d) t u v).run P w=.ok (qT k x y) w∧(Instr.checkKey em (D+d) t u).run P w=.ok () w)(w:World)(xs ys:Array Value) :
  ∀(fs:List Field) (off:Nat) (k:K),yv P (QJ P d) fs off k=true→∀(x y:k.T),aD Z w k x ((xs.toList.drop off).take k.sz)→aD Z w k y ((ys.toList.drop off).take k.sz) →(Op.eqFields (D+d) xs ys fs).run P w=.ok (qT k x y) w∧(iz em (D+d) xs fs).run P w=.ok () w
 |[],_,_,h,_,_,_,_=>by simp[yv]at h
 |[f],off,k,h,x,y,hx,hy=>by
  have h':f.name≠ "_"∧f.offset=off∧P.cellsOf f.type=k.sz∧QJ P d f.type k=true:=by cases k<;>simpa[yv] using h
  obtain⟨h0,h1,h2,h3⟩:=h';subst h1;obtain⟨u,hu,hu'⟩:=yY h3 h2 hx;obtain⟨v,hv,zU⟩:=yY h3 h2 hy;obtain⟨e1,e2⟩:=hg _ _ h3 w x y u v hu' zU;constructor
  ·simp only[Op.eqFields,if_pos h0,Sem.run_bind,hu,hv,e1,Result.andThen_ok]
   cases qT k x y<;>simp
  ·simp[iz,h0,hu,e2]
 |f::f'::r,off,.pair a b,h,x,y,hx,hy=>by
  simp only[yv,Bool.and_eq_true,decide_eq_true_eq,bne_iff_ne,ne_eq]at h;obtain⟨h0,h1,h2,h3,h4⟩:=h;subst h1;simp only[aD,K.sz]at hx hy;obtain⟨us,ws,ex,QK,hx2⟩:=hx;obtain⟨iq,ws',ey,Vr,Vt⟩:=hy;have sp:∀(zs:Array Value) (us ws:List Value),us.length=a.sz→ws.length=b.sz→(zs.toList.drop f.offset).take (a.sz+b.sz)=us++ws→us=(zs.toList.drop f.offset).take a.sz∧ws=(zs.toList.drop (f.offset+a.sz)).take b.sz:=fun zs us ws l1 l2 e=>by
   rw[List.take_add,]at e;have hl:((zs.toList.drop f.offset).take a.sz).length=us.length:=by have:=congrArg List.length e;simp only[List.length_append,List.length_take,List.length_drop]at this ⊢;omega
   obtain⟨e1,e2⟩:=List.append_inj e hl;exact⟨e1.symm,by rw[←e2,List.drop_drop]⟩
  obtain⟨rfl,rfl⟩:=sp xs us ws QK.len hx2.len ex;obtain⟨rfl,rfl⟩:=sp ys iq ws' Vr.len Vt.len ey;obtain⟨u,hu,hu'⟩:=yY h3 h2 QK;obtain⟨v,hv,zU⟩:=yY h3 h2 Vr;obtain⟨e1,e2⟩:=hg _ _ h3 w x.1 y.1 u v hu' zU;obtain⟨e3,e4⟩:=HA em hg w xs ys (f'::r) (f.offset+a.sz) b h4 x.2 y.2 hx2 Vt;constructor
  ·rw[Op.eqFields,if_pos h0];simp only[Sem.run_bind,hu,hv,e1,Result.andThen_ok,Sem.run_ite,e3,qT]
   cases qT a x.1 y.1<;>simp
  ·rw[iz,if_pos h0];simp only[Sem.run_bind,hu,e2,Result.andThen_ok];exact e4
 |f::f'::r,off,.int _,h,_,_,_,_=>by simp[yv]at h
 |f::f'::r,off,.bool,h,_,_,_,_=>by simp[yv]at h
 |f::f'::r,off,.str,h,_,_,_,_=>by simp[yv]at h
 |f::f'::r,off,.sl _,h,_,_,_,_=>by simp[yv]at h
 |f::f'::r,off,.one _,h,_,_,_,_=>by simp[yv]at h
 |f::f'::r,off,.mp _ _,h,_,_,_,_=>by simp[yv]at h
theorem Lm{Z:Nat→Prop}(D:Nat)(em:Bool):∀(d:Nat) (t:TypeId) (k:K),QJ P d t k=true→∀(w:World) (x y:k.T) (u v:Value),VK w Z k x u→VK w Z k y v →(Op.equalIn (D+d) t u v).run P w=.ok (qT k x y) w∧(Instr.checkKey em (D+d) t u).run P w=.ok () w
 |0,_,_,h,_,_,_,_,_,_,_=>by simp[QJ]at h
 |d+1,t,k,h,w,x,y,u,v,hu,hv=>by
  rw[←Nat.add_assoc];unfold QJ at h
  split at h
  ·rename_i a b ht;simp only[decide_eq_true_eq]at h;subst h;simp only[VK,aD,List.cons.injEq,and_true]at hu hv;subst hu;subst hv;exact⟨run_equalIn_int w _ _ _ _ _ _ ht,by simp[Instr.checkKey,run_underlying ht]⟩
  ·rename_i ht;simp only[VK,aD,List.cons.injEq,and_true]at hu hv;subst hu;subst hv;exact⟨run_equalIn_bool' w _ _ _ _ ht,by simp[Instr.checkKey,run_underlying ht]⟩
  ·rename_i ht;simp only[VK,aD,List.cons.injEq,and_true]at hu hv;subst hu;subst hv;exact⟨(run_equalIn_string w _ _ _ _ ht).trans (congrArg (fun b=>Result.ok b w) (beq_toListBytes (show ByteArray from x) (show ByteArray from y)).symm),by simp[Instr.checkKey,run_underlying ht]⟩
  ·rename_i fs a b ht;simp only[Bool.and_eq_true,Bool.not_eq_true']at h;obtain⟨hs,hf⟩:=h;obtain⟨xs,rfl,hx⟩:=hu;obtain⟨ys,rfl,hy⟩:=hv;have TL:P.fieldsOf t=fs:=by simp[Program.fieldsOf,ht]
   have u9:=hx.len;have Cp:=hy.len;obtain⟨e1,e2⟩:=HA (D:=D) (Z:=Z) em (fun t k hk w x y u v hu hv=>Lm D em d t k hk w x y u v hu hv) w xs ys fs.toList 0 (.pair a b) hf x y (by rw[List.drop_zero,List.take_of_length_le (by omega)];exact hx) (by rw[List.drop_zero,List.take_of_length_le (by omega)];exact hy);constructor
   ·rw[run_equalIn_struct w (D+d) t xs ys (by rw[TL];exact ht) hs,TL];exact e1
   ·rw[rY em w (D+d) t xs fs ht];exact e2
  ·cases h
theorem M9{d:Nat}{t:TypeId}{a b:K}(hd:d≤10000)(hk:QJ P d t (.pair a b)=true)(hg:P.eqGuardType P.depth t=false):lr P t (.pair a b):=fun Z w x y xs ys hx hy=>by
 have e:10000-d+d=10000:=by omega
 have key:=fun em=>Lm (Z:=Z) (10000-d) em d t (.pair a b) hk w x y (.agg xs) (.agg ys) ⟨xs,rfl,hx⟩ ⟨ys,rfl,hy⟩;rw[e]at key;exact⟨(key true).1,fun op p q=>run_eqGuard_agg w op t p q xs ys hg,fun em=>(key em).2⟩
end Go.Vs
namespace Go.Vs
open Go.Proofs
theorem QL{f:FuncId}{g:aL}(h:Sg f=some g):(f,g)∈sgs:=by
 unfold Sg at h;obtain⟨p,hp,rfl⟩:=ads.1 h;have h1:=adt hp;have h2:=adC hp;have:p.1=f:=by simpa using h2
 subst this;exact h1
theorem kP:∀f g,Sg f=some g→iQ Tryz.prog (f%1000):=fun f g h=>by
 have hm:=QL h;have key:(sgs.all fun p=>match Tryz.prog.funcs[p.1%1000]? with|some fn => !(fn.name== "runtime.NumGoroutine")&&fn.body.isSome|none=>false)=true:=by kernel_rfl
 have:=ado.1 key _ hm;simp only at this
 split at this
 ·rename_i fn hf;simp only[Bool.and_eq_true,Bool.not_eq_true']at this;exact⟨fn,hf,this.1,this.2⟩
 ·cases this
theorem rE:Tryz.prog.follows .mixedOrders=true:=by kernel_rfl
theorem By:∀t k,Eqs t=some k→lr Tryz.prog t k:=fun t k h=>by
 unfold Eqs at h;obtain⟨p,hp,rfl⟩:=ads.1 h;have h1:=adt hp;have h2:=adC hp;have e:p.1=t:=by simpa using h2
 subst e;simp only[eqs,List.mem_cons,List.not_mem_nil,or_false]at h1;rcases h1 with rfl|rfl|rfl|rfl|rfl|rfl
 all_goals exact M9 (d:=5) (by omega) (by kernel_rfl) (by kernel_rfl)
end Go.Vs
set_option maxRecDepth 1000000
set_option maxHeartbeats 0
namespace Go.Vs
open Go.Proofs
def TM:aL:={ ps:=[.own],bs:=[.own (.row 52 dk)],rs:=[.own (.row 52 dk)] }
def TN:aL:={ ps:=[.own],bs:=[.own (.row 118 dZ)],rs:=[.own (.row 118 dZ)] }
def kQ:aL:={ ps:=[.agg 2],bs:=[.own (.row 52 dk),.own (.row 118 dZ)],rs:=[.agg [.own (.row 52 dk),.own (.row 118 dZ)]] }
def rF(ty:TypeId)(k:K)(h:Heap)(id:Nat):List AV→Option (Bool×bE)
 |[.bF a]=>match dL h (.row ty k) (.bF a) with
  |some xs=>some (aK 0 xs.length,.new (.bF (id+128)) [(id+128,.own (.row ty k) xs)])
  |_=>none
 |_=>none
def af8:aL:={ ps:=[],bs:=[],rs:=[],x:=some (rF 52 dk) }
def af9:aL:={ ps:=[],bs:=[],rs:=[],x:=some (rF 118 dZ) }
def Xa:List (Nat×aL):=[(500127,TM),(500128,TN)]
def Vu(f:FuncId):Option aL:=(Xa.find? (fun p=>p.1==f)).map (fun p=>p.2)
def Xb:List (Nat×aL):=[(110,yq),(500096,kQ),(500127,af8),(500128,af9)]
def SL(f:FuncId):Option aL:=(Xb.find? (fun p=>p.1==f)).map (fun p=>p.2)
def HB:Shape:=⟨[(14,.int .i64),(15,.int .i64)],[(.slot 2,20000,.box 41 [.own (.row 52 dk),.own (.row 118 dZ)]),(.slot 3,20001,.box 41 [.own (.row 52 dk),.own (.row 118 dZ)])],[(6,1000,(.row 52 (.pair (.pair (.int .i64) (.int .i64)) (.pair (.sl (.pair (.pair (.int .i64) (.int .i64)) (.int .i64))) (.pair .str (.int .i64)))))),(9,1020,(.row 118 (.pair (.pair (.int .i64) (.int .i64)) (.pair .str (.int .i64)))))],[]⟩
def An0(f:FuncId)(key:Nat):Option Shape:=none
def Xc(f:FuncId)(key:Nat):Option Shape:=if f=500096 then(if key=3 then some HB else none) else none
noncomputable def QM(SG:FuncId→Option aL)(AN:FuncId→Nat→Option Shape)(f:FuncId)(g:aL)(fn:Func)(F:FT)(J:JT g)(x:g.A):Option g.B:=az Tryz.prog Eqs SG F fn.ntmps (AN f) J (qg Tryz.prog g fn) fuel [.code (fn.body.getD .skip)] (entry g x)
noncomputable def Xd(SG:FuncId→Option aL)(AN:FuncId→Nat→Option Shape)(f j:Nat)(g:aL)(fn:Func)(sh:Shape)(F:FT)(J:JT g)(x:sh.T):Option g.B:=az Tryz.prog Eqs SG F fn.ntmps (AN f) J (qg Tryz.prog g fn) fuel (round (aN Tryz.prog (f%1000) j)) (an sh x)
theorem aa1(F:FT)(J:JT TM)(x:(Unit×((List ag)×Unit))):QM Vu An0 500127 TM Tryz.f127 F J x = cond (List.isEmpty x.2.1) (qc 2 fun(j1:Nat) =>cond ((j1==0)==true) (some ((([]:List ag),()),x.2)) (cond (aK (List.length ([]:List ag)) (List.length x.2.1)) (some (((([]:List ag)++x.2.1),()),x.2)) (none))) (cond (aK (List.length ([]:List ag)) (List.length x.2.1)) (some (((([]:List ag)++x.2.1),()),x.2)) (none)):=by kernel_rfl
theorem aa2(F:FT)(J:JT TN)(x:(Unit×((List ah)×Unit))):QM Vu An0 500128 TN Tryz.f128 F J x = cond (List.isEmpty x.2.1) (qc 2 fun(j1:Nat) =>cond ((j1==0)==true) (some ((([]:List ah),()),x.2)) (cond (aK (List.length ([]:List ah)) (List.length x.2.1)) (some (((([]:List ah)++x.2.1),()),x.2)) (none))) (cond (aK (List.length ([]:List ah)) (List.length x.2.1)) (some (((([]:List ah)++x.2.1),()),x.2)) (none)):=by kernel_rfl
theorem aa3(F:FT)(J:JT yq)(x:(((List ab)×Unit)×Unit)):QM SL Xc 110 yq Tryz.f110 F J x = cond (List.isEmpty x.1.1) (qc 2 fun(j1:Nat) =>cond ((j1==0)==true) (some ((([]:List ab),()),())) (cond (aK (List.length ([]:List ab)) (List.length x.1.1)) (some (((([]:List ab)++x.1.1),()),())) (none))) (cond (aK (List.length ([]:List ab)) (List.length x.1.1)) (some (((([]:List ab)++x.1.1),()),())) (none)):=by kernel_rfl
theorem aa4(F:FT)(J:JT kQ)(x:(Unit×((List ag)×((List ah)×Unit)))):QM SL Xc 500096 kQ Tryz.f96 F J x = cond (aK 0 (List.length x.2.1)) (cond (aK 0 (List.length x.2.2.1)) (J HB (aN Tryz.prog 96 0) (((((List.length x.2.1):Nat):Int),((0:Int),())),(((([]:List ag),(([]:List ah),())),((x.2.1,x.2.2),())),(x.2.1,x.2.2)))) (none)) (none):=by kernel_rfl
theorem Ln(F:FT)(J:JT kQ)(x:((Int×(Int×Unit))×((((List ag)×((List ah)×Unit))×(((List ag)×((List ah)×Unit))×Unit))×((List ag)×((List ah)×Unit))))):Xd SL Xc 500096 0 kQ Tryz.f96 HB F J x = cond (decide (x.1.2.1<x.1.1)) (cond ((decide ((0:Int)≤x.1.2.1))&&(decide (x.1.2.1<(((List.length x.2.1.2.1.1):Nat):Int)))) (((x.2.1.2.1.1)[(Int.toNat x.1.2.1)]?).bind fun(y1:ag) =>(F 110 yq ((y1.2.1,()),())).bind fun(y2:(((List ab)×Unit)×Unit)) =>cond ((decide ((0:Int)≤x.1.2.1))&&(decide (x.1.2.1<(((List.length x.2.1.2.1.1):Nat):Int)))) (((x.2.1.2.1.1)[(Int.toNat x.1.2.1)]?).bind fun(y3:ag) =>J HB (aN Tryz.prog 96 0) ((x.1.1,((IntKind.wrap .i64 (x.1.2.1+(1:Int))),())),(((x.2.1.1.1,x.2.1.1.2),(((List.set x.2.1.2.1.1 (Int.toNat x.1.2.1) (y3.1,(y2.1.1,y3.2.2))),x.2.1.2.1.2),())),(x.2.2.1,x.2.2.2)))) (none)) (none)) (some (((x.2.1.2.1.1,x.2.1.2.1.2),()),(x.2.2.1,x.2.2.2))):=by kernel_rfl
end Go.Vs
namespace Go.Vs
open Go.Proofs
variable {P:Program}
theorem sI{f:FuncId}{ty:TypeId}{k:K}(hf:f%1000=f)(hc:∀(xs:List k.T),aK 0 xs.length=true→Dc P f ⟨[.own],[.own (.row ty k)],[.own (.row ty k)],none⟩ ((),(xs,())) ((xs,()),(xs,()))):fE P f (rF ty k):=by
 intro Z ψ h w B0 O N hh id e vs us g hB bu hN bf me ns Co he;unfold rF at he
 split at he
 rotate_left
 ·cases he
 rename_i a
 split at he
 rotate_left
 ·cases he
 rename_i xs xj;simp only[Option.some.injEq,Prod.mk.injEq]at he;obtain⟨lu,rfl⟩:=he;have ha:h a=some (.own (.row ty k) xs):=bu _ _ (jy xj);have JX:h a≠none:=by rw[ha];simp
 simp only[ak,av]at ns;obtain⟨v1,_,rfl,⟨_,uj⟩,rfl⟩:=ns;have uj:=uj JX;subst uj;simp only[ax,aE]at Co;have Yt:N (id+128):=hN 128 (by omega);have na:¬N a:=Co.1;have a0:a≠id+128:=fun e=>na (e▸Yt)
 let ψ0:Nat→Value:=fun i=>if i=1000 then ψ a else ψ i
 have p0:ψ0 1000=ψ a:=if_pos rfl
 let g0:aL:=⟨[.own],[.own (.row ty k)],[.own (.row ty k)],none⟩
 have pN:oH g0 ((),(xs,()))=Heap.get [(1000,.own (.row ty k) xs)]:=rfl;have i0:oH g0 ((),(xs,())) 1000=some (.own (.row ty k) xs):=rfl;have iN:∀i,oH g0 ((),(xs,())) i≠none→i=1000:=fun i hi=>by
  by_cases e0:i=1000
  ·exact e0
  rw[pN]at hi;simp[Heap.get,Ne.symm e0]at hi
 have TO:∀q,Own ψ0 (oH g0 ((),(xs,()))) q→ob (ψ a)=some q:=fun q ⟨i,h1,h2⟩=>by have:=iN i h1;subst this;rw[←p0];exact h2
 have oh:∀q,Own ψ0 (oH g0 ((),(xs,()))) q→Own ψ h q:=fun q hq=>⟨a,JX,TO q hq⟩;have G0:Good Z ψ0 (oH g0 ((),(xs,()))) w w.heap.size (Own ψ0 (oH g0 ((),(xs,())))):=by
  refine⟨fun i ty cs k=>?_,fun i ok x k=>?_,fun i q h1 h2=>⟨fun hz=>?_,.inr ⟨i,h1,h2⟩⟩,fun i j q h1 h2 h3 h4=>?_,g.ju⟩
  ·have:=iN i (by rw[k];simp);subst this;rw[i0]at k;cases k
  ·have:=iN i (by rw[k];simp);subst this;rw[i0]at k;cases k;rw[p0];exact g.row a _ _ ha
  ·have:=iN i h1;subst this;rw[p0]at h2;exact(g.live a q JX h2).1 hz
  ·rw[iN i h1,iN j h2]
 have c0:(ψ a).cells=#[ψ a]∧(ψ a).oneCell'=true:=(g.row a _ _ ha).one;have R0:ak Z ψ0 (oH g0 ((),(xs,()))) w (Ew g0 ((),(xs,()))) [ψ a]:=by show ak Z ψ0 (oH g0 ((),(xs,()))) w [.bF 1000] [ψ a];simp only[ak,av];exact⟨ψ a,[],rfl,⟨c0,fun _=>p0.symm⟩,rfl⟩
 have Yu:=hc xs lu Z ψ0 w [ψ a] G0 R0;rw[hf]at Yu;refine Yu.mono fun en w' ⟨V,Z',ψ',e1,zs,zf,kp,gd,bL,hr⟩=>?_;have q0:ψ' 1000=ψ a:=(bL 1000 (by show 1000∈[1000];simp)).trans p0;have o0:(jA g0 ((xs,()),(xs,()))).get 1000=some (.own (.row ty k) xs):=rfl;have o2:(jA g0 ((xs,()),(xs,()))).get 3000=some (.own (.row ty k) xs):=rfl;have gd:Good Z' ψ' (jA g0 ((xs,()),(xs,()))).get w' w.heap.size (Own ψ0 (oH g0 ((),(xs,())))):=gd;have hr:av Z' ψ' (jA g0 ((xs,()),(xs,()))).get w' (.bF 3000) V:=hr;generalize (jA g0 ((xs,()),(xs,()))).get=out at *;have keep:cV ψ h w w':=⟨kp.os,kp.tape,kp.output,kp.size,fun q hq hn=>kp.block q hq fun ho=>hn (oh q ho)⟩;have sm:cp Z w w':=keep.same g;have cK:∀i q,i≠a→h i≠none→ob (ψ i)=some q→w'.heap[q]? = w.heap[q]? := fun i q k1 h1 h2 =>kp.block q (g.bM ⟨i,h1,h2⟩) fun ho=>k1 (g.apart i a q h1 JX h2 (TO q ho))
 let dN:Nat→Value:=fun i=>if i=id+128 then ψ' 3000 else ψ i
 let H:Hp:=(bE.new (.bF (id+128)) [(id+128,.own (.row ty k) xs)]).hp h
 have s0:dN (id+128)=ψ' 3000:=if_pos rfl;have sn:∀i,i≠id+128→dN i=ψ i:=fun i k1=>if_neg k1;have H0:H (id+128)=some (.own (.row ty k) xs):=by show(bE.hp h _) _=_;simp[bE.hp,Heap.get]
 have Hn:∀i,i≠id+128→H i=h i:=fun i k1=>by show(bE.hp h _) _=_;simp[bE.hp,Heap.get,Ne.symm k1]
 have two:∀q,ob (ψ' 3000)=some q→¬Z' q∧(w.heap.size≤q∨ob (ψ a)=some q):=fun q h2=>by obtain⟨h3,h4⟩:=gd.live 3000 q (by rw[o2];simp) h2;exact⟨h3,h4.imp (fun h=>h) (TO q)⟩
 have one:∀q,ob (ψ a)=some q→¬Z' q:=fun q h2=>(gd.live 1000 q (by rw[o0];simp) (by rw[q0];exact h2)).1;have TP:∀q,ob (ψ' 3000)=some q→ob (ψ a)=some q→False:=fun q h2 h3=>by have:=gd.apart 3000 1000 q (by rw[o2];simp) (by rw[o0];simp) h2 (by rw[q0];exact h3);omega
 have fresh:∀q,ob (ψ' 3000)=some q→w.heap.size≤q:=fun q h2=>(two q h2).2.resolve_right (TP q h2);have ids:∀i,H i≠none→(h i≠none∧dN i=ψ i)∨N i:=fun i hi=>by
  by_cases k1:i=id+128
  ·exact .inr (k1▸Yt)
  ·rw[Hn i k1]at hi;exact .inl ⟨hi,sn i k1⟩
 have live:∀i q,i≠id+128→h i≠none→ob (ψ i)=some q→¬Z' q:=fun i q k1 h1 h2 hz=>by
  by_cases k3:i=a
  ·subst k3;exact one q h2 hz
  rcases zf q hz with k|k|k
  ·exact(g.live i q h1 h2).1 k
  ·exact k3 (g.apart i a q h1 JX h2 (TO q k))
  ·have:=g.bM ⟨i,h1,h2⟩;omega
 refine⟨V,Z',dN,e1,⟨zs,fun q hq=>(zf q hq).imp (fun h=>h) fun k=>k.imp (oh q) fun h=>h,keep,ids,⟨fun i yf cs k=>?_,fun i ok x k=>?_,fun i q h1 h2=>?_,fun i j q h1 h2 h3 h4=>?_,gd.ju⟩⟩,?_⟩
 ·have k1:i≠id+128:=fun e=>by rw[e]at k;have k:H (id+128)=some (.box yf cs):=k;rw[H0]at k;cases k
  have k3:i≠a:=fun e=>by rw[e]at k;have k:H a=some (.box yf cs):=k;rw[(Hn a a0).trans ha]at k;cases k
  have pK:h i=some (.box yf cs):=(Hn i k1).symm.trans k;obtain⟨gg,vs,f1,f2,f3,f4⟩:=g.box i yf cs pK;exact⟨gg,vs,(sn i k1).trans f1,(cK i gg k3 (by rw[pK];simp) (by rw[f1];rfl)).trans f2,f3.move zs sm (fun j hj bq=>(ids j bq).resolve_right hj) (bf i yf cs pK),f4⟩
 ·by_cases k1:i=id+128
  ·subst k1;have k:H (id+128)=some (.own ok x):=k;rw[H0]at k;cases k;rw[s0];exact gd.row 3000 _ _ o2
  have pK:h i=some (.own ok x):=(Hn i k1).symm.trans k;rw[sn i k1];by_cases k3:i=a
  ·subst k3;rw[ha]at pK;cases pK;rw[←q0];exact gd.row 1000 _ _ o0
  exact(g.row i ok x pK).kept zs sm fun q hq=>cK i q k3 (by rw[pK];simp) hq
 ·by_cases k1:i=id+128
  ·subst k1;have h2:ob (dN (id+128))=some q:=h2;rw[s0]at h2;exact⟨(two q h2).1,.inl (adk hB (fresh q h2))⟩
  ·have h1:h i≠none:=by rw[←Hn i k1];exact h1
   rw[sn i k1]at h2;exact⟨live i q k1 h1 h2,(g.live i q h1 h2).2⟩
 ·have lt:∀j,j≠id+128→H j≠none→ob (dN j)=some q→q<w.heap.size:=fun j k1 k2 k3=>by rw[Hn j k1]at k2;rw[sn j k1]at k3;exact g.bM ⟨j,k2,k3⟩
  by_cases k1:i=id+128<;>by_cases k2:j=id+128
  ·exact k1.trans k2.symm
  ·subst k1;have h3:ob (dN (id+128))=some q:=h3;rw[s0]at h3;have:=fresh q h3;have:=lt j k2 h2 h4;omega
  ·subst k2;have h4:ob (dN (id+128))=some q:=h4;rw[s0]at h4;have:=fresh q h4;have:=lt i k1 h1 h3;omega
  ·rw[sn i k1]at h3;rw[sn j k2]at h4;exact g.apart i j q (by rw[←Hn i k1];exact h1) (by rw[←Hn j k2];exact h2) h3 h4
 ·simp only[av]at hr;show av Z' dN H w' (.bF (id+128)) V;simp only[av];exact⟨hr.1,fun _=>(hr.2 (by rw[o2];simp)).trans s0.symm⟩
theorem E5(hc:∀(xs:List dk.T) (ys:List dZ.T),oO xs ys=true→Dc P 96 kQ ((),(xs,(ys,()))) (((xs,(ys,())),()),(xs,(ys,())))):fE P 96 EL:=by
 intro Z ψ h w B0 O N hh id e vs us g hB bu hN bf me ns Co he;unfold EL at he
 split at he
 rotate_left
 ·cases he
 rename_i a b
 split at he
 rotate_left
 ·cases he
 rename_i xs ys xj Mi
 split at he
 ·cases he
 rename_i Cq;simp only[Option.some.injEq,Prod.mk.injEq]at he;obtain⟨lu,rfl⟩:=he;have ha:h a=some (.own (.row 52 dk) xs):=bu _ _ (jy xj);have hb:h b=some (.own (.row 118 dZ) ys):=bu _ _ (jy Mi);have JX:h a≠none:=by rw[ha];simp
 have Hq:h b≠none:=by rw[hb];simp
 simp only[ak,av]at ns;obtain⟨v,_,rfl,⟨cs,rfl,v1,_,Mb,⟨_,uj⟩,v2,_,rfl,⟨_,xg⟩,rfl⟩,rfl⟩:=ns;have uj:=uj JX;have xg:=xg Hq;subst uj xg;simp only[ax,aE]at Co;have Yt:N (id+128):=hN 128 (by omega);have nR1:N (id+129):=hN 129 (by omega);have na:¬N a:=Co.1.1;have nb:¬N b:=Co.1.2.1;have a0:a≠id+128:=fun e=>na (e▸Yt);have a1:a≠id+129:=fun e=>na (e▸nR1);have b0:b≠id+128:=fun e=>nb (e▸Yt);have b1:b≠id+129:=fun e=>nb (e▸nR1)
 let ψ0:Nat→Value:=fun i=>if i=1000 then ψ a else if i=1020 then ψ b else ψ i
 have p0:ψ0 1000=ψ a:=if_pos rfl;have p1:ψ0 1020=ψ b:=(if_neg (by decide)).trans (if_pos rfl);have pN:oH kQ ((),(xs,(ys,())))=Heap.get [(1000,.own (.row 52 dk) xs),(1020,.own (.row 118 dZ) ys)]:=rfl;have i0:oH kQ ((),(xs,(ys,()))) 1000=some (.own (.row 52 dk) xs):=rfl;have i1:oH kQ ((),(xs,(ys,()))) 1020=some (.own (.row 118 dZ) ys):=rfl;have iN:∀i,oH kQ ((),(xs,(ys,()))) i≠none→i=1000∨i=1020:=fun i hi=>by
  by_cases e0:i=1000
  ·exact .inl e0
  by_cases e1:i=1020
  ·exact .inr e1
  rw[pN]at hi;simp[Heap.get,Ne.symm e0,Ne.symm e1]at hi
 have TO:∀q,Own ψ0 (oH kQ ((),(xs,(ys,())))) q→ob (ψ a)=some q∨ob (ψ b)=some q:=fun q ⟨i,h1,h2⟩=>by
  rcases iN i h1 with rfl|rfl
  ·exact .inl (by rw[←p0];exact h2)
  ·exact .inr (by rw[←p1];exact h2)
 have oh:∀q,Own ψ0 (oH kQ ((),(xs,(ys,())))) q→Own ψ h q:=fun q hq=>(TO q hq).elim (fun k=>⟨a,JX,k⟩) fun k=>⟨b,Hq,k⟩;have G0:Good Z ψ0 (oH kQ ((),(xs,(ys,())))) w w.heap.size (Own ψ0 (oH kQ ((),(xs,(ys,()))))):=by
  refine⟨fun i ty cs k=>?_,fun i ok x k=>?_,fun i q h1 h2=>⟨fun hz=>?_,.inr ⟨i,h1,h2⟩⟩,fun i j q h1 h2 h3 h4=>?_,g.ju⟩
  ·rcases iN i (by rw[k];simp) with rfl|rfl
   ·rw[i0]at k;cases k
   ·rw[i1]at k;cases k
  ·rcases iN i (by rw[k];simp) with rfl|rfl
   ·rw[i0]at k;cases k;rw[p0];exact g.row a _ _ ha
   ·rw[i1]at k;cases k;rw[p1];exact g.row b _ _ hb
  ·rcases iN i h1 with rfl|rfl
   ·rw[p0]at h2;exact(g.live a q JX h2).1 hz
   ·rw[p1]at h2;exact(g.live b q Hq h2).1 hz
  ·rcases iN i h1 with rfl|rfl<;>rcases iN j h2 with rfl|rfl
   ·rfl
   ·rw[p0]at h3;rw[p1]at h4;exact absurd (g.apart a b q JX Hq h3 h4) Cq
   ·rw[p1]at h3;rw[p0]at h4;exact absurd (g.apart a b q JX Hq h4 h3) Cq
   ·rfl
 have c0:(ψ a).cells=#[ψ a]∧(ψ a).oneCell'=true:=(g.row a _ _ ha).one;have c1:(ψ b).cells=#[ψ b]∧(ψ b).oneCell'=true:=(g.row b _ _ hb).one;have R0:ak Z ψ0 (oH kQ ((),(xs,(ys,())))) w (Ew kQ ((),(xs,(ys,())))) [.agg cs]:=by show ak Z ψ0 (oH kQ ((),(xs,(ys,())))) w [.agg [.bF 1000,.bF 1020]] [.agg cs];simp only[ak,av];exact⟨.agg cs,[],rfl,⟨cs,rfl,ψ a,[ψ b],Mb,⟨c0,fun _=>p0.symm⟩,ψ b,[],rfl,⟨c1,fun _=>p1.symm⟩,rfl⟩,rfl⟩
 refine(hc xs ys lu Z ψ0 w [.agg cs] G0 R0).mono fun en w' ⟨V,Z',ψ',e1,zs,zf,kp,gd,bL,hr⟩=>?_;have q0:ψ' 1000=ψ a:=(bL 1000 (by show 1000∈[1000,1020];simp)).trans p0;have q1:ψ' 1020=ψ b:=(bL 1020 (by show 1020∈[1000,1020];simp)).trans p1;have o0:(jA kQ (((xs,(ys,())),()),(xs,(ys,())))).get 1000=some (.own (.row 52 dk) xs):=rfl;have o1:(jA kQ (((xs,(ys,())),()),(xs,(ys,())))).get 1020=some (.own (.row 118 dZ) ys):=rfl;have o2:(jA kQ (((xs,(ys,())),()),(xs,(ys,())))).get 3000=some (.own (.row 52 dk) xs):=rfl;have o3:(jA kQ (((xs,(ys,())),()),(xs,(ys,())))).get 3001=some (.own (.row 118 dZ) ys):=rfl;generalize (jA kQ (((xs,(ys,())),()),(xs,(ys,())))).get=out at *;have keep:cV ψ h w w':=⟨kp.os,kp.tape,kp.output,kp.size,fun q hq hn=>kp.block q hq fun ho=>hn (oh q ho)⟩;have sm:cp Z w w':=keep.same g;have cK:∀i q,i≠a→i≠b→h i≠none→ob (ψ i)=some q→w'.heap[q]? = w.heap[q]? := fun i q k1 k2 h1 h2 =>kp.block q (g.bM ⟨i,h1,h2⟩) fun ho=>(TO q ho).elim (fun k=>k1 (g.apart i a q h1 JX h2 k)) fun k=>k2 (g.apart i b q h1 Hq h2 k)
 let κ:Nat→Nat:=fun i=>if i=id+128 then 3000 else if i=id+129 then 3001 else if i=a then 1000 else 1020
 let SM:Nat→Prop:=fun i=>i=id+128∨i=id+129∨i=a∨i=b
 let dN:Nat→Value:=fun i=>if i=id+128 then ψ' 3000 else if i=id+129 then ψ' 3001 else ψ i
 let H:Hp:=(bE.new (.agg [.bF (id+128),.bF (id+129)]) [(id+128,.own (.row 52 dk) xs),(id+129,.own (.row 118 dZ) ys)]).hp h
 have s0:dN (id+128)=ψ' 3000:=if_pos rfl;have s1:dN (id+129)=ψ' 3001:=(if_neg (by omega)).trans (if_pos rfl);have sn:∀i,i≠id+128→i≠id+129→dN i=ψ i:=fun i k1 k2=>(if_neg k1).trans (if_neg k2);have H0:H (id+128)=some (.own (.row 52 dk) xs):=by show(bE.hp h _) _=_;simp[bE.hp,Heap.get]
 have H1:H (id+129)=some (.own (.row 118 dZ) ys):=by show(bE.hp h _) _=_;simp[bE.hp,Heap.get]
 have Hn:∀i,i≠id+128→i≠id+129→H i=h i:=fun i k1 k2=>by show(bE.hp h _) _=_;simp[bE.hp,Heap.get,Ne.symm k1,Ne.symm k2]
 have Ha:H a=some (.own (.row 52 dk) xs):=(Hn a a0 a1).trans ha;have Hb:H b=some (.own (.row 118 dZ) ys):=(Hn b b0 b1).trans hb;have kap:∀i,SM i→out (κ i)≠none∧ψ' (κ i)=dN i:=fun i hi=>by
  rcases hi with rfl|rfl|rfl|rfl
  ·have:κ (id+128)=3000:=if_pos rfl;rw[this,o2,s0];exact⟨by simp,rfl⟩
  ·have:κ (id+129)=3001:=(if_neg (by omega)).trans (if_pos rfl);rw[this,o3,s1];exact⟨by simp,rfl⟩
  ·have:κ i=1000:=(if_neg a0).trans ((if_neg a1).trans (if_pos rfl));rw[this,o0,q0,sn i a0 a1];exact⟨by simp,rfl⟩
  ·have:κ i=1020:=(if_neg b0).trans ((if_neg b1).trans (if_neg (fun k=>Cq k.symm)));rw[this,o1,q1,sn i b0 b1];exact⟨by simp,rfl⟩
 have agc:∀i j,SM i→SM j→κ i=κ j→i=j:=fun i j hi hj hk=>by have v1:κ (id+128)=3000:=if_pos rfl;have v2:κ (id+129)=3001:=(if_neg (by omega)).trans (if_pos rfl);have v3:κ a=1000:=(if_neg a0).trans ((if_neg a1).trans (if_pos rfl));have v4:κ b=1020:=(if_neg b0).trans ((if_neg b1).trans (if_neg (fun k=>Cq k.symm)));rcases hi with rfl|rfl|rfl|rfl<;>rcases hj with rfl|rfl|rfl|rfl<;>first|rfl|(rw[v1]at hk;first|(rw[v2]at hk;cases hk)|(rw[v3]at hk;cases hk)|(rw[v4]at hk;cases hk))|(rw[v2]at hk;first|(rw[v1]at hk;cases hk)|(rw[v3]at hk;cases hk)|(rw[v4]at hk;cases hk))|(rw[v3,v4]at hk;cases hk)|(rw[v4,v3]at hk;cases hk)
 have back:∀i q,SM i→ob (dN i)=some q→¬Z' q∧(w.heap.size≤q∨ob (ψ a)=some q∨ob (ψ b)=some q):=fun i q hi h2=>by obtain⟨k1,k2⟩:=kap i hi;rw[←k2]at h2;obtain⟨h3,h4⟩:=gd.live (κ i) q k1 h2;exact⟨h3,h4.imp (fun h=>h) (TO q)⟩
 have rest:∀i,¬SM i→i≠id+128∧i≠id+129∧i≠a∧i≠b:=fun i hi=>⟨fun k=>hi (.inl k),fun k=>hi (.inr (.inl k)),fun k=>hi (.inr (.inr (.inl k))),fun k=>hi (.inr (.inr (.inr k)))⟩;have mixed:∀i j q,SM i→¬SM j→h j≠none→ob (dN i)=some q→ob (ψ j)=some q→False:=fun i j q hi hj h2 h3 h4=>by
  obtain⟨_,_,k3,k4⟩:=rest j hj;rcases (back i q hi h3).2 with k|k|k
  ·have:=g.bM ⟨j,h2,h4⟩;omega
  ·exact k3 (g.apart j a q h2 JX h4 k)
  ·exact k4 (g.apart j b q h2 Hq h4 k)
 have ids:∀i,H i≠none→(h i≠none∧dN i=ψ i)∨N i:=fun i hi=>by
  by_cases k1:i=id+128
  ·exact .inr (k1▸Yt)
  by_cases k2:i=id+129
  ·exact .inr (k2▸nR1)
  ·rw[Hn i k1 k2]at hi;exact .inl ⟨hi,sn i k1 k2⟩
 refine⟨V,Z',dN,e1,⟨zs,fun q hq=>(zf q hq).imp (fun h=>h) fun k=>k.imp (oh q) fun h=>h,keep,ids,⟨fun i ty cs k=>?_,fun i ok x k=>?_,fun i q h1 h2=>?_,fun i j q h1 h2 h3 h4=>?_,gd.ju⟩⟩,?_⟩
 ·have k1:i≠id+128:=fun e=>by rw[e]at k;have k:H (id+128)=some (.box ty cs):=k;rw[H0]at k;cases k
  have k2:i≠id+129:=fun e=>by rw[e]at k;have k:H (id+129)=some (.box ty cs):=k;rw[H1]at k;cases k
  have k3:i≠a:=fun e=>by rw[e]at k;have k:H a=some (.box ty cs):=k;rw[Ha]at k;cases k
  have k4:i≠b:=fun e=>by rw[e]at k;have k:H b=some (.box ty cs):=k;rw[Hb]at k;cases k
  have pK:h i=some (.box ty cs):=(Hn i k1 k2).symm.trans k;obtain⟨gg,vs,f1,f2,f3,f4⟩:=g.box i ty cs pK;exact⟨gg,vs,(sn i k1 k2).trans f1,(cK i gg k3 k4 (by rw[pK];simp) (by rw[f1];rfl)).trans f2,f3.move zs sm (fun j hj bq=>(ids j bq).resolve_right hj) (bf i ty cs pK),f4⟩
 ·by_cases k1:i=id+128
  ·subst k1;have k:H (id+128)=some (.own ok x):=k;rw[H0]at k;cases k;rw[s0];exact gd.row 3000 _ _ o2
  by_cases k2:i=id+129
  ·subst k2;have k:H (id+129)=some (.own ok x):=k;rw[H1]at k;cases k;rw[s1];exact gd.row 3001 _ _ o3
  have pK:h i=some (.own ok x):=(Hn i k1 k2).symm.trans k;rw[sn i k1 k2];by_cases k3:i=a
  ·subst k3;rw[ha]at pK;cases pK;rw[←q0];exact gd.row 1000 _ _ o0
  by_cases k4:i=b
  ·subst k4;rw[hb]at pK;cases pK;rw[←q1];exact gd.row 1020 _ _ o1
  exact(g.row i ok x pK).kept zs sm fun q hq=>cK i q k3 k4 (by rw[pK];simp) hq
 ·by_cases h4:SM i
  ·obtain⟨k1,k2⟩:=back i q h4 h2;refine⟨k1,?_⟩;rcases k2 with k|k|k
   ·exact .inl (adk hB k)
   ·exact(g.live a q JX k).2
   ·exact(g.live b q Hq k).2
  ·obtain⟨r1,r2,r3,r4⟩:=rest i h4;have h1:h i≠none:=by rw[←Hn i r1 r2];exact h1
   rw[sn i r1 r2]at h2;refine⟨fun hz=>?_,(g.live i q h1 h2).2⟩;rcases zf q hz with k|k|k
   ·exact(g.live i q h1 h2).1 k
   ·rcases TO q k with k|k
    ·exact r3 (g.apart i a q h1 JX h2 k)
    ·exact r4 (g.apart i b q h1 Hq h2 k)
   ·have:=g.bM ⟨i,h1,h2⟩;omega
 ·by_cases hi:SM i<;>by_cases hj:SM j
  ·obtain⟨k1,k2⟩:=kap i hi;obtain⟨k3,k4⟩:=kap j hj;rw[←k2]at h3;rw[←k4]at h4;exact agc i j hi hj (gd.apart _ _ q k1 k3 h3 h4)
  ·obtain⟨r1,r2,r3,r4⟩:=rest j hj;rw[sn j r1 r2]at h4;exact(mixed i j q hi hj (by rw[←Hn j r1 r2];exact h2) h3 h4).elim
  ·obtain⟨r1,r2,r3,r4⟩:=rest i hi;rw[sn i r1 r2]at h3;exact(mixed j i q hj hi (by rw[←Hn i r1 r2];exact h1) h4 h3).elim
  ·obtain⟨r1,r2,_,_⟩:=rest i hi;obtain⟨t1,t2,_,_⟩:=rest j hj;rw[sn i r1 r2]at h3;rw[sn j t1 t2]at h4;exact g.apart i j q (by rw[←Hn i r1 r2];exact h1) (by rw[←Hn j t1 t2];exact h2) h3 h4
 ·have hr:av Z' ψ' out w' (.agg [.bF 3000,.bF 3001]) V:=hr;simp only[av,ak]at hr;obtain⟨vs,rfl,u1,_,ns,⟨d1,d2⟩,u2,_,rfl,⟨d3,d4⟩,rfl⟩:=hr;show av Z' dN H w' (.agg [.bF (id+128),.bF (id+129)]) (.agg vs);simp only[av,ak];exact⟨vs,rfl,u1,[u2],ns,⟨d1,fun _=>(d2 (by rw[o2];simp)).trans s0.symm⟩,u2,[],rfl,⟨d3,fun _=>(d4 (by rw[o3];simp)).trans s1.symm⟩,rfl⟩
end Go.Vs
namespace Go.Vs
open Go.Proofs
abbrev TQ:(f:FuncId)→(g:aL)→Option (g.A→Option g.B):=fun _ _=>none
section
variable (SG:FuncId→Option aL) (AN:FuncId→Nat→Option Shape)
noncomputable abbrev TR:FT:=Fix Tryz.prog Eqs SG AN TQ
noncomputable abbrev LXG(f:FuncId)(g:aL)(fn:Func):JT g:=Lp Tryz.prog Eqs SG AN TQ f g fn
end
theorem E6{SG:FuncId→Option aL}{AN:FuncId→Nat→Option Shape}{f:FuncId}{g:aL}{fn:Func}{x:g.A}{y:g.B}(hb:body Tryz.prog (f%1000)=some (fn,fn.body.getD .skip))(hc:(decide (g.ps.length≤fn.ntmps)&&decide (g.bs.length≤8))=true) (h:QM SG AN f g fn (TR SG AN) (LXG SG AN f g fn) x=some y):TR SG AN f g x=some y:=KY rfl hb hc h
theorem QN{SG:FuncId→Option aL}{AN:FuncId→Nat→Option Shape}{f j:Nat}{g:aL}{fn:Func}{sh:Shape}{x:sh.T}{y:g.B}(hs:(match aN Tryz.prog (f%1000) j with | .inLoop _::_=>true|_=>false)=true)
  (h:Xd SG AN f j g fn sh (TR SG AN) (LXG SG AN f g fn) x=some y):LXG SG AN f g fn sh (aN Tryz.prog (f%1000) j) x=some y:=by
 unfold Xd at h;generalize aN Tryz.prog (f%1000) j=s at hs h ⊢
 split at hs
 ·exact Pz h
 ·cases hs
theorem QO{α β:Type}{o:Option α}{f:α→Option β}{a:α}{r:Option β}(h:o=some a)(k:f a=r):o.bind f=r:=by rw[h];exact k
theorem Bz{α:Type}{c:Bool}{x y r:α}(h:c=true)(k:x=r):cond c x y=r:=by subst h;exact k
theorem TS{α:Type}{c:Bool}{x y r:α}(h:c=false)(k:y=r):cond c x y=r:=by subst h;exact k
theorem QP{R:Type}{f:Nat→Option R}{r:R}(h0:f 0=some r)(h1:f 1=some r):qc 2 f=some r :=kM (by omega) fun j hj=>by
  rcases j with _|_|j
  ·exact h0
  ·exact h1
  ·omega
theorem aa5(xs:List ag)(h:aK 0 xs.length=true):TR Vu An0 500127 TM ((),(xs,()))=some ((xs,()),(xs,())):=by
 refine E6 (fn:=Tryz.f127) (by kernel_rfl) (by kernel_rfl) ((aa1 _ _ _).trans ?_)
 cases xs with
 |nil=>exact Bz rfl (QP rfl rfl)
 |cons x r=>exact TS rfl (Bz h rfl)
theorem aa6(xs:List ah)(h:aK 0 xs.length=true):TR Vu An0 500128 TN ((),(xs,()))=some ((xs,()),(xs,())):=by
 refine E6 (fn:=Tryz.f128) (by kernel_rfl) (by kernel_rfl) ((aa2 _ _ _).trans ?_)
 cases xs with
 |nil=>exact Bz rfl (QP rfl rfl)
 |cons x r=>exact TS rfl (Bz h rfl)
theorem Lo{f:FuncId}{g:aL}(h:Vu f=some g):(f,g)∈Xa:=by
 unfold Vu at h;obtain⟨p,hp,rfl⟩:=ads.1 h;have h1:=adt hp;have h2:=adC hp;have:p.1=f:=by simpa using h2
 subst this;exact h1
theorem Lq{f:FuncId}{g:aL}(h:SL f=some g):(f,g)∈Xb:=by
 unfold SL at h;obtain⟨p,hp,rfl⟩:=ads.1 h;have h1:=adt hp;have h2:=adC hp;have:p.1=f:=by simpa using h2
 subst this;exact h1
noncomputable def JY(l:List (Nat×aL)):Bool:=l.all fun p=>match Tryz.prog.funcs[p.1%1000]? with|some fn => !(fn.name== "runtime.NumGoroutine")&&fn.body.isSome|none=>false
theorem yZ{l:List (Nat×aL)}(key:JY l=true){f:FuncId}{g:aL}(hm:(f,g)∈l):iQ Tryz.prog (f%1000):=by
 have:=ado.1 key _ hm;simp only at this
 split at this
 ·rename_i fn hf;simp only[Bool.and_eq_true,Bool.not_eq_true']at this;exact⟨fn,hf,this.1,this.2⟩
 ·cases this
theorem aa7{f:FuncId}{g:aL}{x:g.A}{y:g.B}(hs:Vu f=some g)(h:TR Vu An0 f g x=some y):Dc Tryz.prog f g x y :=yT (fun f g u hf hu=>by have hm:=Lo hf;simp only[Xa,List.mem_cons,List.not_mem_nil,or_false,Prod.mk.injEq]at hm;rcases hm with⟨_,rfl⟩|⟨_,rfl⟩<;>cases hu) By (fun f g hf=>yZ (by kernel_rfl) (Lo hf)) rE (fun f g u x y _ hu _=>by cases hu) hs h
theorem TT:fE Tryz.prog 127 (rF 52 dk):=sI rfl fun xs h=>by have:=aa7 (by kernel_rfl) (aa5 xs h);exact this
theorem TU:fE Tryz.prog 128 (rF 118 dZ):=sI rfl fun xs h=>by have:=aa7 (by kernel_rfl) (aa6 xs h);exact this
theorem aa8(l:List ab)(hl:l.length≤50000000):TR SL Xc 110 yq ((l,()),())=some ((l,()),()):=by
 refine E6 (fn:=Tryz.f110) (by kernel_rfl) (by kernel_rfl) ((aa3 _ _ _).trans ?_)
 cases l with
 |nil=>exact Bz rfl (QP rfl rfl)
 |cons x r=>exact TS rfl (Bz (decide_eq_true (show 0+(x::r).length≤1073741824 by omega)) rfl)
theorem QQ{i n:Nat}(h:i<n)(hn:n≤50000000):IntKind.wrap .i64 ((i:Int)+1)=((i+1:Nat):Int):=by
 unfold IntKind.wrap;simp only[IntKind.bits,IntKind.signed];simp
 split<;>omega
theorem aa9(xs:List ag)(ys:List ah)(h:oO xs ys=true):TR SL Xc 500096 kQ ((),(xs,(ys,())))=some (((xs,(ys,())),()),(xs,(ys,()))):=by
 unfold oO at h;simp only[Bool.and_eq_true,decide_eq_true_eq,List.all_eq_true]at h;obtain⟨hx,hy,hr⟩:=h;refine E6 (fn:=Tryz.f96) (by kernel_rfl) (by kernel_rfl) ((aa4 _ _ _).trans ?_);refine Bz (decide_eq_true (show 0+xs.length≤1073741824 by omega)) (Bz (decide_eq_true (show 0+ys.length≤1073741824 by omega)) ?_);have loop:∀(n i:Nat) (out:List ag),i+n=xs.length→out=xs→LXG SL Xc 500096 kQ Tryz.f96 HB (aN Tryz.prog 96 0) ((((xs.length:Nat):Int),((i:Int),())),(((([]:List ag),(([]:List ah),())),((out,(ys,())),())),(xs,(ys,()))))=some (((xs,(ys,())),()),(xs,(ys,()))):=by
  intro n
  induction n with
  |zero =>intro i out hi ho;subst ho;refine QN (j:=0) (by kernel_rfl) ((Ln _ _ _).trans ?_);exact TS (decide_eq_false (show ¬((i:Int)<((out.length:Nat):Int)) by omega)) rfl
  |succ n ih =>
   intro i out hi ho;have aF:i<xs.length:=by omega
   have QK:out[i]? = some xs[i]:=by rw[ho];exact aci aF
   have TV:out.length=xs.length:=by rw[ho]
   have c1:(decide ((0:Int)≤(i:Int))&&decide ((i:Int)<((out.length:Nat):Int)))=true:=by rw[decide_eq_true (show(0:Int)≤(i:Int) by omega),decide_eq_true (show(i:Int)<((out.length:Nat):Int) by omega)];rfl
   refine QN (j:=0) (by kernel_rfl) ((Ln _ _ _).trans ?_);refine Bz (decide_eq_true (show((i:Int)<((xs.length:Nat):Int)) by omega)) (Bz c1 (QO QK ?_));refine QO (aa8 xs[i].2.1 (hr _ (adr aF))) ?_;refine Bz c1 (QO QK ?_);have hs:out.set i (xs[i].1,(xs[i].2.1,xs[i].2.2))=xs:=by subst ho;exact List.set_getElem_self aF
   have:=ih (i+1) (out.set i (xs[i].1,(xs[i].2.1,xs[i].2.2))) (by omega) hs;rw[←QQ aF hx]at this;exact this
 exact loop xs.length 0 xs (by omega) rfl
theorem agd{f:FuncId}{g:aL}{x:g.A}{y:g.B}(hs:SL f=some g)(h:TR SL Xc f g x=some y):Dc Tryz.prog f g x y :=yT (fun f g u hf hu=>by
  have hm:=Lq hf;simp only[Xb,List.mem_cons,List.not_mem_nil,or_false,Prod.mk.injEq]at hm;rcases hm with⟨_,rfl⟩|⟨_,rfl⟩|⟨rfl,rfl⟩|⟨rfl,rfl⟩
  ·cases hu
  ·cases hu
  ·cases hu;intro Z ψ h w B0 O N hh id e vs us;exact TT
  ·cases hu;intro Z ψ h w B0 O N hh id e vs us;exact TU) By (fun f g hf=>yZ (by kernel_rfl) (Lq hf)) rE (fun f g u x y _ hu _=>by cases hu) hs h
theorem Na:fE Tryz.prog 96 EL:=E5 fun xs ys h=>by have:=agd (by kernel_rfl) (aa9 xs ys h);exact this
end Go.Vs
namespace Go.Vs
open Go.Proofs Go.RowKit
abbrev Vv:Array Value:=#[.slice none 0 0,.slice none 0 0,.slice none 0 0,.int .i64 0,.slice none 0 0]
theorem TW(w:World):Calls Tryz.prog 24 #[] w fun e w'=>e=.returned (.pointer (some ⟨w.heap.size,0,none⟩))∧w'=w.alloc (.cells Vv 100):=by
 go_enter Tryz.func24,Tryz.ntmps24
 go_wp2
 go_ret
 exact⟨rfl,rfl⟩
theorem JZ:fE Tryz.prog 24 WS:=by
 intro Z ψ h w B0 O N hh id e vs us g hB bu hN bf me ns Co he;unfold WS at he
 split at he
 rotate_left
 ·cases he
 simp only[Option.some.injEq,Prod.mk.injEq,true_and]at he;subst he;simp only[ak]at ns;subst ns;have k0:aD Z w IW (kC IW) Vv.toList:=by have z:∀(k:K),aD Z w (.sl k) [] [.slice none 0 0]:=fun k=>⟨_,rfl,none,0,rfl,adg _,fun _=>rfl,fun i x h=>by simp at h⟩;exact⟨[.slice none 0 0,.slice none 0 0,.slice none 0 0],[.int .i64 0,.slice none 0 0],rfl,⟨[.slice none 0 0,.slice none 0 0],[.slice none 0 0],rfl,⟨[.slice none 0 0],[.slice none 0 0],rfl,z _,z _⟩,z _⟩,[.int .i64 0],[.slice none 0 0],rfl,rfl,z _⟩
 have n0:N (id+128):=hN 128 (by omega);have b1:=qi g hB (id+128) 100 n0 (fH (h:=h) (ψ:=ψ) k0) k0.one (fun i ty cs hb=>ax.imp (p:=fun j=>¬N j) (q:=fun j=>j≠id+128) (fun j hj e=>hj (by rw[e];exact n0)) (bf i ty cs hb)) (by show ax _ [.sl false dk [],.sl false dZ [],.sl false cz [],.int .i64 0,.sl false kx []];simp[ax,aE]);refine(TW w).mono fun en w' ⟨e1,e2⟩=>?_;subst e2;have hH:(bE.new (.ref (id+128) 0 0 0) [(id+128,.box 100 (enc IW (kC IW)))]).hp h=dA h (id+128) (some (.box 100 (enc IW (kC IW)))):=by
  funext i;show(match Heap.get _ i with|some o=>some o|none=>h i)=_;unfold dA;by_cases h2:i=id+128
  ·subst h2;simp[Heap.get]
  ·simp[Heap.get,h2,Ne.symm h2]
 refine⟨_,Z,dA ψ (id+128) (.pointer (some ⟨w.heap.size,0,none⟩)),e1,?_,?_⟩
 ·rw[hH];refine⟨fun _ h=>h,fun _ h=>.inl h,⟨rfl,rfl,rfl,by rw[World.size_alloc];omega,fun q hq _=>?_⟩,fun i hi=>?_,b1.dB⟩
  ·rw[heap_alloc_old _ _ hq]
  ·rcases b1.ids i hi with⟨h3,h4⟩|h3
   ·exact .inl ⟨h3,h4⟩
   ·exact .inr h3
 ·rw[hH];simp only[bE.v,av];refine⟨_,rfl,fun _=>?_⟩;rw[bg];rfl
theorem TX(w:World)(b:Nat)(v0 v1 v2 v3 v4:Value)(hg:w.heap[b]? = some (.cells #[v0,v1,v2,v3,v4] 100 (0,0))):Calls Tryz.prog 29 #[.pointer (some ⟨b,0,none⟩)] w fun e w'=>e=.returned v3∧w'=w:=by
 go_enter Tryz.func29,Tryz.ntmps29
 go_wp2_with (simp[World.cell?,hg])
 go_ret
 exact⟨rfl,rfl⟩
theorem TY(w:World)(b:Nat)(p0 p1 p2 p4:Option Addr)(l0 c0 l1 c1 l2 c2 l4 c4:Nat)(n:Int)(hg:w.heap[b]? = some (.cells #[.slice p0 l0 c0,.slice p1 l1 c1,.slice p2 l2 c2,.int .i64 n,.slice p4 l4 c4] 100 (0,0))):Calls Tryz.prog 35 #[.pointer (some ⟨b,0,none⟩)] w fun e w'=>e=.returned (.pointer (some ⟨w.heap.size,0,none⟩))∧w'=w.alloc (.cells #[.slice p0 l0 c0,.slice p1 l1 c1,.slice p2 l2 c2,.int .i64 n,.slice p4 l4 c4] 100):=by
 go_enter Tryz.func35,Tryz.ntmps35
 go_wp2_with (simp[World.cell?,hg])
 go_ret
 exact⟨rfl,rfl⟩
theorem HC{Z:Nat→Prop}{ψ:Nat→Value}{h:Hp}{w:World}{B0:Nat}{O:Nat→Prop}{hh:Heap}(g:Good Z ψ h w B0 O)(bu:∀id o,hh.get id=some o→h id=some o){i:Nat}{cs:List AV}(hb:tP hh i 100=some cs){x:IW.T}(hd:c8 IW cs=some x) {us:List Value} (ns:ak Z ψ h w [.ref i 0 0 0] us) :
  ∃(b:Nat) (p0 p1 p2 p4:Option Addr) (l0 c0 l1 c1 l2 c2 l4 c4:Nat),us=[.pointer (some ⟨b,0,none⟩)]∧w.heap[b]? = some (.cells #[.slice p0 l0 c0,.slice p1 l1 c1,.slice p2 l2 c2,.int .i64 x.2.1,.slice p4 l4 c4] 100 (0,0)) ∧ aD Z w IW x [.slice p0 l0 c0,.slice p1 l1 c1,.slice p2 l2 c2,.int .i64 x.2.1,.slice p4 l4 c4]:=by
 have hg:hh.get i=some (.box 100 cs):=by
  unfold tP at hb
  split at hb
  ·rename_i ty cs' hq
   split at hb
   ·rename_i e;cases hb;rw[hq,e]
   ·cases hb
  ·cases hb
 have h1:=bu _ _ hg;obtain⟨b,vs,e1,e2,e3,e4⟩:=g.box i 100 cs h1;have hk:=c9 hd e3;have hu:us=[.pointer (some ⟨b,0,none⟩)]:=by simp only[ak,av]at ns;obtain⟨v,iq,rfl,⟨a,rfl,ha⟩,rfl⟩:=ns;rw[ha (by rw[h1];simp),e1];rfl
 have mY:=hk;obtain⟨l⟩:=vs;obtain⟨ua,ub,hq,⟨ud,ug,rfl,⟨uv,ue,rfl,⟨_,rfl,p0,c0,rfl,_⟩,⟨_,rfl,p1,c1,rfl,_⟩⟩,⟨_,rfl,p2,c2,rfl,_⟩⟩,un,u4,rfl,hn,⟨_,rfl,p4,c4,rfl,_⟩⟩:=hk;have hn:un=[.int .i64 x.2.1]:=hn;subst hn;have hq:l=_:=hq;subst hq;exact⟨b,p0,p1,p2,p4,_,c0,_,c1,_,c2,_,c4,hu,e2,mY⟩
theorem E7:fE Tryz.prog 29 JI:=by
 intro Z ψ h w B0 O N hh id e vs us g hB bu hN bf me ns Co he;unfold JI at he
 split at he
 rotate_left
 ·cases he
 split at he
 rotate_left
 ·cases he
 rename_i i cs hb
 split at he
 rotate_left
 ·cases he
 rename_i x hd
 cases he
 obtain⟨b,p0,p1,p2,p4,l0,c0,l1,c1,l2,c2,l4,c4,rfl,hg,_⟩:=HC g bu hb hd ns;refine(TX w b _ _ _ _ _ hg).mono fun en w' ⟨e1,e2⟩=>?_;subst e2;refine⟨_,Z,ψ,e1,Next.refl g,?_⟩;simp only[bE.v,av]
theorem HD:fE Tryz.prog 35 PS:=by
 intro Z ψ h w B0 O N hh id e vs us g hB bu hN bf me ns Co he;unfold PS at he
 split at he
 rotate_left
 ·cases he
 split at he
 rotate_left
 ·cases he
 rename_i i cs hb
 split at he
 rotate_left
 ·cases he
 rename_i x hd
 cases he
 obtain⟨b,p0,p1,p2,p4,l0,c0,l1,c1,l2,c2,l4,c4,rfl,hg,k0⟩:=HC g bu hb hd ns;have n0:N (id+128):=hN 128 (by omega);have b1:=qi g hB (id+128) 100 n0 (vs:=#[.slice p0 l0 c0,.slice p1 l1 c1,.slice p2 l2 c2,.int .i64 x.2.1,.slice p4 l4 c4]) (fH (h:=h) (ψ:=ψ) k0) k0.one (fun i ty cs hb=>ax.imp (p:=fun j=>¬N j) (q:=fun j=>j≠id+128) (fun j hj e=>hj (by rw[e];exact n0)) (bf i ty cs hb)) (by show ax _ [.sl false dk _,.sl false dZ _,.sl false cz _,.int .i64 _,.sl false kx _];simp[ax,aE]);refine(TY w b _ _ _ _ _ _ _ _ _ _ _ _ _ hg).mono fun en w' ⟨e1,e2⟩=>?_;subst e2;have hH:(bE.new (.ref (id+128) 0 0 0) [(id+128,.box 100 (enc IW x))]).hp h=dA h (id+128) (some (.box 100 (enc IW x))):=by
  funext i;show(match Heap.get _ i with|some o=>some o|none=>h i)=_;unfold dA;by_cases h2:i=id+128
  ·subst h2;simp[Heap.get]
  ·simp[Heap.get,h2,Ne.symm h2]
 refine⟨_,Z,dA ψ (id+128) (.pointer (some ⟨w.heap.size,0,none⟩)),e1,?_,?_⟩
 ·rw[hH];refine⟨fun _ h=>h,fun _ h=>.inl h,⟨rfl,rfl,rfl,by rw[World.size_alloc];omega,fun q hq _=>?_⟩,fun i hi=>?_,b1.dB⟩
  ·rw[heap_alloc_old _ _ hq]
  ·rcases b1.ids i hi with⟨h3,h4⟩|h3
   ·exact .inl ⟨h3,h4⟩
   ·exact .inr h3
 ·rw[hH];simp only[bE.v,av];refine⟨_,rfl,fun _=>?_⟩;rw[bg];rfl
end Go.Vs
namespace Go.Vs
open Go.Proofs
theorem QR:∀f g u,Sg f=some g→g.x=some u→fE Tryz.prog (f%1000) u:=fun f g u h hu=>by
 have hm:=QL h;have key:(sgs.all fun p=>(p.2.x.isNone || (p.1==176 || (p.1==211 || (p.1==233 || (p.1==177 || (p.1==186 || (p.1==220 || (p.1==500096 || (p.1==24 || (p.1==29 || (p.1==35))))))))))))=true:=by kernel_rfl
 have:=ado.1 key _ hm;simp only[hu,Option.isNone_some,Bool.false_or,Bool.or_eq_true,beq_iff_eq]at this;rcases this with rfl|rfl|rfl|rfl|rfl|rfl|rfl|rfl|rfl|rfl
 ·have e:Sg 176=some Vd:=by kernel_rfl
  rw[e]at h;cases h;cases hu;intro Z ψ h w B0 O N hh id e vs us;exact tx (k:=dk) WX
 ·have e:Sg 211=some Vg:=by kernel_rfl
  rw[e]at h;cases h;cases hu;intro Z ψ h w B0 O N hh id e vs us;exact tx (k:=dZ) WZ
 ·have e:Sg 233=some Vh:=by kernel_rfl
  rw[e]at h;cases h;cases hu;intro Z ψ h w B0 O N hh id e vs us;exact tx (k:=cz) W9
 ·have e:Sg 177=some Ve:=by kernel_rfl
  rw[e]at h;cases h;cases hu;intro Z ψ h w B0 O N hh id e vs us;exact Bx (k:=dk) WY
 ·have e:Sg 186=some Vf:=by kernel_rfl
  rw[e]at h;cases h;cases hu;intro Z ψ h w B0 O N hh id e vs us;exact Bx (k:=dZ) W0
 ·have e:Sg 220=some Vi:=by kernel_rfl
  rw[e]at h;cases h;cases hu;intro Z ψ h w B0 O N hh id e vs us;exact Hz (k:=bm) TK
 ·have e:Sg 500096=some Hl:=by kernel_rfl
  rw[e]at h;cases h;cases hu;intro Z ψ h w B0 O N hh id e vs us;exact Na
 ·have e:Sg 24=some Vm:=by kernel_rfl
  rw[e]at h;cases h;cases hu;intro Z ψ h w B0 O N hh id e vs us;exact JZ
 ·have e:Sg 29=some Vl:=by kernel_rfl
  rw[e]at h;cases h;cases hu;intro Z ψ h w B0 O N hh id e vs us;exact E7
 ·have e:Sg 35=some Vn:=by kernel_rfl
  rw[e]at h;cases h;cases hu;intro Z ψ h w B0 O N hh id e vs us;exact HD
end Go.Vs
