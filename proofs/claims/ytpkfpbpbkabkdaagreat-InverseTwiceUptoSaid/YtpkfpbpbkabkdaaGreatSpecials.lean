/- slices.Insert -/
import Derived.Test.YtpkfpbpbkabkdaaGreatEngineD
import Derived.Lib.AppendZerosOnto
import Derived.Lib.Overlaps
import Derived.Lib.Walk
import Derived.Shelf.Spec.SlicesInsert
import Derived.Laws.NewBlocks
set_option linter.unusedVariables false
set_option linter.unusedSimpArgs false
namespace Go.Vs
variable {P:Program} {w:World}
theorem lu(w:World)(dT sT ty elem:TypeId)(sz g o abE akQ:Nat)(a:Addr)(abF akR:Nat)(cur:Array Value)(t:TypeId)(cs:List Value) (hu:P.underlying dT=some (.slice elem)) (hs:(P.info? elem).map (·.size)=some sz) (hg:w.heap[g]? = some (.cells cur t (0,0))) (hn:cs.length=Nat.min abF abE*sz) (zn:∀(j:Nat) v,cs[j]? = some v→w.cell? (a.add j)=some v) (X8:o+cs.length≤cur.size) (h1:∀v∈cs,v.oneCell'=true) :
  (Builtin.copy_ #[dT,sT] ty #[.slice (some ⟨g,o,none⟩) abE akQ,.slice (some a) abF akR]).run P w = .ok (goInt (Nat.min abF abE)) (w.setRow g (cur.toList.take o++cs++cur.toList.drop (o+cs.length)).toArray):=by
 have hl:=run_loadCells_list (P:=P) w a cs zn;have xl:=run_storeCells_at P g o t cs 0 cur w hg (by simpa using X8) h1
 cases hq:P.info? elem with
 |none=>simp[hq]at hs
 |some i =>
  have hi:i.size=sz:=by simpa[hq] using hs
  simp only[Nat.add_zero]at xl;simp[Builtin.copy_,run_underlying hu,Builtin.lenOf,Builtin.firstCells,sizeOf,typeInfo,hq,hi,←hn,hl,xl]
theorem qz(w:World)(t ty e:TypeId)(sz g n c:Nat)(a:Addr)(m mc:Nat)(cur:Array Value)(news:List Value)(ht:P.underlying t=some (.slice e))(hs:(P.info? e).map (·.size)=some sz) (hg:w.heap[g]? = some (.cells cur e (0,0))) (hl:news.length=m*sz) (zn:∀(j:Nat) v,news[j]? = some v→w.cell? (a.add j)=some v) (h1:∀v∈news,v.oneCell'=true) (eT:n+m≤c) (jV:c*sz≤cur.size) :
  (Builtin.append_ #[t,t] ty #[.slice (some ⟨g,0,none⟩) n c,.slice (some a) m mc]).run P w=.ok (.slice (some ⟨g,0,none⟩) (n+m) c) (w.setRow g (cur.toList.take (n*sz)++news++cur.toList.drop (n*sz+news.length)).toArray):=by
 have hle:n*sz+m*sz≤c*sz:=by rw[←Nat.add_mul];exact acM _ eT
 have afs:=run_loadCells_list (P:=P) w a news zn;have xl:=run_storeCells_at P g (n*sz) e news 0 cur w hg (by omega) h1;simp only[Nat.add_zero]at xl;have ha:(⟨g,0,none⟩:Addr).add (n*sz)=⟨g,n*sz,none⟩:=by rw[dm,Nat.zero_add]
 cases hq:P.info? e with
 |none=>simp[hq]at hs
 |some i =>
  have hi:i.size=sz:=by simpa[hq] using hs
  simp[Builtin.append_,run_underlying ht,Builtin.lenOf,Builtin.firstCells,sizeOf,typeInfo,hq,hi,←hl,afs,eT,ha,xl]
theorem tE(w:World)(t ty e:TypeId)(sz g o k c:Nat)(cur:Array Value)(i:TypeInfo)(z:Value)(ht:P.underlying t=some (.slice e))(hi:P.info? e=some i)(hz:i.zero=some z)(BY:z.cells.size=sz)(h1:∀v∈z.cells.toList,v.oneCell'=true) (hg:w.heap[g]? = some (.cells cur e (0,0))) (hk:0<k) (X8:o+k*sz≤cur.size) :
  (Builtin.clear_ #[t] ty #[.slice (some ⟨g,o,none⟩) k c]).run P w=.ok (.tuple #[]) (w.setRow g (cur.toList.take o++(Builtin.zeroCells z.cells k).toList++cur.toList.drop (o+(Builtin.zeroCells z.cells k).toList.length)).toArray):=by
 have hl:(Builtin.zeroCells z.cells k).toList.length=k*sz:=by simp[Builtin.zeroCells,BY]
 have ta:∀v∈(Builtin.zeroCells z.cells k).toList,v.oneCell'=true:=fun v hv=>by
  simp only[Builtin.zeroCells,Array.toList_map,List.mem_map]at hv;obtain⟨q,hq,rfl⟩:=hv;have hq':q<k*z.cells.size:=by simpa using hq
  have hp:0<z.cells.size:=by
   rcases Nat.eq_zero_or_pos z.cells.size with h|h
   ·rw[h,Nat.mul_zero]at hq';omega
   ·exact h
  have aG:q%z.cells.size<z.cells.size:=adv _ hp;rw[getElem!_pos z.cells _ aG];exact h1 _ (by simp)
 have xl:=run_storeCells_at P g o e (Builtin.zeroCells z.cells k).toList 0 cur w hg (by omega) ta;simp only[Nat.add_zero]at xl;obtain⟨m,rfl⟩:∃m,k=m+1:=⟨k-1,by omega⟩;simp[Builtin.clear_,run_underlying ht,zeroValue,typeInfo,hi,hz,xl]
end Go.Vs
namespace Go.Vs
open Go.Proofs Go.RowKit
def EM(P:Program)(f:FuncId)(e:TypeId)(size:Nat):Prop :=∀(w:World) (v u:Value) (n i:Nat) (xs ys:List Value),fF w e size v n xs→fF w e size u 1 ys→i≤n→n+1≤gy→(∀b,ob v=some b→ob u≠some b) →(∀q∈xs,q.oneCell'=true)→(∀q∈ys,q.oneCell'=true) → Calls P f #[v,.int .i64 i,u] w fun en w'=>∃v',en=.returned v'∧fF w' e size v' (n+1) (xs.take (i*size)++(ys++xs.drop (i*size)))∧w.grownBy w' (ob v)∧(ob v'=ob v∨∀b,ob v'=some b→w.heap.size≤b)
def I5(P:Program)(f:FuncId)(e:TypeId)(sz:Nat):Prop:=∀(w:World) (v u:Value) (n:Nat) (xs ys:List Value) (hv:fF w e sz v n xs) (hu:fF w e sz u 1 ys) (hm:n+1≤gy) (h1:∀q∈ys,q.oneCell'=true),Calls P f #[v,.int .i64 n,u] w fun en w'=>∃v',en=.returned v'∧fF w' e sz v' (n+1) (xs++ys)∧w.grownBy w' (ob v)∧(ob v'=ob v∨∀b,ob v'=some b→w.heap.size≤b)
def yq(P:Program)(f:FuncId)(e:TypeId)(sz:Nat):Prop:=∀(w:World) (g c g2 c2 n i:Nat) (xs ys:List Value) (cur dM:Array Value) (hg:w.heap[g]? = some (.cells cur e (0,0))) (jV:cur.size=c*sz) (lz:cur.toList.take (n*sz)=xs) (yr:xs.length=n*sz) (vD:w.heap[g2]? = some (.cells dM e (0,0))) (oJ:dM.size=c2*sz) (qS:0<c2) (lV:dM.toList.take (1*sz)=ys) (FZ:ys.length=1*sz) (bq:g2≠g) (hi:i<n) (eT:n+1≤c) (hc:c≤maxLen) (h1:∀q∈xs,q.oneCell'=true) (h2:∀q∈ys,q.oneCell'=true),Calls P f #[.slice (some ⟨g,0,none⟩) n c,.int .i64 i,.slice (some ⟨g2,0,none⟩) 1 c2] w fun en w'=>en=.returned (.slice (some ⟨g,0,none⟩) (n+1) c) ∧ ∃kb:Array Value,w'.heap[g]? = some (.cells kb e (0,0))∧kb.size=cur.size∧kb.toList.take ((n+1)*sz)=xs.take (i*sz)++(ys++xs.drop (i*sz))∧w.grownBy w' (some g)
def CD(P:Program)(f:FuncId)(e:TypeId)(sz:Nat):Prop:=∀(w:World) (g c g2 c2 n i:Nat) (xs ys:List Value) (cur dM:Array Value) (hg:w.heap[g]? = some (.cells cur e (0,0))) (jV:cur.size=c*sz) (lz:cur.toList.take (n*sz)=xs) (yr:xs.length=n*sz) (vD:w.heap[g2]? = some (.cells dM e (0,0))) (oJ:dM.size=c2*sz) (qS:0<c2) (lV:dM.toList.take (1*sz)=ys) (FZ:ys.length=1*sz) (bq:g2≠g) (hi:i<n) (A6:n≤c) (eT:c<n+1) (hm:n+1≤gy) (h1:∀q∈xs,q.oneCell'=true) (h2:∀q∈ys,q.oneCell'=true),Calls P f #[.slice (some ⟨g,0,none⟩) n c,.int .i64 i,.slice (some ⟨g2,0,none⟩) 1 c2] w fun en w'=>∃G,en=.returned (.slice (some ⟨w.heap.size,0,none⟩) (n+1) G) ∧ ∃kb:Array Value,w'.heap[w.heap.size]? = some (.cells kb e (0,0))∧kb.size=G*sz∧n+1≤G∧G≤maxLen∧kb.toList.take ((n+1)*sz)=xs.take (i*sz)++(ys++xs.drop (i*sz))∧w.grownBy w' (some g)
theorem I6{w:World}{e sz:Nat}{u:Value}{ys:List Value}(hu:fF w e sz u 1 ys)(h1:∀q∈ys,q.oneCell'=true):X2 w sz u 1 ys:=by
 refine⟨hu.1,h1,.inr ?_⟩;rcases hu.2 with⟨h0,_⟩|⟨g,cap,cur,rfl,_,hg,_,_,hc,lz⟩
 ·cases h0
 ·refine⟨_,_,rfl,fun j q hj=>?_⟩;rw[dm,Nat.zero_add];rw[←lz,List.getElem?_take]at hj
  split at hj
  ·simp[World.cell?,hg];simpa using hj
  ·cases hj
theorem Vt{α:Type}{cur xs ys cur1 cur3:List α}{i n sz:Nat}(lz:cur.take (n*sz)=xs)(hl:(n+1)*sz≤cur.length)(hy:ys.length=sz)(hi:i≤n) (h1:cur1=cur.take ((i+1)*sz)++xs.drop (i*sz)++cur.drop ((i+1)*sz+(xs.drop (i*sz)).length)) (h3:cur3=cur1.take (i*sz)++ys++cur1.drop (i*sz+ys.length)) :
  cur3.take ((n+1)*sz)=xs.take (i*sz)++(ys++xs.drop (i*sz)):=by
 have mI:i*sz≤n*sz:=acM _ hi;rw[Nat.add_mul,Nat.one_mul]at hl h1 ⊢;have yr:xs.length=n*sz:=by rw[←lz,List.length_take];omega
 generalize i*sz=a at *;generalize n*sz=b at *;have e1:cur1.take a=xs.take a:=by rw[h1,List.append_assoc,List.take_append_of_le_length (by rw[List.length_take];omega),List.take_take,←lz,List.take_take];congr 1;omega
 have e2:cur1.drop (a+ys.length)=xs.drop a++cur.drop (a+1*sz+(xs.drop a).length):=by rw[h1,List.append_assoc,Nat.one_mul,hy];exact List.drop_left' (by rw[List.length_take];omega)
 rw[h3,e1,e2,←List.append_assoc,←List.append_assoc];rw[List.take_left' (by simp only[List.length_append,List.length_take,List.length_drop];omega)]
theorem wG{w:World}{e size:Nat}{g n:Nat}{cur:Array Value}{xs:List Value}(hg:w.heap[g]? = some (.cells cur e (0,0)))(lz:cur.toList.take (n*size)=xs)(o:Nat):∀(j:Nat) q,(xs.drop o)[j]? = some q→w.cell? ((⟨g,o,none⟩:Addr).add j)=some q:=fun j q hj=>by
 rw[dm];rw[List.getElem?_drop,←lz,List.getElem?_take]at hj
 split at hj
 ·simp[World.cell?,hg];simpa using hj
 ·cases hj
theorem wH{P:Program}{t e sz:Nat}(ht:P.underlying t=some (.slice e))(hz:(P.info? e).map (·.size)=some sz)(w:World)(g c g2 c2 n i:Nat)(xs ys:List Value)(cur dM:Array Value)(hg:w.heap[g]? = some (.cells cur e (0,0)))(jV:cur.size=c*sz)(lz:cur.toList.take (n*sz)=xs)(yr:xs.length=n*sz)(vD:w.heap[g2]? = some (.cells dM e (0,0)))(oJ:dM.size=c2*sz)(qS:0<c2)(lV:dM.toList.take (1*sz)=ys)(FZ:ys.length=1*sz)(bq:g2≠g)(hi:i<n)(eT:n+1≤c)(hc:c≤maxLen)(h1:∀q∈xs,q.oneCell'=true)(h2:∀q∈ys,q.oneCell'=true) :
  ∃cur1 cur3:Array Value,(∀(W:World),W.heap=w.heap→∀ty dc sc,(Builtin.copy_ #[t,t] ty #[.slice (some ⟨g,(i+1)*sz,none⟩) (n-i) dc,.slice (some ⟨g,i*sz,none⟩) (n+1-i) sc]).run P W=.ok (goInt (n-i:Nat)) (W.setRow g cur1))∧(∀ty dc sc,(Builtin.copy_ #[t,t] ty #[.slice (some ⟨g,i*sz,none⟩) (n+1-i) dc,.slice (some ⟨g2,0,none⟩) 1 sc]).run P (w.drew.setRow g cur1)=.ok (goInt 1) ((w.drew.setRow g cur1).setRow g cur3))∧cur3.size=cur.size∧cur3.toList.take ((n+1)*sz)=xs.take (i*sz)++(ys++xs.drop (i*sz)):=by
 have QR:=wG (size:=sz) (n:=1) vD lV 0;have A7:=wG (size:=sz) (n:=n) hg lz (i*sz);have h63:c≤9223372036854775807:=by unfold maxLen at hc;omega
 have m6:(n+1)*sz≤c*sz:=acM _ eT;have m1:(n+1)*sz=n*sz+sz:=ad5 ..;have m2:(i+1)*sz=i*sz+sz:=ad5 ..;have m3:(n-i)*sz=n*sz-i*sz:=Nat.sub_mul ..;have m4:(i+1)*sz≤n*sz:=acM _ hi;have m5:1*sz=sz:=Nat.one_mul _;have hn5:n*sz≤cur.size:=by omega
 obtain⟨cur1,oa⟩:∃cur1:Array Value,cur1=(cur.toList.take ((i+1)*sz)++xs.drop (i*sz)++cur.toList.drop ((i+1)*sz+(xs.drop (i*sz)).length)).toArray:=⟨_,rfl⟩;have S5:(xs.drop (i*sz)).length=(n-i)*sz:=by rw[List.length_drop,yr];omega
 have NM:∀(W:World),W.heap=w.heap→∀ty dc sc,(Builtin.copy_ #[t,t] ty #[.slice (some ⟨g,(i+1)*sz,none⟩) (n-i) dc,.slice (some ⟨g,i*sz,none⟩) (n+1-i) sc]).run P W=.ok (goInt (n-i:Nat)) (W.setRow g cur1):=fun W hW ty dc sc=>by have:=lu (P:=P) W t t ty e sz g ((i+1)*sz) (n-i) dc ⟨g,i*sz,none⟩ (n+1-i) sc cur e (xs.drop (i*sz)) ht hz (by rw[hW];exact hg) (by rw[S5];simp only[Nat.min_def];split<;>omega) (fun j v hj=>by have:=A7 j v hj;simpa only[World.cell?,hW] using this) (by omega) (fun q hq=>h1 q (adr hq));rw[this,oa];congr 2;simp only[Nat.min_def];split<;>omega
 have KK:cur1.size=cur.size:=by rw[oa];simp;omega
 obtain⟨cur3,Vu⟩:∃cur3:Array Value,cur3=(cur1.toList.take (i*sz)++ys++cur1.toList.drop (i*sz+ys.length)).toArray:=⟨_,rfl⟩;have akS:∀(W:World),W.heap[g]? = some (.cells cur1 e (0,0))→W.heap[g2]? = w.heap[g2]?→∀ty dc sc,(Builtin.copy_ #[t,t] ty #[.slice (some ⟨g,i*sz,none⟩) (n+1-i) dc,.slice (some ⟨g2,0,none⟩) 1 sc]).run P W=.ok (goInt 1) (W.setRow g cur3):=fun W hW hW2 ty dc sc=>by have:=lu (P:=P) W t t ty e sz g (i*sz) (n+1-i) dc ⟨g2,0,none⟩ 1 sc cur1 e ys ht hz hW (by rw[FZ];simp only[Nat.min_def];split<;>omega) (fun j v hj=>by have:=QR j v (by simpa using hj);simpa only[World.cell?,gE,hW2] using this) (by omega) h2;rw[this,Vu];congr 2;simp only[Nat.min_def];split<;>omega
 have RL:cur3.size=cur.size:=by rw[Vu];simp;omega
 have jX:cur3.toList.take ((n+1)*sz)=xs.take (i*sz)++(ys++xs.drop (i*sz)):=Vt (sz:=sz) (cur1:=cur1.toList) (cur3:=cur3.toList) lz (by simp;omega) (by rw[FZ,m5]) (Nat.le_of_lt hi) (by rw[oa]) (by rw[Vu]);exact⟨cur1,cur3,NM,akS (w.drew.setRow g cur1) (setRow_heap w.drew g cur _ e _ hg) (_root_.Go.setRow_other w.drew g g2 _ bq),RL,jX⟩
theorem wJ{n i c:Nat}(hi:i<n)(eT:n+1≤c)(hc:c≤maxLen):(IntKind.i64.wrap ((i:Int)+1)=(i:Int)+1)∧(IntKind.i64.wrap ((n:Int)+1)=(n:Int)+1)∧((0:Int)≤(i:Int)+1)∧(i≤n)∧(((i:Int)+1).toNat=i+1)∧(¬(c=i+1))∧((i:Int)≤(n:Int)+1)∧(¬(c=i))∧(¬((i:Int)=(n:Int)))∧(¬((c:Int)<(n:Int)+1)):=by unfold maxLen at hc;exact⟨by rw[IntKind.wrap_i64];omega,by rw[IntKind.wrap_i64];omega,by omega,by omega,by omega,by omega,by omega,by omega,by omega,by omega⟩
theorem RM{α:Type}{row xs ys row2 row3:List α}{i n sz:Nat}(hA:row.take (i*sz)=xs.take (i*sz))(hl:(n+1)*sz≤row.length)(yr:xs.length=n*sz)(hy:ys.length=sz)(hi:i≤n) (h2:row2=row.take (i*sz)++ys++row.drop (i*sz+ys.length)) (h3:row3=row2.take ((i+1)*sz)++xs.drop (i*sz)++row2.drop ((i+1)*sz+(xs.drop (i*sz)).length)) :
  row3.take ((n+1)*sz)=xs.take (i*sz)++(ys++xs.drop (i*sz)):=by
 have mI:i*sz≤n*sz:=acM _ hi;rw[Nat.add_mul,Nat.one_mul]at hl h3 ⊢;generalize i*sz=a at *;generalize n*sz=b at *;have e1:row2.take (a+1*sz)=xs.take a++ys:=by rw[h2,hA,Nat.one_mul];exact List.take_left' (by simp only[List.length_append,List.length_take];omega)
 rw[Nat.one_mul]at e1;rw[h3,e1];rw[List.take_left' (by simp only[List.length_append,List.length_take,List.length_drop];omega)];rw[List.append_assoc]
theorem Ah{P:Program}{t e sz:Nat}{k:K}{i0:TypeInfo}{z0:Value}(hk:k.sz=sz)(h0:0<sz)(ht:P.underlying t=some (.slice e))(htn:P.underlying 3=some (.int .i64))(he:pC P e k i0 z0)(w:World)(g c g2 c2 n i:Nat)(xs ys:List Value)(cur dM:Array Value)(hg:w.heap[g]? = some (.cells cur e (0,0)))(jV:cur.size=c*sz)(lz:cur.toList.take (n*sz)=xs)(yr:xs.length=n*sz)(vD:w.heap[g2]? = some (.cells dM e (0,0)))(oJ:dM.size=c2*sz)(qS:0<c2)(lV:dM.toList.take (1*sz)=ys)(FZ:ys.length=1*sz)(bq:g2≠g)(hi:i<n)(A6:n≤c)(eT:c<n+1)(hm:n+1≤gy)(h1:∀q∈xs,q.oneCell'=true)(h2:∀q∈ys,q.oneCell'=true) :
  ∃(G:Nat) (pO row2 row3:Array Value) (W1:World),(∀ty,(Builtin.append_ #[t,3] ty #[.slice (some ⟨g,0,none⟩) i c,.int .i64 ((n:Int)+1-(i:Int))]).run P w=.ok (.slice (some ⟨w.heap.size,0,none⟩) (n+1) G) W1)∧W1.heap[w.heap.size]? = some (.cells pO e (0,0))∧(∀b,b<w.heap.size→W1.heap[b]? = w.heap[b]?)∧w.grownBy W1 none∧(∀(W:World),W.heap=W1.heap→∀ty dc sc,(Builtin.copy_ #[t,t] ty #[.slice (some ⟨w.heap.size,i*sz,none⟩) (n+1-i) dc,.slice (some ⟨g2,0,none⟩) 1 sc]).run P W=.ok (goInt 1) (W.setRow w.heap.size row2))∧(∀(W:World),W.heap=(W1.setRow w.heap.size row2).heap→∀ty dc sc,(Builtin.copy_ #[t,t] ty #[.slice (some ⟨w.heap.size,(i+1)*sz,none⟩) (n-i) dc,.slice (some ⟨g,i*sz,none⟩) (n-i) sc]).run P W=.ok (goInt (n-i:Nat)) (W.setRow w.heap.size row3))∧row3.size=G*sz∧n+1≤G∧G≤9223372036854775807∧row3.toList.take ((n+1)*sz)=xs.take (i*sz)++(ys++xs.drop (i*sz)):=by
 have Ls:z0.cells.size=sz:=he.xm.trans hk;have BY:i0.size=sz:=he.size.trans hk;have hz:(P.info? e).map (·.size)=some sz:=by rw[he.info];exact congrArg some BY
 have I7:=he.bytes;have QR:=wG (size:=sz) (n:=1) vD lV 0;have A7:=wG (size:=sz) (n:=n) hg lz (i*sz);have akT:=wG (size:=sz) (n:=n) hg lz 0;have hgl:g<w.heap.size:=(abq.1 hg).1;have akU:g2<w.heap.size:=(abq.1 vD).1;unfold gy at hm;have m1:(n+1)*sz=n*sz+sz:=ad5 ..;have m2:(i+1)*sz=i*sz+sz:=ad5 ..;have m3:(n-i)*sz=n*sz-i*sz:=Nat.sub_mul ..;have m4:(i+1)*sz≤n*sz:=acM _ hi;have m5:1*sz=sz:=Nat.one_mul _;have m6:(n+1-i)*sz=n*sz+sz-i*sz:=by rw[Nat.sub_mul,m1]
 have nC:(n+1)*i0.bytes≤140737488355328:=acN (aea hm I7) (by decide);have hold:(Builtin.firstCells i0.size i (.slice (some ⟨g,0,none⟩) i c)).run P w.drew=.ok (xs.take (i*sz)).toArray w.drew:=by
  rw[BY];exact run_firstCells_some w.drew sz i ⟨g,0,none⟩ i c (xs.take (i*sz)) (by rw[List.length_take];omega) (fun j v hj=>by
   rw[List.getElem?_take]at hj
   split at hj
   ·exact akT j v hj
   ·cases hj)
 obtain⟨G,hG⟩:∃G,G=grownCap w (n+1) c e:=⟨_,rfl⟩;obtain⟨pO,EN⟩:∃pO:Array Value,pO=(xs.take (i*sz)).toArray++Builtin.zeroCells z0.cells (n+1-i)++Builtin.zeroCells z0.cells (G-(n+1)):=⟨_,rfl⟩;have hik:i+(n+1-i)=n+1:=by omega
 have S6:∀ty,(Builtin.append_ #[t,3] ty #[.slice (some ⟨g,0,none⟩) i c,.int .i64 ((n:Int)+1-(i:Int))]).run P w=.ok (.slice (some ⟨w.heap.size,0,none⟩) (n+1) G) (w.drew.alloc (.cells pO e)):=fun ty=>by have h:=Lib.run_append_grow_zeros w t 3 ty e i0 z0 .i64 .i64 ht htn he.info he.zero (some ⟨g,0,none⟩) i c (xs.take (i*sz)) hold (n+1-i) (by omega) (by omega) (by omega) (by omega) (acN (acM _ (show n+1-i≤n+1 by omega)) (by omega)) (by rw[hik];exact growslice_fits eT nC);rw[hik]at h;rw[show(n:Int)+1-(i:Int)=((n+1-i:Nat):Int) by omega,EN,hG];exact h
 have PJ:n+1≤G:=by rw[hG];exact grownCap_ge w _ _ _
 have m7:(G-(n+1))*sz=G*sz-(n*sz+sz):=by rw[Nat.sub_mul,m1]
 have m8:(n+1)*sz≤G*sz:=acM _ PJ;have EO:G≤9223372036854775807:=by have:=grownCap_le_maxLen w (n+1) c e (by unfold maxLen;omega);rw[←hG]at this;unfold maxLen at this;omega
 have hRs:pO.size=G*sz:=by rw[EN];simp[Builtin.zeroCells,Ls,List.length_take,yr];rw[Nat.min_eq_left (by omega)];omega
 have hRt:pO.toList.take (i*sz)=xs.take (i*sz):=by rw[EN];simp only[Array.toList_append,List.append_assoc];exact List.take_left' (by rw[List.length_take];omega)
 obtain⟨W1,wK⟩:∃W1,W1=w.drew.alloc (.cells pO e):=⟨_,rfl⟩;have u9:W1.heap[w.heap.size]? = some (.cells pO e (0,0)):=by rw[wK];exact(MapKept.heap_alloc w.drew (.cells pO e)).1
 have yu:∀b,b<w.heap.size→W1.heap[b]? = w.heap[b]? := fun b hb=>by rw[wK];exact(Below.heap_alloc w.drew (.cells pO e) b hb).trans rfl
 have qA:w.grownBy W1 none:=⟨by rw[wK];rfl,by rw[wK];rfl,by rw[wK];rfl,by have:=(abq.1 u9).1;omega,fun k hk _=>yu k hk⟩;obtain⟨row2,Vv⟩:∃row2:Array Value,row2=(pO.toList.take (i*sz)++ys++pO.toList.drop (i*sz+ys.length)).toArray:=⟨_,rfl⟩;have SY:row2.size=pO.size:=by rw[Vv];simp;omega
 have NO:∀(W:World),W.heap=W1.heap→∀ty dc sc,(Builtin.copy_ #[t,t] ty #[.slice (some ⟨w.heap.size,i*sz,none⟩) (n+1-i) dc,.slice (some ⟨g2,0,none⟩) 1 sc]).run P W=.ok (goInt 1) (W.setRow w.heap.size row2):=fun W hW ty dc sc=>by have:=lu (P:=P) W t t ty e sz w.heap.size (i*sz) (n+1-i) dc ⟨g2,0,none⟩ 1 sc pO e ys ht hz (by rw[hW];exact u9) (by rw[FZ];simp only[Nat.min_def];split<;>omega) (fun j v hj=>by have:=QR j v (by simpa using hj);simpa only[World.cell?,gE,hW,yu g2 akU] using this) (by omega) h2;rw[this,Vv];congr 2;simp only[Nat.min_def];split<;>omega
 obtain⟨row3,Vw⟩:∃row3:Array Value,row3=(row2.toList.take ((i+1)*sz)++xs.drop (i*sz)++row2.toList.drop ((i+1)*sz+(xs.drop (i*sz)).length)).toArray:=⟨_,rfl⟩;have S5:(xs.drop (i*sz)).length=(n-i)*sz:=by rw[List.length_drop,yr];omega
 have RL:row3.size=pO.size:=by rw[Vw];simp;omega
 have NP:∀(W:World),W.heap=(W1.setRow w.heap.size row2).heap→∀ty dc sc,(Builtin.copy_ #[t,t] ty #[.slice (some ⟨w.heap.size,(i+1)*sz,none⟩) (n-i) dc,.slice (some ⟨g,i*sz,none⟩) (n-i) sc]).run P W=.ok (goInt (n-i:Nat)) (W.setRow w.heap.size row3):=fun W hW ty dc sc=>by have:=lu (P:=P) W t t ty e sz w.heap.size ((i+1)*sz) (n-i) dc ⟨g,i*sz,none⟩ (n-i) sc row2 e (xs.drop (i*sz)) ht hz (by rw[hW];exact setRow_heap W1 w.heap.size pO _ e _ u9) (by rw[S5];simp only[Nat.min_def];split<;>omega) (fun j v hj=>by have:=A7 j v hj;simpa only[World.cell?,gE,hW,_root_.Go.setRow_other W1 w.heap.size g _ (Nat.ne_of_lt hgl),yu g hgl] using this) (by omega) (fun q hq=>h1 q (adr hq));rw[this,Vw];congr 2;simp only[Nat.min_def];split<;>omega
 have jX:row3.toList.take ((n+1)*sz)=xs.take (i*sz)++(ys++xs.drop (i*sz)):=RM (sz:=sz) (row:=pO.toList) (row2:=row2.toList) (row3:=row3.toList) hRt (by simp;omega) yr (by rw[FZ,m5]) (by omega) (by rw[Vv]) (by rw[Vw]);rw[←wK]at S6;exact⟨G,pO,row2,row3,W1,S6,u9,yu,qA,NO,NP,by omega,PJ,EO,jX⟩
theorem Ai{n i c G:Nat}(hi:i<n)(A6:n≤c)(eT:c<n+1)(hm:n+1≤gy)(PJ:n+1≤G):(IntKind.i64.wrap ((i:Int)+1)=(i:Int)+1)∧(IntKind.i64.wrap ((n:Int)+1)=(n:Int)+1)∧(IntKind.i64.wrap ((n:Int)+1-(i:Int))=(n:Int)+1-(i:Int))∧((0:Int)≤(i:Int)+1)∧(i≤n)∧(((i:Int)+1).toNat=i+1)∧(¬(G=i))∧(¬(G=i+1))∧(¬(c=i))∧((i:Int)≤(n:Int))∧(¬((i:Int)=(n:Int)))∧((c:Int)<(n:Int)+1):=by unfold gy at hm;exact⟨by rw[IntKind.wrap_i64];omega,by rw[IntKind.wrap_i64];omega,by rw[IntKind.wrap_i64];omega,by omega,by omega,by omega,by omega,by omega,by omega,by omega,by omega,by omega⟩
theorem NQ{P:Program}{f:FuncId}{e:TypeId}{sz:Nat}(hE:I5 P f e sz)(hS:yq P f e sz)(hG:CD P f e sz):EM P f e sz:=fun w v u n i xs ys hv hu hi hm Yx h1 h2=>by
 by_cases he:i=n
 ·subst he;refine(hE w v u i xs ys hv hu hm h2).mono fun en w' ⟨v',e1,e2,e3,e4⟩=>⟨v',e1,?_,e3,e4⟩;have hl:=hv.1;rw[List.take_of_length_le (by omega),List.drop_eq_nil_of_le (by omega),List.append_nil];exact e2
 ·have oE:i<n:=by omega
  have m1:(n+1)*sz=n*sz+sz:=ad5 ..;have m4:i*sz≤n*sz:=acM _ hi;have m5:1*sz=sz:=Nat.one_mul _;rcases hv.2 with⟨h0,_⟩|⟨g,c,cur,rfl,S7,hg,A6,RN,jV,lz⟩
  ·omega
  rcases hu.2 with⟨h0,_⟩|⟨g2,c2,dM,rfl,afu,vD,_,_,oJ,lV⟩
  ·omega
  have oD:ob (.slice (some ⟨g,0,none⟩) n c)=some g:=by simp only[ob];rw[if_neg (by omega)]
  have akV:ob (.slice (some ⟨g2,0,none⟩) 1 c2)=some g2:=by simp only[ob];rw[if_neg (by omega)]
  have bq:g2≠g:=fun e=>Yx g oD (by rw[akV,e]);by_cases eT:n+1≤c
  ·refine(hS w g c g2 c2 n i xs ys cur dM hg jV lz hv.1 vD oJ afu lV hu.1 bq oE eT RN h1 h2).mono fun en w' ⟨e1,kb,e2,e3,e4,e5⟩=>?_;refine⟨_,e1,⟨?_,.inr ⟨g,c,kb,rfl,S7,e2,eT,RN,by rw[e3,jV],e4⟩⟩,by rw[oD];exact e5,.inl ?_⟩
   ·have hl:=hv.1;have v5:=hu.1;simp only[List.length_append,List.length_take,List.length_drop];omega
   ·rw[oD];simp only[ob];rw[if_neg (by omega)]
  ·refine(hG w g c g2 c2 n i xs ys cur dM hg jV lz hv.1 vD oJ afu lV hu.1 bq oE A6 (by omega) hm h1 h2).mono fun en w' ⟨G,e1,kb,e2,e3,e4,e5,e6,e7⟩=>?_;refine⟨_,e1,⟨?_,.inr ⟨w.heap.size,G,kb,rfl,by omega,e2,e4,e5,e3,e6⟩⟩,by rw[oD];exact e7,.inr fun b hb=>?_⟩
   ·have hl:=hv.1;have v5:=hu.1;simp only[List.length_append,List.length_take,List.length_drop];omega
   ·simp only[ob]at hb;rw[if_neg (by omega)]at hb;cases hb;omega
set_option maxHeartbeats 4000000 in
set_option maxRecDepth 100000 in
theorem NR:I5 Tryz.prog 176 52 5:=fun w v u n xs ys hv hu hm h1=>by
 have ht:Tryz.prog.underlying 38=some (.slice 52):=by kernel_rfl
 obtain⟨i0,z0,he⟩:=cS (P:=Tryz.prog) (e:=52) (k:=.pair (.pair (.int .i64) (.int .i64)) (.pair (.sl (.pair (.pair (.int .i64) (.int .i64)) (.int .i64))) (.pair .str (.int .i64)))) (by kernel_rfl);have zn:=I6 hu h1;obtain⟨v',w',ep,h4,h5,h6⟩:=eP (P:=Tryz.prog) (ty:=38) ht he hv zn hm;obtain⟨A,c,rfl⟩:=hv.slice;have A6:n≤c:=by
  rcases hv.2 with⟨h0,A,e⟩|⟨g,cap,cur,e,hc,h2,h3,_⟩
  ·omega
  ·cases e;exact h3
 obtain⟨B,cu,rfl⟩:=hu.slice;have afv:n≤1073741824:=by unfold gy at hm;omega
 go_enter Tryz.func176,Tryz.ntmps176
 go_wp2_with (at_builtin;refine Lib.wpList_append_run _ rfl _ _ _ _ rfl _ _ rfl rfl _ _ ep ?_)
 all_goals go_ret
 all_goals first|exact⟨_,rfl,h4,h5,h6⟩|(subst_vars;exact⟨_,rfl,h4,h5,h6⟩)
set_option maxHeartbeats 4000000 in
set_option maxRecDepth 100000 in
theorem I8:yq Tryz.prog 176 52 5:=fun w g c g2 c2 n i xs ys cur dM hg jV lz yr vD oJ qS lV FZ bq hi eT hc h1 h2=>by
 have ht:Tryz.prog.underlying 38=some (.slice 52):=by kernel_rfl
 have hz:(Tryz.prog.info? 52).map (·.size)=some 5:=by kernel_rfl
 have BY:∀w,(Go.sizeOf 52).run Tryz.prog w=.ok 5 w:=fun w=>by
  cases hq:Tryz.prog.info? 52 with
  |none=>rw[hq]at hz;cases hz
  |some i=>rw[hq]at hz;simp at hz;simp[sizeOf,typeInfo,hq,hz]
 have XN:∀a2 lb cb,(callFunc 209 #[.slice (some ⟨g2,0,none⟩) 1 c2,.slice (some ⟨g,a2,none⟩) lb cb]).run Tryz.prog w=.ok (.value (.bool false)) w:=fun a2 lb cb=>by rw[run_callFunc_extern Tryz.func209 (by kernel_rfl) (by kernel_rfl) (by kernel_rfl) (e:=Extern.SlicesOverlaps.overlaps #[38,38] #[4]) (by kernel_rfl),Lib.run_overlaps_apart w 38 4 52 ht 5 BY ⟨g2,0,none⟩ ⟨g,a2,none⟩ 1 c2 lb cb bq 52 52 dM.size cur.size (by simp[World.shape?,vD]) (by simp[World.shape?,hg]) (by omega) (by simp[World.frozen?,vD]) (by simp[World.frozen?,vD])];rfl
 obtain⟨cur1,cur3,NM,Lt,RL,jX⟩:=wH ht hz w g c g2 c2 n i xs ys cur dM hg jV lz yr vD oJ qS lV FZ bq hi eT hc h1 h2;have h63:c≤9223372036854775807:=by unfold maxLen at hc;omega
 obtain⟨Gg,Lu,J0,oE,htn,zt,hb3,hb4,FV,MM⟩:=wJ hi eT hc;clear lz lV;have mixed:Tryz.prog.follows .mixedOrders=true:=by kernel_rfl
 go_enter Tryz.func176,Tryz.ntmps176
 go_wp2_with (simp only[XN])
 go_region_law (go_loud (refine step_copy_runI rfl _ _ 38 38 rfl (.slice (some ⟨g,(i+1)*5,none⟩) (n-i) (c-(i+1))) (.slice (some ⟨g,i*5,none⟩) (n+1-i) (c-i)) (by simp[Act.eval,Act.put]) (by simp[Act.eval,Act.put]) (NM w.drew rfl 3 (c-(i+1)) (c-i)) ?_))
 go_wp2_with (simp only[Lt])
 go_ret
 refine⟨rfl,cur3,setRow_heap _ g cur1 _ 52 _ (setRow_heap w.drew g cur _ 52 _ hg),RL,jX,⟨rfl,rfl,rfl,by simp[World.setRow],fun k hk RO=>?_⟩⟩;have yZ:k≠g:=fun e=>RO (by rw[e]);rw[_root_.Go.setRow_other _ g k _ yZ,_root_.Go.setRow_other _ g k _ yZ];rfl
set_option maxHeartbeats 4000000 in
set_option maxRecDepth 100000 in
theorem Lv:CD Tryz.prog 176 52 5:=fun w g c g2 c2 n i xs ys cur dM hg jV lz yr vD oJ qS lV FZ bq hi A6 eT hm h1 h2=>by
 have ht:Tryz.prog.underlying 38=some (.slice 52):=by kernel_rfl
 obtain⟨i0,z0,he⟩:=cS (P:=Tryz.prog) (e:=52) (k:=.pair (.pair (.int .i64) (.int .i64)) (.pair (.sl (.pair (.pair (.int .i64) (.int .i64)) (.int .i64))) (.pair .str (.int .i64)))) (by kernel_rfl);obtain⟨G,pO,row2,row3,W1,S6,u9,yu,qA,NO,NP,RL,PJ,EO,jX⟩:=Ah (sz:=5) rfl (by decide) ht (by kernel_rfl) he w g c g2 c2 n i xs ys cur dM hg jV lz yr vD oJ qS lV FZ bq hi A6 eT hm h1 h2;obtain⟨Gg,Lu,hw3,J0,oE,afx,hGi,afy,hci,hb3,FV,MM⟩:=Ai hi A6 eT hm PJ;unfold gy at hm;clear lz lV;have mixed:Tryz.prog.follows .mixedOrders=true:=by kernel_rfl
 go_enter Tryz.func176,Tryz.ntmps176
 go_wp2_with (first
  |(at_builtin;refine Lib.wpList_append_run _ rfl _ _ _ _ rfl _ _ rfl rfl _ _ (S6 _) ?_)
  |(at_builtin;refine wpList_copy_runI _ rfl _ _ 38 38 rfl _ _ rfl rfl (NO _ (by rfl) _ _ _) ?_))
 go_region_law (go_loud (refine step_copy_runI rfl _ _ 38 38 rfl (.slice (some ⟨w.heap.size,(i+1)*5,none⟩) (n-i) (G-(i+1))) (.slice (some ⟨g,i*5,none⟩) (n-i) (c-i)) (by simp[Act.eval,Act.put]) (by simp[Act.eval,Act.put]) (NP (W1.setRow w.heap.size row2).drew rfl 3 (G-(i+1)) (c-i)) ?_))
 go_wp2
 go_ret
 refine⟨G,rfl,row3,setRow_heap _ w.heap.size row2 _ 52 _ (setRow_heap W1 w.heap.size pO _ 52 _ u9),by omega,PJ,EO,jX,⟨qA.os,qA.tape,qA.output,by have:=qA.size;simpa[World.setRow] using this,fun k hk _=>?_⟩⟩;rw[_root_.Go.setRow_other _ w.heap.size k _ (Nat.ne_of_lt hk)];exact(_root_.Go.setRow_other W1 w.heap.size k _ (Nat.ne_of_lt hk)).trans (yu k hk)
theorem abG:EM Tryz.prog 176 52 5:=NQ NR I8 Lv
def NS(P:Program)(f:FuncId)(e:TypeId)(size:Nat):Prop :=∀(w:World) (v:Value) (n i j:Nat) (xs:List Value),fF w e size v n xs→i<j→j≤n→n≤gy→(∀q∈xs,q.oneCell'=true) → Calls P f #[v,.int .i64 i,.int .i64 j] w fun en w'=>∃v',en=.returned v'∧fF w' e size v' (i+(n-j)) (xs.take (i*size)++xs.drop (j*size))∧w.grownBy w' (ob v)∧ob v'=ob v
theorem jt{P:Program}{ops:Array Oper}{o:Oper}{a:Act}{w:World}{K:Act→World→Prop}{Q:Exit→Act→World→Prop}{E:Prop} (hg:o.guard=none) (d x:Operand) (dT sT:TypeId) (IC:o.op=Op.call { callee:=Callee.builtin Builtin.append,args:=#[d,x],argTypes:=#[dT,sT] }) (v u:Value) (hd:a.eval d=v) (hx:a.eval x=u) {v':Value} {w':World} (hr:(Builtin.append_ #[dT,sT] o.type #[v,u]).run P w=.ok v' w') (hK:K (a.put o.dst v') w') :
  if Region.wanted o (yielded ops a.tmps)=true then Oper.wp P o a w K Q else E:=by
 have hw:Region.wanted o (yielded ops a.tmps)=true:=by simp[Region.wanted,hg]
 rw[if_pos hw];unfold Oper.wp;simp[execOp,IC,resolve,invoke,builtin,hd,hx,hr,Result.andThen];exact hK
theorem Lw{α:Type}{cur xs cur1 dM zs:List α}{i j n sz:Nat}(lz:cur.take (n*sz)=xs)(hl:n*sz≤cur.length)(Ck:i≤j)(SO:j≤n) (h1:cur1=cur.take (i*sz)++xs.drop (j*sz)++cur.drop (i*sz+(xs.drop (j*sz)).length)) (h2:dM=cur1.take ((i+(n-j))*sz)++zs++cur1.drop ((i+(n-j))*sz+zs.length)) :
  dM.take ((i+(n-j))*sz)=xs.take (i*sz)++xs.drop (j*sz):=by
 have ha:i*sz≤j*sz:=acM _ Ck;have hb:j*sz≤n*sz:=acM _ SO;rw[Nat.add_mul,Nat.sub_mul]at h2 ⊢;have yr:xs.length=n*sz:=by rw[←lz,List.length_take];omega
 generalize i*sz=a at *;generalize j*sz=b at *;generalize n*sz=c at *;have e0:cur.take a=xs.take a:=by rw[←lz,List.take_take];congr 1;omega
 have e1:cur1.take (a+(c-b))=xs.take a++xs.drop b:=by rw[h1,e0];exact List.take_left' (by simp only[List.length_append,List.length_take,List.length_drop];omega)
 rw[h2,e1,List.append_assoc];exact List.take_left' (by simp only[List.length_append,List.length_take,List.length_drop];omega)
set_option maxHeartbeats 4000000 in
set_option maxRecDepth 100000 in
theorem Lx(w:World)(g c n i j X:Nat)(xs:List Value)(cur:Array Value)(hg:w.heap[g]? = some (.cells cur 52 (0,0)))(jV:cur.size=c*5)(lz:cur.toList.take (n*5)=xs)(yr:xs.length=n*5) (Ck:i<j) (SO:j≤n) (A6:n≤c) (hc:c≤maxLen) (hX:if c=j then X=0 else X=j*5)
  (h1:∀q∈xs,q.oneCell'=true) :
  Calls Tryz.prog 177 #[.slice (some ⟨g,0,none⟩) n c,.int .i64 i,.int .i64 j] w fun en w'=>en=.returned (.slice (some ⟨g,0,none⟩) (i+(n-j)) c) ∧ ∃kb:Array Value,w'.heap[g]? = some (.cells kb 52 (0,0))∧kb.size=cur.size∧kb.toList.take ((i+(n-j))*5)=xs.take (i*5)++xs.drop (j*5)∧w.grownBy w' (some g):=by
 have ht:Tryz.prog.underlying 38=some (.slice 52):=by kernel_rfl
 have hz:(Tryz.prog.info? 52).map (·.size)=some 5:=by kernel_rfl
 obtain⟨zs,BY⟩:∃zs,CZ Tryz.prog 52=some zs:=abC.1 (by kernel_rfl);obtain⟨i0,z0,Yy,X4,rfl,A9⟩:=q6 BY;obtain⟨i1,z1,he⟩:=cS (P:=Tryz.prog) (e:=52) (k:=.pair (.pair (.int .i64) (.int .i64)) (.pair (.sl (.pair (.pair (.int .i64) (.int .i64)) (.int .i64))) (.pair .str (.int .i64)))) (by kernel_rfl);have ei:i1=i0:=by have:=he.info;rw[Yy]at this;cases this;rfl
 subst ei;have ez:z1=z0:=by have:=he.zero;rw[X4]at this;cases this;rfl
 subst ez;have Ls:z1.cells.size=5:=he.xm;clear he BY;have S5:(xs.drop (j*5)).length=(n-j)*5:=by rw[List.length_drop,yr];omega
 obtain⟨cur1,oa⟩:∃cur1:Array Value,cur1=(cur.toList.take (i*5)++xs.drop (j*5)++cur.toList.drop (i*5+(xs.drop (j*5)).length)).toArray:=⟨_,rfl⟩;have KK:cur1.size=cur.size:=by rw[oa];simp;omega
 have Yx:∀ty sc,(Builtin.append_ #[38,38] ty #[.slice (some ⟨g,0,none⟩) i c,.slice (some ⟨g,X,none⟩) (n-j) sc]).run Tryz.prog w.drew=.ok (.slice (some ⟨g,0,none⟩) (i+(n-j)) c) (w.drew.setRow g cur1):=fun ty sc=>by
  by_cases RP:c=j
  ·have hnj:n=j:=by omega
   have:n-j=0:=by omega
   rw[this]at S5 ⊢;have F8:xs.drop (j*5)=[]:=acg (by omega);rw[gF ht Yy _ _ _ (by omega) _ _,oa,F8];simp only[List.append_nil,List.length_nil,Nat.add_zero,List.take_append_drop,Array.toArray_toList];rw[setRow_self w.drew g cur 52 (0,0) hg]
  ·rw[if_neg RP]at hX;subst hX;rw[oa];exact qz (P:=Tryz.prog) w.drew 38 ty 52 5 g i c ⟨g,j*5,none⟩ (n-j) sc cur (xs.drop (j*5)) ht hz hg S5 (wG (size:=5) (n:=n) (w:=w.drew) hg lz (j*5)) (fun q hq=>h1 q (adr hq)) (by omega) (by omega)
 obtain⟨dM,yv⟩:∃dM:Array Value,dM=(cur1.toList.take ((i+(n-j))*5)++(Builtin.zeroCells z1.cells (j-i)).toList++cur1.toList.drop ((i+(n-j))*5+(Builtin.zeroCells z1.cells (j-i)).toList.length)).toArray:=⟨_,rfl⟩;have hzc:(Builtin.zeroCells z1.cells (j-i)).toList.length=(j-i)*5:=by simp[Builtin.zeroCells,Ls]
 have SY:dM.size=cur.size:=by rw[yv];simp[hzc];omega
 have uf:∀ty sc,(Builtin.clear_ #[38] ty #[.slice (some ⟨g,(i+(n-j))*5,none⟩) (n-(i+(n-j))) sc]).run Tryz.prog (w.drew.setRow g cur1)=.ok (.tuple #[]) ((w.drew.setRow g cur1).setRow g dM):=fun ty sc=>by have:=tE (P:=Tryz.prog) (w.drew.setRow g cur1) 38 ty 52 5 g ((i+(n-j))*5) (j-i) sc cur1 i1 z1 ht Yy X4 Ls A9 (setRow_heap w.drew g cur _ 52 _ hg) (by omega) (by omega);rw[show n-(i+(n-j))=j-i by omega,this,yv]
 have jX:dM.toList.take ((i+(n-j))*5)=xs.take (i*5)++xs.drop (j*5):=Lw (cur1:=cur1.toList) lz (by simp;omega) (by omega) SO (by rw[oa]) (by rw[yv]);clear oa yv lz S5;have h63:c≤9223372036854775807:=by unfold maxLen at hc;omega
 have oE:i≤n:=by omega
 have hic:¬(c=i):=by omega
 have hjc:j≤c:=by omega
 have bq:¬((i:Int)=(j:Int)):=by omega
 have pM:i≤j:=by omega
 have akW:i≤c:=by omega
 have akX:i+(n-j)≤n:=by omega
 have akY:i+(n-j)≤c:=by omega
 have akZ:¬(c=i+(n-j)):=by omega
 have ak0:(i:Int)+((n-j:Nat):Int)≤(n:Int):=by omega
 have mixed:Tryz.prog.follows .mixedOrders=true:=by kernel_rfl
 by_cases RP:c=j
 ·rw[if_pos RP]at hX;subst hX;subst RP;obtain rfl:n=c:=by omega
  simp only[Nat.sub_self,Nat.add_zero]at Yx uf jX ⊢
  go_enter Tryz.func177,Tryz.ntmps177
  go_wp2_with fail
  go_region_law (go_loud (refine jt rfl _ _ 38 38 rfl (.slice (some ⟨g,0,none⟩) i n) (.slice (some ⟨g,0,none⟩) 0 0) (by simp[Act.eval,Act.put]) (by simp[Act.eval,Act.put]) (Yx 38 0) ?_))
  go_wp2_with (simp only[uf])
  go_ret
  refine⟨rfl,dM,setRow_heap _ g cur1 _ 52 _ (setRow_heap w.drew g cur _ 52 _ hg),SY,jX,⟨rfl,rfl,rfl,by simp[World.setRow],fun k hk RO=>?_⟩⟩;have yZ:k≠g:=fun e=>RO (by rw[e]);rw[_root_.Go.setRow_other _ g k _ yZ,_root_.Go.setRow_other _ g k _ yZ];rfl
 ·rw[if_neg RP]at hX;subst hX
  go_enter Tryz.func177,Tryz.ntmps177
  go_wp2_with fail
  go_region_law (go_loud (refine jt rfl _ _ 38 38 rfl (.slice (some ⟨g,0,none⟩) i c) (.slice (some ⟨g,j*5,none⟩) (n-j) (c-j)) (by simp[Act.eval,Act.put]) (by simp[Act.eval,Act.put]) (Yx 38 (c-j)) ?_))
  go_wp2_with (simp only[uf])
  go_ret
  refine⟨rfl,dM,setRow_heap _ g cur1 _ 52 _ (setRow_heap w.drew g cur _ 52 _ hg),SY,jX,⟨rfl,rfl,rfl,by simp[World.setRow],fun k hk RO=>?_⟩⟩;have yZ:k≠g:=fun e=>RO (by rw[e]);rw[_root_.Go.setRow_other _ g k _ yZ,_root_.Go.setRow_other _ g k _ yZ];rfl
theorem abH:NS Tryz.prog 177 52 5:=fun w v n i j xs hv Ck SO hm h1=>by
 rcases hv.2 with⟨h0,_⟩|⟨g,c,cur,rfl,S7,hg,A6,RN,jV,lz⟩
 ·omega
 have oD:ob (.slice (some ⟨g,0,none⟩) n c)=some g:=by simp only[ob];rw[if_neg (by omega)]
 refine(Lx w g c n i j (if c=j then 0 else j*5) xs cur hg jV lz hv.1 Ck SO A6 RN (by split<;>rfl) h1).mono fun en w' ⟨e1,kb,e2,e3,e4,e5⟩=>?_;refine⟨_,e1,⟨?_,.inr ⟨g,c,kb,rfl,S7,e2,by omega,RN,by rw[e3,jV],e4⟩⟩,by rw[oD];exact e5,?_⟩
 ·have hl:=hv.1;simp only[List.length_append,List.length_take,List.length_drop];omega
 ·rw[oD];simp only[ob];rw[if_neg (by omega)]
end Go.Vs
namespace Go.Vs
open Go.Proofs
variable {P:Program}
theorem EP{Z:Nat→Prop}{w:World}{k:K}{xs:List k.T}{vs:List Value}(hv:pw Z w k xs vs)(hl:vs.length=xs.length*k.sz):∀q∈vs,q.oneCell'=true:=fun q hq=>by
 obtain⟨p,hp⟩:=adi hq;have aG:p<vs.length:=(aa2.1 hp).1;have hs:=k.jz;have hd:p / k.sz<xs.length:=Nat.div_lt_of_lt_mul (by rw[Nat.mul_comm];omega);have hr:=hv (p / k.sz) _ (aa4 hd);refine hr.one q ?_;have hm:=Nat.mod_add_div p k.sz;have hml:=adv p hs;have:((vs.drop (p / k.sz*k.sz)).take k.sz)[p%k.sz]? = some q:=by rw[List.getElem?_take,if_pos hml,List.getElem?_drop,Nat.mul_comm,Nat.add_comm,hm,hp]
 exact ab6 this
theorem Hl{Z:Nat→Prop}{w:World}{k:K}{xs:List k.T}{vs:List Value}(hv:pw Z w k xs vs)(n:Nat):pw Z w k (xs.take n) (vs.take (n*k.sz)):=fun i x hx=>by
 rw[List.getElem?_take]at hx
 split at hx
 ·rename_i hi;have:=hv i x hx;have e:((vs.take (n*k.sz)).drop (i*k.sz)).take k.sz=(vs.drop (i*k.sz)).take k.sz:=by rw[List.drop_take,List.take_take];congr 1;have:(i+1)*k.sz≤n*k.sz:=acM _ hi;rw[Nat.add_mul]at this;omega
  rw[e];exact this
 ·cases hx
theorem Hm{Z:Nat→Prop}{w:World}{k:K}{xs:List k.T}{vs:List Value}(hv:pw Z w k xs vs)(n:Nat):pw Z w k (xs.drop n) (vs.drop (n*k.sz)):=fun i x hx=>by rw[List.getElem?_drop]at hx;have:=hv (n+i) x hx;rw[List.drop_drop,←Nat.add_mul];exact this
theorem wL{f:FuncId}{ty:TypeId}{k:K}(hr:EM P f ty k.sz):jD P f (Tl ty k):=by
 intro Z ψ h w B0 O N hh id e vs us g hB bI hN bC mU vX Ir he;unfold Tl at he
 split at he
 rotate_left
 ·cases he
 rename_i o i j
 split at he
 rotate_left
 ·cases he
 rename_i xs ys A7 QR
 split at he
 ·cases he
 rename_i hoj;simp only[Option.some.injEq,Prod.mk.injEq]at he;obtain⟨nE,rfl⟩:=he;have hhg:hh.get=h:=mU _ _ rfl;have Ho:hh.get o=some (.own (.row ty k) xs):=kS A7;have hgj:hh.get j=some (.own (.row ty k) ys):=kS QR;simp only[ax,aD]at vX;obtain⟨v,_,rfl,⟨_,hv⟩,n,_,rfl,rfl,u,_,rfl,⟨_,hu⟩,rfl⟩:=vX;simp only[sO,Bool.and_eq_true,decide_eq_true_eq,aU]at nE;obtain⟨h0,h1,h2,h3⟩:=nE;obtain⟨m,rfl⟩:∃m:Nat,i=m:=⟨i.toNat,by omega⟩;subst hhg;have hvo:v=ψ o:=hv (by rw[Ho];simp);have huj:u=ψ j:=hu (by rw[hgj];simp);obtain⟨vs,Ud,xw⟩:=g.row o (.row ty k) xs Ho;obtain⟨jU,XO,A5⟩:=g.row j (.row ty k) ys hgj;simp only[aJ,aQ]at Ir;have bR:N id:=hN 0 (by omega);have bq:o≠id:=fun e=>Ir.1 (e▸bR);rw[h2]at XO;subst hvo;subst huj;refine(hr w _ _ xs.length m vs jU Ud XO (by omega) (by omega) (fun b hb zt=>hoj (g.apart o j b (by rw[Ho];simp) (by rw[hgj];simp) hb zt)) (EP xw Ud.1) (EP A5 (by rw[XO.1,h2]))).mono fun en w' ⟨v',e1,e2,e3,e4⟩=>?_;have kk:dF ψ hh.get w w':=dF.grown e3 (fun b e=>⟨o,by rw[Ho];simp,e⟩);have sm:=kk.same g;have hlen:(ij xs (m:Int) ys).length=xs.length+1:=by simp only[ij,Int.toNat_natCast,List.length_append,List.length_take,List.length_drop];omega
 have htl:(vs.take (m*k.sz)).length=(xs.take m).length*k.sz:=by have:m*k.sz≤xs.length*k.sz:=acM _ (by omega);rw[List.length_take,List.length_take,Ud.1,Nat.min_eq_left this,Nat.min_eq_left (by omega)]
 have qg:pw Z w k (ij xs (m:Int) ys) (vs.take (m*k.sz)++(jU++vs.drop (m*k.sz))):=(Hl xw m).append (A5.append (Hm xw m) (by rw[XO.1,h2])) htl;have G6:=s6 (N:=N) g hB id o bR Ho bq e3 (v:=v') (ok:=.row ty k) (y:=ij xs m ys) ⟨_,by rw[hlen];exact e2,qg.Kc sm⟩ e4 (fun i ty cs hb=>aJ.imp (p:=fun i=>¬N i) (q:=fun i=>i≠id) (fun a ha e=>ha (by rw[e];exact bR)) (bC i ty cs hb));have hhp:Heap.get ((id,Ob.own (.row ty k) (ij xs (m:Int) ys))::hh.del o)=fq (fq hh.get o none) id (some (.own (.row ty k) (ij xs m ys))):=by rw[Dm,xq]
 refine⟨v',Z,fq ψ id v',e1,?_,?_⟩
 ·show Next Z ψ hh.get w B0 O N Z (fq ψ id v') (Heap.get ((id,Ob.own (.row ty k) (ij xs (m:Int) ys))::hh.del o)) w';rw[hhp];exact G6
 ·simp only[bW.v,aD];exact⟨e2.one,fun _=>(bD _ _ _).symm⟩
theorem ER{f:FuncId}{ty:TypeId}{k:K}(hr:NS P f ty k.sz):jD P f (XX ty k):=by
 intro Z ψ h w B0 O N hh id e vs us g hB bI hN bC mU vX Ir he;unfold XX at he
 split at he
 rotate_left
 ·cases he
 rename_i o i j
 split at he
 rotate_left
 ·cases he
 rename_i xs A7;simp only[Option.some.injEq,Prod.mk.injEq]at he;obtain⟨nE,rfl⟩:=he;have hhg:hh.get=h:=mU _ _ rfl;have Ho:hh.get o=some (.own (.row ty k) xs):=kS A7;simp only[ax,aD]at vX;obtain⟨v,_,rfl,⟨_,hv⟩,n,_,rfl,rfl,u,_,rfl,rfl,rfl⟩:=vX;simp only[kG,Bool.and_eq_true,decide_eq_true_eq,aU]at nE;obtain⟨h0,h1,h2,h3⟩:=nE;obtain⟨m,rfl⟩:∃m:Nat,i=m:=⟨i.toNat,by omega⟩;obtain⟨q,rfl⟩:∃m:Nat,j=m:=⟨j.toNat,by omega⟩;subst hhg;have hvo:v=ψ o:=hv (by rw[Ho];simp);obtain⟨vs,Ud,xw⟩:=g.row o (.row ty k) xs Ho;simp only[aJ,aQ]at Ir;have bR:N id:=hN 0 (by omega);have bq:o≠id:=fun e=>Ir.1 (e▸bR);subst hvo;refine(hr w _ xs.length m q vs Ud (by omega) (by omega) (by omega) (EP xw Ud.1)).mono fun en w' ⟨v',e1,e2,e3,e4⟩=>?_;have kk:dF ψ hh.get w w':=dF.grown e3 (fun b e=>⟨o,by rw[Ho];simp,e⟩);have sm:=kk.same g;have hlen:(eg xs (m:Int) q).length=m+(xs.length-q):=by simp only[eg,Int.toNat_natCast,List.length_append,List.length_take,List.length_drop];omega
 have htl:(vs.take (m*k.sz)).length=(xs.take m).length*k.sz:=by have:m*k.sz≤xs.length*k.sz:=acM _ (by omega);rw[List.length_take,List.length_take,Ud.1,Nat.min_eq_left this,Nat.min_eq_left (by omega)]
 have qg:pw Z w k (eg xs (m:Int) q) (vs.take (m*k.sz)++vs.drop (q*k.sz)):=(Hl xw m).append (Hm xw q) htl;have G6:=s6 (N:=N) g hB id o bR Ho bq e3 (v:=v') (ok:=.row ty k) (y:=eg xs m q) ⟨_,by rw[hlen];exact e2,qg.Kc sm⟩ (.inl e4) (fun i ty cs hb=>aJ.imp (p:=fun i=>¬N i) (q:=fun i=>i≠id) (fun a ha e=>ha (by rw[e];exact bR)) (bC i ty cs hb));have hhp:Heap.get ((id,Ob.own (.row ty k) (eg xs (m:Int) q))::hh.del o)=fq (fq hh.get o none) id (some (.own (.row ty k) (eg xs m q))):=by rw[Dm,xq]
 refine⟨v',Z,fq ψ id v',e1,?_,?_⟩
 ·show Next Z ψ hh.get w B0 O N Z (fq ψ id v') (Heap.get ((id,Ob.own (.row ty k) (eg xs (m:Int) q))::hh.del o)) w';rw[hhp];exact G6
 ·simp only[bW.v,aD];exact⟨e2.one,fun _=>(bD _ _ _).symm⟩
end Go.Vs
namespace Go.Vs
open Go.Proofs Go.RowKit
set_option maxHeartbeats 4000000 in
set_option maxRecDepth 100000 in
theorem NT:I5 Tryz.prog 211 118 4:=fun w v u n xs ys hv hu hm h1=>by
 have ht:Tryz.prog.underlying 39=some (.slice 118):=by kernel_rfl
 obtain⟨i0,z0,he⟩:=cS (P:=Tryz.prog) (e:=118) (k:=.pair (.pair (.int .i64) (.int .i64)) (.pair .str (.int .i64))) (by kernel_rfl);have zn:=I6 hu h1;obtain⟨v',w',ep,h4,h5,h6⟩:=eP (P:=Tryz.prog) (ty:=39) ht he hv zn hm;obtain⟨A,c,rfl⟩:=hv.slice;have A6:n≤c:=by
  rcases hv.2 with⟨h0,A,e⟩|⟨g,cap,cur,e,hc,h2,h3,_⟩
  ·omega
  ·cases e;exact h3
 obtain⟨B,cu,rfl⟩:=hu.slice;have afv:n≤1073741824:=by unfold gy at hm;omega
 go_enter Tryz.func211,Tryz.ntmps211
 go_wp2_with (at_builtin;refine Lib.wpList_append_run _ rfl _ _ _ _ rfl _ _ rfl rfl _ _ ep ?_)
 all_goals go_ret
 all_goals first|exact⟨_,rfl,h4,h5,h6⟩|(subst_vars;exact⟨_,rfl,h4,h5,h6⟩)
set_option maxHeartbeats 4000000 in
set_option maxRecDepth 100000 in
theorem I9:yq Tryz.prog 211 118 4:=fun w g c g2 c2 n i xs ys cur dM hg jV lz yr vD oJ qS lV FZ bq hi eT hc h1 h2=>by
 have ht:Tryz.prog.underlying 39=some (.slice 118):=by kernel_rfl
 have hz:(Tryz.prog.info? 118).map (·.size)=some 4:=by kernel_rfl
 have BY:∀w,(Go.sizeOf 118).run Tryz.prog w=.ok 4 w:=fun w=>by
  cases hq:Tryz.prog.info? 118 with
  |none=>rw[hq]at hz;cases hz
  |some i=>rw[hq]at hz;simp at hz;simp[sizeOf,typeInfo,hq,hz]
 have XN:∀a2 lb cb,(callFunc 228 #[.slice (some ⟨g2,0,none⟩) 1 c2,.slice (some ⟨g,a2,none⟩) lb cb]).run Tryz.prog w=.ok (.value (.bool false)) w:=fun a2 lb cb=>by rw[run_callFunc_extern Tryz.func228 (by kernel_rfl) (by kernel_rfl) (by kernel_rfl) (e:=Extern.SlicesOverlaps.overlaps #[39,39] #[4]) (by kernel_rfl),Lib.run_overlaps_apart w 39 4 118 ht 4 BY ⟨g2,0,none⟩ ⟨g,a2,none⟩ 1 c2 lb cb bq 118 118 dM.size cur.size (by simp[World.shape?,vD]) (by simp[World.shape?,hg]) (by omega) (by simp[World.frozen?,vD]) (by simp[World.frozen?,vD])];rfl
 obtain⟨cur1,cur3,NM,Lt,RL,jX⟩:=wH ht hz w g c g2 c2 n i xs ys cur dM hg jV lz yr vD oJ qS lV FZ bq hi eT hc h1 h2;have h63:c≤9223372036854775807:=by unfold maxLen at hc;omega
 obtain⟨Gg,Lu,J0,oE,htn,zt,hb3,hb4,FV,MM⟩:=wJ hi eT hc;clear lz lV;have mixed:Tryz.prog.follows .mixedOrders=true:=by kernel_rfl
 go_enter Tryz.func211,Tryz.ntmps211
 go_wp2_with (simp only[XN])
 go_region_law (go_loud (refine step_copy_runI rfl _ _ 39 39 rfl (.slice (some ⟨g,(i+1)*4,none⟩) (n-i) (c-(i+1))) (.slice (some ⟨g,i*4,none⟩) (n+1-i) (c-i)) (by simp[Act.eval,Act.put]) (by simp[Act.eval,Act.put]) (NM w.drew rfl 3 (c-(i+1)) (c-i)) ?_))
 go_wp2_with (simp only[Lt])
 go_ret
 refine⟨rfl,cur3,setRow_heap _ g cur1 _ 118 _ (setRow_heap w.drew g cur _ 118 _ hg),RL,jX,⟨rfl,rfl,rfl,by simp[World.setRow],fun k hk RO=>?_⟩⟩;have yZ:k≠g:=fun e=>RO (by rw[e]);rw[_root_.Go.setRow_other _ g k _ yZ,_root_.Go.setRow_other _ g k _ yZ];rfl
set_option maxHeartbeats 4000000 in
set_option maxRecDepth 100000 in
theorem Ly:CD Tryz.prog 211 118 4:=fun w g c g2 c2 n i xs ys cur dM hg jV lz yr vD oJ qS lV FZ bq hi A6 eT hm h1 h2=>by
 have ht:Tryz.prog.underlying 39=some (.slice 118):=by kernel_rfl
 obtain⟨i0,z0,he⟩:=cS (P:=Tryz.prog) (e:=118) (k:=.pair (.pair (.int .i64) (.int .i64)) (.pair .str (.int .i64))) (by kernel_rfl);obtain⟨G,pO,row2,row3,W1,S6,u9,yu,qA,NO,NP,RL,PJ,EO,jX⟩:=Ah (sz:=4) rfl (by decide) ht (by kernel_rfl) he w g c g2 c2 n i xs ys cur dM hg jV lz yr vD oJ qS lV FZ bq hi A6 eT hm h1 h2;obtain⟨Gg,Lu,hw3,J0,oE,afx,hGi,afy,hci,hb3,FV,MM⟩:=Ai hi A6 eT hm PJ;unfold gy at hm;clear lz lV;have mixed:Tryz.prog.follows .mixedOrders=true:=by kernel_rfl
 go_enter Tryz.func211,Tryz.ntmps211
 go_wp2_with (first
  |(at_builtin;refine Lib.wpList_append_run _ rfl _ _ _ _ rfl _ _ rfl rfl _ _ (S6 _) ?_)
  |(at_builtin;refine wpList_copy_runI _ rfl _ _ 39 39 rfl _ _ rfl rfl (NO _ (by rfl) _ _ _) ?_))
 go_region_law (go_loud (refine step_copy_runI rfl _ _ 39 39 rfl (.slice (some ⟨w.heap.size,(i+1)*4,none⟩) (n-i) (G-(i+1))) (.slice (some ⟨g,i*4,none⟩) (n-i) (c-i)) (by simp[Act.eval,Act.put]) (by simp[Act.eval,Act.put]) (NP (W1.setRow w.heap.size row2).drew rfl 3 (G-(i+1)) (c-i)) ?_))
 go_wp2
 go_ret
 refine⟨G,rfl,row3,setRow_heap _ w.heap.size row2 _ 118 _ (setRow_heap W1 w.heap.size pO _ 118 _ u9),by omega,PJ,EO,jX,⟨qA.os,qA.tape,qA.output,by have:=qA.size;simpa[World.setRow] using this,fun k hk _=>?_⟩⟩;rw[_root_.Go.setRow_other _ w.heap.size k _ (Nat.ne_of_lt hk)];exact(_root_.Go.setRow_other W1 w.heap.size k _ (Nat.ne_of_lt hk)).trans (yu k hk)
theorem abI:EM Tryz.prog 211 118 4:=NQ NT I9 Ly
set_option maxHeartbeats 4000000 in
set_option maxRecDepth 100000 in
theorem LA(w:World)(g c n i j X:Nat)(xs:List Value)(cur:Array Value)(hg:w.heap[g]? = some (.cells cur 118 (0,0)))(jV:cur.size=c*4)(lz:cur.toList.take (n*4)=xs)(yr:xs.length=n*4) (Ck:i<j) (SO:j≤n) (A6:n≤c) (hc:c≤maxLen) (hX:if c=j then X=0 else X=j*4)
  (h1:∀q∈xs,q.oneCell'=true) :
  Calls Tryz.prog 186 #[.slice (some ⟨g,0,none⟩) n c,.int .i64 i,.int .i64 j] w fun en w'=>en=.returned (.slice (some ⟨g,0,none⟩) (i+(n-j)) c) ∧ ∃kb:Array Value,w'.heap[g]? = some (.cells kb 118 (0,0))∧kb.size=cur.size∧kb.toList.take ((i+(n-j))*4)=xs.take (i*4)++xs.drop (j*4)∧w.grownBy w' (some g):=by
 have ht:Tryz.prog.underlying 39=some (.slice 118):=by kernel_rfl
 have hz:(Tryz.prog.info? 118).map (·.size)=some 4:=by kernel_rfl
 obtain⟨zs,BY⟩:∃zs,CZ Tryz.prog 118=some zs:=abC.1 (by kernel_rfl);obtain⟨i0,z0,Yy,X4,rfl,A9⟩:=q6 BY;obtain⟨i1,z1,he⟩:=cS (P:=Tryz.prog) (e:=118) (k:=.pair (.pair (.int .i64) (.int .i64)) (.pair .str (.int .i64))) (by kernel_rfl);have ei:i1=i0:=by have:=he.info;rw[Yy]at this;cases this;rfl
 subst ei;have ez:z1=z0:=by have:=he.zero;rw[X4]at this;cases this;rfl
 subst ez;have Ls:z1.cells.size=4:=he.xm;clear he BY;have S5:(xs.drop (j*4)).length=(n-j)*4:=by rw[List.length_drop,yr];omega
 obtain⟨cur1,oa⟩:∃cur1:Array Value,cur1=(cur.toList.take (i*4)++xs.drop (j*4)++cur.toList.drop (i*4+(xs.drop (j*4)).length)).toArray:=⟨_,rfl⟩;have KK:cur1.size=cur.size:=by rw[oa];simp;omega
 have Yx:∀ty sc,(Builtin.append_ #[39,39] ty #[.slice (some ⟨g,0,none⟩) i c,.slice (some ⟨g,X,none⟩) (n-j) sc]).run Tryz.prog w.drew=.ok (.slice (some ⟨g,0,none⟩) (i+(n-j)) c) (w.drew.setRow g cur1):=fun ty sc=>by
  by_cases RP:c=j
  ·have hnj:n=j:=by omega
   have:n-j=0:=by omega
   rw[this]at S5 ⊢;have F8:xs.drop (j*4)=[]:=acg (by omega);rw[gF ht Yy _ _ _ (by omega) _ _,oa,F8];simp only[List.append_nil,List.length_nil,Nat.add_zero,List.take_append_drop,Array.toArray_toList];rw[setRow_self w.drew g cur 118 (0,0) hg]
  ·rw[if_neg RP]at hX;subst hX;rw[oa];exact qz (P:=Tryz.prog) w.drew 39 ty 118 4 g i c ⟨g,j*4,none⟩ (n-j) sc cur (xs.drop (j*4)) ht hz hg S5 (wG (size:=4) (n:=n) (w:=w.drew) hg lz (j*4)) (fun q hq=>h1 q (adr hq)) (by omega) (by omega)
 obtain⟨dM,yv⟩:∃dM:Array Value,dM=(cur1.toList.take ((i+(n-j))*4)++(Builtin.zeroCells z1.cells (j-i)).toList++cur1.toList.drop ((i+(n-j))*4+(Builtin.zeroCells z1.cells (j-i)).toList.length)).toArray:=⟨_,rfl⟩;have hzc:(Builtin.zeroCells z1.cells (j-i)).toList.length=(j-i)*4:=by simp[Builtin.zeroCells,Ls]
 have SY:dM.size=cur.size:=by rw[yv];simp[hzc];omega
 have uf:∀ty sc,(Builtin.clear_ #[39] ty #[.slice (some ⟨g,(i+(n-j))*4,none⟩) (n-(i+(n-j))) sc]).run Tryz.prog (w.drew.setRow g cur1)=.ok (.tuple #[]) ((w.drew.setRow g cur1).setRow g dM):=fun ty sc=>by have:=tE (P:=Tryz.prog) (w.drew.setRow g cur1) 39 ty 118 4 g ((i+(n-j))*4) (j-i) sc cur1 i1 z1 ht Yy X4 Ls A9 (setRow_heap w.drew g cur _ 118 _ hg) (by omega) (by omega);rw[show n-(i+(n-j))=j-i by omega,this,yv]
 have jX:dM.toList.take ((i+(n-j))*4)=xs.take (i*4)++xs.drop (j*4):=Lw (cur1:=cur1.toList) lz (by simp;omega) (by omega) SO (by rw[oa]) (by rw[yv]);clear oa yv lz S5;have h63:c≤9223372036854775807:=by unfold maxLen at hc;omega
 have oE:i≤n:=by omega
 have hic:¬(c=i):=by omega
 have hjc:j≤c:=by omega
 have bq:¬((i:Int)=(j:Int)):=by omega
 have pM:i≤j:=by omega
 have akW:i≤c:=by omega
 have akX:i+(n-j)≤n:=by omega
 have akY:i+(n-j)≤c:=by omega
 have akZ:¬(c=i+(n-j)):=by omega
 have ak0:(i:Int)+((n-j:Nat):Int)≤(n:Int):=by omega
 have mixed:Tryz.prog.follows .mixedOrders=true:=by kernel_rfl
 by_cases RP:c=j
 ·rw[if_pos RP]at hX;subst hX;subst RP;obtain rfl:n=c:=by omega
  simp only[Nat.sub_self,Nat.add_zero]at Yx uf jX ⊢
  go_enter Tryz.func186,Tryz.ntmps186
  go_wp2_with fail
  go_region_law (go_loud (refine jt rfl _ _ 39 39 rfl (.slice (some ⟨g,0,none⟩) i n) (.slice (some ⟨g,0,none⟩) 0 0) (by simp[Act.eval,Act.put]) (by simp[Act.eval,Act.put]) (Yx 39 0) ?_))
  go_wp2_with (simp only[uf])
  go_ret
  refine⟨rfl,dM,setRow_heap _ g cur1 _ 118 _ (setRow_heap w.drew g cur _ 118 _ hg),SY,jX,⟨rfl,rfl,rfl,by simp[World.setRow],fun k hk RO=>?_⟩⟩;have yZ:k≠g:=fun e=>RO (by rw[e]);rw[_root_.Go.setRow_other _ g k _ yZ,_root_.Go.setRow_other _ g k _ yZ];rfl
 ·rw[if_neg RP]at hX;subst hX
  go_enter Tryz.func186,Tryz.ntmps186
  go_wp2_with fail
  go_region_law (go_loud (refine jt rfl _ _ 39 39 rfl (.slice (some ⟨g,0,none⟩) i c) (.slice (some ⟨g,j*4,none⟩) (n-j) (c-j)) (by simp[Act.eval,Act.put]) (by simp[Act.eval,Act.put]) (Yx 39 (c-j)) ?_))
  go_wp2_with (simp only[uf])
  go_ret
  refine⟨rfl,dM,setRow_heap _ g cur1 _ 118 _ (setRow_heap w.drew g cur _ 118 _ hg),SY,jX,⟨rfl,rfl,rfl,by simp[World.setRow],fun k hk RO=>?_⟩⟩;have yZ:k≠g:=fun e=>RO (by rw[e]);rw[_root_.Go.setRow_other _ g k _ yZ,_root_.Go.setRow_other _ g k _ yZ];rfl
theorem abJ:NS Tryz.prog 186 118 4:=fun w v n i j xs hv Ck SO hm h1=>by
 rcases hv.2 with⟨h0,_⟩|⟨g,c,cur,rfl,S7,hg,A6,RN,jV,lz⟩
 ·omega
 have oD:ob (.slice (some ⟨g,0,none⟩) n c)=some g:=by simp only[ob];rw[if_neg (by omega)]
 refine(LA w g c n i j (if c=j then 0 else j*4) xs cur hg jV lz hv.1 Ck SO A6 RN (by split<;>rfl) h1).mono fun en w' ⟨e1,kb,e2,e3,e4,e5⟩=>?_;refine⟨_,e1,⟨?_,.inr ⟨g,c,kb,rfl,S7,e2,by omega,RN,by rw[e3,jV],e4⟩⟩,by rw[oD];exact e5,?_⟩
 ·have hl:=hv.1;simp only[List.length_append,List.length_take,List.length_drop];omega
 ·rw[oD];simp only[ob];rw[if_neg (by omega)]
set_option maxHeartbeats 4000000 in
set_option maxRecDepth 100000 in
theorem NU:I5 Tryz.prog 233 54 6:=fun w v u n xs ys hv hu hm h1=>by
 have ht:Tryz.prog.underlying 42=some (.slice 54):=by kernel_rfl
 obtain⟨i0,z0,he⟩:=cS (P:=Tryz.prog) (e:=54) (k:=.pair (.pair (.pair (.int .i64) (.int .i64)) (.int .i64)) (.pair (.pair (.int .i64) (.int .i64)) (.int .i64))) (by kernel_rfl);have zn:=I6 hu h1;obtain⟨v',w',ep,h4,h5,h6⟩:=eP (P:=Tryz.prog) (ty:=42) ht he hv zn hm;obtain⟨A,c,rfl⟩:=hv.slice;have A6:n≤c:=by
  rcases hv.2 with⟨h0,A,e⟩|⟨g,cap,cur,e,hc,h2,h3,_⟩
  ·omega
  ·cases e;exact h3
 obtain⟨B,cu,rfl⟩:=hu.slice;have afv:n≤1073741824:=by unfold gy at hm;omega
 go_enter Tryz.func233,Tryz.ntmps233
 go_wp2_with (at_builtin;refine Lib.wpList_append_run _ rfl _ _ _ _ rfl _ _ rfl rfl _ _ ep ?_)
 all_goals go_ret
 all_goals first|exact⟨_,rfl,h4,h5,h6⟩|(subst_vars;exact⟨_,rfl,h4,h5,h6⟩)
set_option maxHeartbeats 4000000 in
set_option maxRecDepth 100000 in
theorem Ja:yq Tryz.prog 233 54 6:=fun w g c g2 c2 n i xs ys cur dM hg jV lz yr vD oJ qS lV FZ bq hi eT hc h1 h2=>by
 have ht:Tryz.prog.underlying 42=some (.slice 54):=by kernel_rfl
 have hz:(Tryz.prog.info? 54).map (·.size)=some 6:=by kernel_rfl
 have BY:∀w,(Go.sizeOf 54).run Tryz.prog w=.ok 6 w:=fun w=>by
  cases hq:Tryz.prog.info? 54 with
  |none=>rw[hq]at hz;cases hz
  |some i=>rw[hq]at hz;simp at hz;simp[sizeOf,typeInfo,hq,hz]
 have XN:∀a2 lb cb,(callFunc 246 #[.slice (some ⟨g2,0,none⟩) 1 c2,.slice (some ⟨g,a2,none⟩) lb cb]).run Tryz.prog w=.ok (.value (.bool false)) w:=fun a2 lb cb=>by rw[run_callFunc_extern Tryz.func246 (by kernel_rfl) (by kernel_rfl) (by kernel_rfl) (e:=Extern.SlicesOverlaps.overlaps #[42,42] #[4]) (by kernel_rfl),Lib.run_overlaps_apart w 42 4 54 ht 6 BY ⟨g2,0,none⟩ ⟨g,a2,none⟩ 1 c2 lb cb bq 54 54 dM.size cur.size (by simp[World.shape?,vD]) (by simp[World.shape?,hg]) (by omega) (by simp[World.frozen?,vD]) (by simp[World.frozen?,vD])];rfl
 obtain⟨cur1,cur3,NM,Lt,RL,jX⟩:=wH ht hz w g c g2 c2 n i xs ys cur dM hg jV lz yr vD oJ qS lV FZ bq hi eT hc h1 h2;have h63:c≤9223372036854775807:=by unfold maxLen at hc;omega
 obtain⟨Gg,Lu,J0,oE,htn,zt,hb3,hb4,FV,MM⟩:=wJ hi eT hc;clear lz lV;have mixed:Tryz.prog.follows .mixedOrders=true:=by kernel_rfl
 go_enter Tryz.func233,Tryz.ntmps233
 go_wp2_with (simp only[XN])
 go_region_law (go_loud (refine step_copy_runI rfl _ _ 42 42 rfl (.slice (some ⟨g,(i+1)*6,none⟩) (n-i) (c-(i+1))) (.slice (some ⟨g,i*6,none⟩) (n+1-i) (c-i)) (by simp[Act.eval,Act.put]) (by simp[Act.eval,Act.put]) (NM w.drew rfl 3 (c-(i+1)) (c-i)) ?_))
 go_wp2_with (simp only[Lt])
 go_ret
 refine⟨rfl,cur3,setRow_heap _ g cur1 _ 54 _ (setRow_heap w.drew g cur _ 54 _ hg),RL,jX,⟨rfl,rfl,rfl,by simp[World.setRow],fun k hk RO=>?_⟩⟩;have yZ:k≠g:=fun e=>RO (by rw[e]);rw[_root_.Go.setRow_other _ g k _ yZ,_root_.Go.setRow_other _ g k _ yZ];rfl
set_option maxHeartbeats 4000000 in
set_option maxRecDepth 100000 in
theorem LB:CD Tryz.prog 233 54 6:=fun w g c g2 c2 n i xs ys cur dM hg jV lz yr vD oJ qS lV FZ bq hi A6 eT hm h1 h2=>by
 have ht:Tryz.prog.underlying 42=some (.slice 54):=by kernel_rfl
 obtain⟨i0,z0,he⟩:=cS (P:=Tryz.prog) (e:=54) (k:=.pair (.pair (.pair (.int .i64) (.int .i64)) (.int .i64)) (.pair (.pair (.int .i64) (.int .i64)) (.int .i64))) (by kernel_rfl);obtain⟨G,pO,row2,row3,W1,S6,u9,yu,qA,NO,NP,RL,PJ,EO,jX⟩:=Ah (sz:=6) rfl (by decide) ht (by kernel_rfl) he w g c g2 c2 n i xs ys cur dM hg jV lz yr vD oJ qS lV FZ bq hi A6 eT hm h1 h2;obtain⟨Gg,Lu,hw3,J0,oE,afx,hGi,afy,hci,hb3,FV,MM⟩:=Ai hi A6 eT hm PJ;unfold gy at hm;clear lz lV;have mixed:Tryz.prog.follows .mixedOrders=true:=by kernel_rfl
 go_enter Tryz.func233,Tryz.ntmps233
 go_wp2_with (first
  |(at_builtin;refine Lib.wpList_append_run _ rfl _ _ _ _ rfl _ _ rfl rfl _ _ (S6 _) ?_)
  |(at_builtin;refine wpList_copy_runI _ rfl _ _ 42 42 rfl _ _ rfl rfl (NO _ (by rfl) _ _ _) ?_))
 go_region_law (go_loud (refine step_copy_runI rfl _ _ 42 42 rfl (.slice (some ⟨w.heap.size,(i+1)*6,none⟩) (n-i) (G-(i+1))) (.slice (some ⟨g,i*6,none⟩) (n-i) (c-i)) (by simp[Act.eval,Act.put]) (by simp[Act.eval,Act.put]) (NP (W1.setRow w.heap.size row2).drew rfl 3 (G-(i+1)) (c-i)) ?_))
 go_wp2
 go_ret
 refine⟨G,rfl,row3,setRow_heap _ w.heap.size row2 _ 54 _ (setRow_heap W1 w.heap.size pO _ 54 _ u9),by omega,PJ,EO,jX,⟨qA.os,qA.tape,qA.output,by have:=qA.size;simpa[World.setRow] using this,fun k hk _=>?_⟩⟩;rw[_root_.Go.setRow_other _ w.heap.size k _ (Nat.ne_of_lt hk)];exact(_root_.Go.setRow_other W1 w.heap.size k _ (Nat.ne_of_lt hk)).trans (yu k hk)
theorem abK:EM Tryz.prog 233 54 6:=NQ NU Ja LB
def Jb(P:Program)(f:FuncId)(e:TypeId)(size:Nat):Prop :=∀(w:World) (n:Nat),n≤gy→Calls P f #[.slice none 0 0,.int .i64 n] w fun en w'=>∃v',en=.returned v'∧fF w' e size v' 0 []∧w.grownBy w' none∧∀b,ob v'=some b→w.heap.size≤b
set_option maxHeartbeats 4000000 in
set_option maxRecDepth 100000 in
theorem Yz:Jb Tryz.prog 220 33 3:=fun w n hm=>by
 have ht:Tryz.prog.underlying 50=some (.slice 33):=by kernel_rfl
 have htn:Tryz.prog.underlying 3=some (.int .i64):=by kernel_rfl
 obtain⟨i0,z0,he⟩:=cS (P:=Tryz.prog) (e:=33) (k:=.pair (.pair (.int .i64) (.int .i64)) (.int .i64)) (by kernel_rfl);have Ls:z0.cells.size=3:=he.xm;have BY:i0.size=3:=he.size;have I7:=he.bytes;unfold gy at hm;by_cases hn:n=0
 ·subst hn;have oD:ob (.slice none 0 0)=none:=rfl
  go_enter Tryz.func220,Tryz.ntmps220
  go_wp2
  go_ret
  exact⟨_,rfl,⟨by simp,.inl ⟨rfl,none,rfl⟩⟩,World.grownBy.refl w _,fun b hb=>by simp[ob]at hb⟩
 ·have nC:n*i0.bytes≤281474976710656:=acN (aea hm I7) (by decide);obtain⟨G,hG⟩:∃G,G=grownCap w n 0 33:=⟨_,rfl⟩;obtain⟨pO,EN⟩:∃pO,pO=Builtin.zeroCells z0.cells n++Builtin.zeroCells z0.cells (G-n):=⟨_,rfl⟩;obtain⟨W1,wK⟩:∃W1,W1=w.drew.alloc (.cells pO 33):=⟨_,rfl⟩;have S6:∀ty,(Builtin.append_ #[50,3] ty #[.slice none 0 0,.int .i64 n]).run Tryz.prog w=.ok (.slice (some ⟨w.heap.size,0,none⟩) n G) W1:=fun ty=>by rw[wK,EN,hG];exact Lib.run_append_nil_zeros w 50 3 ty 33 i0 z0 .i64 .i64 ht htn he.info he.zero n (by omega) (by omega) (by omega) nC
  have PJ:n≤G:=by rw[hG];exact grownCap_ge w _ _ _
  have EO:G≤9223372036854775807:=by have:=grownCap_le_maxLen w n 0 33 (by unfold maxLen;omega);rw[←hG]at this;unfold maxLen at this;omega
  have hRs:pO.size=G*3:=by rw[EN];simp[Builtin.zeroCells,Ls];omega
  have u9:W1.heap[w.heap.size]? = some (.cells pO 33 (0,0)):=by rw[wK];exact(MapKept.heap_alloc w.drew (.cells pO 33)).1
  have yu:∀b,b<w.heap.size→W1.heap[b]? = w.heap[b]? := fun b hb=>by rw[wK];exact(Below.heap_alloc w.drew (.cells pO 33) b hb).trans rfl
  have qA:w.grownBy W1 none:=⟨by rw[wK];rfl,by rw[wK];rfl,by rw[wK];rfl,by have:=(abq.1 u9).1;omega,fun k hk _=>yu k hk⟩;clear EN wK hG;have hn0:¬((n:Int)<0):=by omega
  have hn1:0<(n:Int):=by omega
  have hn2:IntKind.i64.wrap (n:Int)=n:=by rw[IntKind.wrap_i64];omega
  have hG0:¬(G=0):=by omega
  go_enter Tryz.func220,Tryz.ntmps220
  go_wp2_with (at_builtin;refine Lib.wpList_append_run _ rfl _ _ _ _ rfl _ _ rfl rfl _ _ (S6 _) ?_)
  go_ret
  refine⟨.slice (some ⟨w.heap.size,0,none⟩) 0 G,rfl,⟨by simp,.inr ⟨w.heap.size,G,pO,rfl,by omega,u9,by omega,EO,hRs,by simp⟩⟩,qA,fun b hb=>?_⟩;simp only[ob]at hb;rw[if_neg (by omega)]at hb;cases hb;omega
theorem BF{P:Program}{f:FuncId}{ty:TypeId}{k:K}(hr:Jb P f ty k.sz):jD P f (O3 ty k):=by
 intro Z ψ h w B0 O N hh id e vs us g hB bI hN bC mU vX Ir he;unfold O3 at he
 split at he
 rotate_left
 ·cases he
 rename_i n;simp only[Option.some.injEq,Prod.mk.injEq]at he;obtain⟨nE,rfl⟩:=he;simp only[sP,Bool.and_eq_true,decide_eq_true_eq]at nE;obtain⟨h0,h1⟩:=nE;obtain⟨m,rfl⟩:∃m:Nat,n=m:=⟨n.toNat,by omega⟩;simp only[ax,aD]at vX;obtain⟨v,_,rfl,rfl,u,_,rfl,rfl,rfl⟩:=vX;have bR:N id:=hN 0 (by omega);refine(hr w m (by omega)).mono fun en w' ⟨v',e1,e2,e3,e4⟩=>?_;have kk:dF ψ h w w':=dF.grown e3 (fun b e=>by cases e);have G6:=s5 (N:=N) g hB id ty bR (k:=k) (xs:=[]) (vs:=[]) kk (fun b hb=>e3.block b (g.cc hb) (by simp)) e2 (fun i x hx=>by simp at hx) e4 (fun i ty cs hb=>aJ.imp (p:=fun i=>¬N i) (q:=fun i=>i≠id) (fun a ha e=>ha (by rw[e];exact bR)) (bC i ty cs hb));refine⟨v',Z,fq ψ id v',e1,?_,?_⟩
 ·have hhp:(bW.new (.bV id) [(id,Ob.own (.row ty k) [])]).hp h=fq h id (some (.own (.row ty k) [])):=jC id _ h;rw[hhp];exact G6
 ·simp only[bW.v,aD];exact⟨e2.one,fun _=>(bD _ _ _).symm⟩
set_option maxHeartbeats 4000000 in
set_option maxRecDepth 100000 in
theorem YA:Jb Tryz.prog 142 37 20:=fun w n hm=>by
 have ht:Tryz.prog.underlying 25=some (.slice 37):=by kernel_rfl
 have htn:Tryz.prog.underlying 3=some (.int .i64):=by kernel_rfl
 obtain⟨i0,z0,he⟩:=cS (P:=Tryz.prog) (e:=37) (k:=j4) (by kernel_rfl);have Ls:z0.cells.size=20:=he.xm;have BY:i0.size=20:=he.size;have I7:=he.bytes;unfold gy at hm;by_cases hn:n=0
 ·subst hn;have oD:ob (.slice none 0 0)=none:=rfl
  go_enter Tryz.func142,Tryz.ntmps142
  go_wp2
  go_ret
  exact⟨_,rfl,⟨by simp,.inl ⟨rfl,none,rfl⟩⟩,World.grownBy.refl w _,fun b hb=>by simp[ob]at hb⟩
 ·have nC:n*i0.bytes≤281474976710656:=acN (aea hm I7) (by decide);obtain⟨G,hG⟩:∃G,G=grownCap w n 0 37:=⟨_,rfl⟩;obtain⟨pO,EN⟩:∃pO,pO=Builtin.zeroCells z0.cells n++Builtin.zeroCells z0.cells (G-n):=⟨_,rfl⟩;obtain⟨W1,wK⟩:∃W1,W1=w.drew.alloc (.cells pO 37):=⟨_,rfl⟩;have S6:∀ty,(Builtin.append_ #[25,3] ty #[.slice none 0 0,.int .i64 n]).run Tryz.prog w=.ok (.slice (some ⟨w.heap.size,0,none⟩) n G) W1:=fun ty=>by rw[wK,EN,hG];exact Lib.run_append_nil_zeros w 25 3 ty 37 i0 z0 .i64 .i64 ht htn he.info he.zero n (by omega) (by omega) (by omega) nC
  have PJ:n≤G:=by rw[hG];exact grownCap_ge w _ _ _
  have EO:G≤9223372036854775807:=by have:=grownCap_le_maxLen w n 0 37 (by unfold maxLen;omega);rw[←hG]at this;unfold maxLen at this;omega
  have hRs:pO.size=G*20:=by rw[EN];simp[Builtin.zeroCells,Ls];omega
  have u9:W1.heap[w.heap.size]? = some (.cells pO 37 (0,0)):=by rw[wK];exact(MapKept.heap_alloc w.drew (.cells pO 37)).1
  have yu:∀b,b<w.heap.size→W1.heap[b]? = w.heap[b]? := fun b hb=>by rw[wK];exact(Below.heap_alloc w.drew (.cells pO 37) b hb).trans rfl
  have qA:w.grownBy W1 none:=⟨by rw[wK];rfl,by rw[wK];rfl,by rw[wK];rfl,by have:=(abq.1 u9).1;omega,fun k hk _=>yu k hk⟩;clear EN wK hG;have hn0:¬((n:Int)<0):=by omega
  have hn1:0<(n:Int):=by omega
  have hn2:IntKind.i64.wrap (n:Int)=n:=by rw[IntKind.wrap_i64];omega
  have hG0:¬(G=0):=by omega
  go_enter Tryz.func142,Tryz.ntmps142
  go_wp2_with (at_builtin;refine Lib.wpList_append_run _ rfl _ _ _ _ rfl _ _ rfl rfl _ _ (S6 _) ?_)
  go_ret
  refine⟨.slice (some ⟨w.heap.size,0,none⟩) 0 G,rfl,⟨by simp,.inr ⟨w.heap.size,G,pO,rfl,by omega,u9,by omega,EO,hRs,by simp⟩⟩,qA,fun b hb=>?_⟩;simp only[ob]at hb;rw[if_neg (by omega)]at hb;cases hb;omega
end Go.Vs
namespace Go.Vs
variable {P:Program}
def Ca(P:Program)(g:TypeId→K→Bool):List Field→Nat→K→Bool
 |[],_,_=>false
 |[f],off,k=>(f.name != "_")&&(decide (f.offset=off)&&(decide (P.cellsOf f.type=k.sz)&&g f.type k))
 |f::f'::r,off,.pair a b=>(f.name != "_")&&(decide (f.offset=off)&&(decide (P.cellsOf f.type=a.sz)&&(g f.type a&&Ca P g (f'::r) (off+a.sz) b)))
 |_,_,_=>false
def Vx(P:Program):Nat→TypeId→K→Bool
 |0,_,_=>false
 |d+1,t,k =>
  match P.underlying t,k with
  |some (.int a),.int b=>decide (a=b)
  |some .bool,.bool=>true
  |some .string,.str=>true
  |some (.struct fs),.pair a b => !P.stoodInHeld t&&Ca P (Vx P d) fs.toList 0 (.pair a b)
  |_,_=>false
def VK(w:World)(Z:Nat→Prop):(k:K)→k.T→Value→Prop
 |.pair a b,x,v=>∃cs:Array Value,v=.agg cs∧aP Z w (.pair a b) x cs.toList
 |.one k,x,v=>False
 |k,x,v=>aP Z w k x [v]
theorem CE{Z:Nat→Prop}{w:World}{d:Nat}{t:TypeId}{k:K}(hk:Vx P d t k=true)(hc:P.cellsOf t=k.sz){cs:Array Value}{off:Nat}{x:k.T}(hr:aP Z w k x ((cs.toList.drop off).take k.sz)) :
  ∃v,(part t cs off).run P w=.ok v w∧VK w Z k x v:=by
 cases d with
 |zero=>simp[Vx]at hk
 |succ d =>
  have plain:k.sz=1→(P.underlying t).map MV=some false→∃v,(part t cs off).run P w=.ok v w∧aP Z w k x [v]:=fun h1 h2=>by
   rw[h1]at hr;have hl:=hr.len;rw[h1,List.length_take,List.length_drop,Array.length_toList]at hl;have aG:off<cs.size:=by omega
   refine⟨cs[off],?_,?_⟩
   ·simp[part,il h2,aG]
   ·have:(cs.toList.drop off).take 1=[cs[off]]:=by rw[List.drop_eq_getElem_cons (by simpa using aG)];simp
    rwa [this]at hr
  unfold Vx at hk
  split at hk
  ·rename_i a b hu;exact plain rfl (by rw[hu];rfl)
  ·rename_i hu;exact plain rfl (by rw[hu];rfl)
  ·rename_i hu;exact plain rfl (by rw[hu];rfl)
  ·rename_i fs a b hu;obtain⟨i,hi⟩:=vf hu;refine⟨.agg (cs.extract off (off+P.cellsOf t)),?_,_,rfl,?_⟩
   ·have h2:(P.underlying t).map MV=some true:=by rw[hu];rfl
    simp[part,il h2,eE hi]
   ·rw[Array.toList_extract,hc];simpa[List.extract] using hr
  ·cases hk
def jQ(em:Bool)(d:Nat)(cs:Array Value):List Field→Sem Unit
 |[]=>pure ()
 |f::fs =>
  if f.name≠ "_" then do
   let a ←part f.type cs f.offset
   Instr.checkKey em d f.type a
   jQ em d cs fs
  else jQ em d cs fs
theorem vc(em:Bool)(w:World)(d:Nat)(t:TypeId)(cs:Array Value)(fs:Array Field)(ht:P.underlying t=some (.struct fs)) :
  (Instr.checkKey em (d+1) t (.agg cs)).run P w=(jQ em d cs fs.toList).run P w:=by
 simp only[Instr.checkKey,Sem.run_bind,run_underlying ht,Result.andThen_ok];rw[←Array.forIn_toList];generalize fs.toList=l;clear ht
 induction l generalizing w with
 |nil=>simp[jQ]
 |cons f fs ih =>
  simp only[List.forIn_cons,jQ,Sem.run_bind,Sem.run_ite]
  split
  ·generalize (part f.type cs f.offset).run P w=r1
   cases r1 with
   |ok a w1 =>
    simp only[Result.andThen_ok];generalize (Instr.checkKey em d f.type a).run P w1=r2
    cases r2 with
    |ok b w2 =>simp only[Result.andThen_ok,Sem.run_pure];exact ih w2
    |halt x w2=>simp[Result.andThen]
   |halt x w1=>simp[Result.andThen]
  ·simp only[Sem.run_pure,Result.andThen_ok];exact ih w
theorem LC{Z:Nat→Prop}{D d:Nat}(em:Bool)(hg:∀t k,Vx P d t k=true→∀(w:World) (x y:k.T) (u v:Value),VK w Z k x u→VK w Z k y v→(Op.equalIn (D+d) t u v).run P w=.ok (tV k x y) w∧(Instr.checkKey em (D+d) t u).run P w=.ok () w)(w:World)(xs ys:Array Value) :
  ∀(fs:List Field) (off:Nat) (k:K),Ca P (Vx P d) fs off k=true→∀(x y:k.T),aP Z w k x ((xs.toList.drop off).take k.sz)→aP Z w k y ((ys.toList.drop off).take k.sz) →(Op.eqFields (D+d) xs ys fs).run P w=.ok (tV k x y) w∧(jQ em (D+d) xs fs).run P w=.ok () w
 |[],_,_,h,_,_,_,_=>by simp[Ca]at h
 |[f],off,k,h,x,y,hx,hy=>by
  have h':f.name≠ "_"∧f.offset=off∧P.cellsOf f.type=k.sz∧Vx P d f.type k=true:=by cases k<;>simpa[Ca] using h
  obtain⟨h0,h1,h2,h3⟩:=h';subst h1;obtain⟨u,hu,Vy⟩:=CE h3 h2 hx;obtain⟨v,hv,Dp⟩:=CE h3 h2 hy;obtain⟨e1,e2⟩:=hg _ _ h3 w x y u v Vy Dp;constructor
  ·simp only[Op.eqFields,if_pos h0,Sem.run_bind,hu,hv,e1,Result.andThen_ok]
   cases tV k x y<;>simp
  ·simp[jQ,h0,hu,e2]
 |f::f'::r,off,.pair a b,h,x,y,hx,hy=>by
  simp only[Ca,Bool.and_eq_true,decide_eq_true_eq,bne_iff_ne,ne_eq]at h;obtain⟨h0,h1,h2,h3,h4⟩:=h;subst h1;simp only[aP,K.sz]at hx hy;obtain⟨us,ws,ex,J1,XP⟩:=hx;obtain⟨jU,ws',ey,hy1,hy2⟩:=hy;have sp:∀(zs:Array Value) (us ws:List Value),us.length=a.sz→ws.length=b.sz→(zs.toList.drop f.offset).take (a.sz+b.sz)=us++ws→us=(zs.toList.drop f.offset).take a.sz∧ws=(zs.toList.drop (f.offset+a.sz)).take b.sz:=fun zs us ws l1 l2 e=>by
   rw[List.take_add,]at e;have hl:((zs.toList.drop f.offset).take a.sz).length=us.length:=by have:=congrArg List.length e;simp only[List.length_append,List.length_take,List.length_drop]at this ⊢;omega
   obtain⟨e1,e2⟩:=List.append_inj e hl;exact⟨e1.symm,by rw[←e2,List.drop_drop]⟩
  obtain⟨rfl,rfl⟩:=sp xs us ws J1.len XP.len ex;obtain⟨rfl,rfl⟩:=sp ys jU ws' hy1.len hy2.len ey;obtain⟨u,hu,Vy⟩:=CE h3 h2 J1;obtain⟨v,hv,Dp⟩:=CE h3 h2 hy1;obtain⟨e1,e2⟩:=hg _ _ h3 w x.1 y.1 u v Vy Dp;obtain⟨e3,e4⟩:=LC em hg w xs ys (f'::r) (f.offset+a.sz) b h4 x.2 y.2 XP hy2;constructor
  ·rw[Op.eqFields,if_pos h0];simp only[Sem.run_bind,hu,hv,e1,Result.andThen_ok,Sem.run_ite,e3,tV]
   cases tV a x.1 y.1<;>simp
  ·rw[jQ,if_pos h0];simp only[Sem.run_bind,hu,e2,Result.andThen_ok];exact e4
 |f::f'::r,off,.int _,h,_,_,_,_=>by simp[Ca]at h
 |f::f'::r,off,.bool,h,_,_,_,_=>by simp[Ca]at h
 |f::f'::r,off,.str,h,_,_,_,_=>by simp[Ca]at h
 |f::f'::r,off,.sl _,h,_,_,_,_=>by simp[Ca]at h
 |f::f'::r,off,.one _,h,_,_,_,_=>by simp[Ca]at h
 |f::f'::r,off,.mp _ _,h,_,_,_,_=>by simp[Ca]at h
theorem PL{Z:Nat→Prop}(D:Nat)(em:Bool):∀(d:Nat) (t:TypeId) (k:K),Vx P d t k=true→∀(w:World) (x y:k.T) (u v:Value),VK w Z k x u→VK w Z k y v →(Op.equalIn (D+d) t u v).run P w=.ok (tV k x y) w∧(Instr.checkKey em (D+d) t u).run P w=.ok () w
 |0,_,_,h,_,_,_,_,_,_,_=>by simp[Vx]at h
 |d+1,t,k,h,w,x,y,u,v,hu,hv=>by
  rw[←Nat.add_assoc];unfold Vx at h
  split at h
  ·rename_i a b ht;simp only[decide_eq_true_eq]at h;subst h;simp only[VK,aP,List.cons.injEq,and_true]at hu hv;subst hu;subst hv;exact⟨run_equalIn_int w _ _ _ _ _ _ ht,by simp[Instr.checkKey,run_underlying ht]⟩
  ·rename_i ht;simp only[VK,aP,List.cons.injEq,and_true]at hu hv;subst hu;subst hv;exact⟨run_equalIn_bool' w _ _ _ _ ht,by simp[Instr.checkKey,run_underlying ht]⟩
  ·rename_i ht;simp only[VK,aP,List.cons.injEq,and_true]at hu hv;subst hu;subst hv;exact⟨(run_equalIn_string w _ _ _ _ ht).trans (congrArg (fun b=>Result.ok b w) (beq_toListBytes (show ByteArray from x) (show ByteArray from y)).symm),by simp[Instr.checkKey,run_underlying ht]⟩
  ·rename_i fs a b ht;simp only[Bool.and_eq_true,Bool.not_eq_true']at h;obtain⟨hs,hf⟩:=h;obtain⟨xs,rfl,hx⟩:=hu;obtain⟨ys,rfl,hy⟩:=hv;have YB:P.fieldsOf t=fs:=by simp[Program.fieldsOf,ht]
   have yr:=hx.len;have FZ:=hy.len;obtain⟨e1,e2⟩:=LC (D:=D) (Z:=Z) em (fun t k hk w x y u v hu hv=>PL D em d t k hk w x y u v hu hv) w xs ys fs.toList 0 (.pair a b) hf x y (by rw[List.drop_zero,List.take_of_length_le (by omega)];exact hx) (by rw[List.drop_zero,List.take_of_length_le (by omega)];exact hy);constructor
   ·rw[run_equalIn_struct w (D+d) t xs ys (by rw[YB];exact ht) hs,YB];exact e1
   ·rw[vc em w (D+d) t xs fs ht];exact e2
  ·cases h
theorem RQ{d:Nat}{t:TypeId}{a b:K}(hd:d≤10000)(hk:Vx P d t (.pair a b)=true)(hg:P.eqGuardType P.depth t=false):nD P t (.pair a b):=fun Z w x y xs ys hx hy=>by
 have e:10000-d+d=10000:=by omega
 have key:=fun em=>PL (Z:=Z) (10000-d) em d t (.pair a b) hk w x y (.agg xs) (.agg ys) ⟨xs,rfl,hx⟩ ⟨ys,rfl,hy⟩;rw[e]at key;exact⟨(key true).1,fun op p q=>run_eqGuard_agg w op t p q xs ys hg,fun em=>(key em).2⟩
end Go.Vs
namespace Go.Vs
open Go.Proofs
theorem Vz{f:FuncId}{g:aX}(h:Sg f=some g):(f,g)∈sgs:=by
 unfold Sg at h;obtain⟨p,hp,rfl⟩:=ac5.1 h;have h1:=acq hp;have h2:=adm hp;have:p.1=f:=by simpa using h2
 subst this;exact h1
theorem mJ:∀f g,Sg f=some g→ke Tryz.prog (f%1000):=fun f g h=>by
 have hm:=Vz h;have key:(sgs.all fun p=>match Tryz.prog.funcs[p.1%1000]? with|some fn => !(fn.name== "runtime.NumGoroutine")&&fn.body.isSome|none=>false)=true:=by kernel_rfl
 have:=ac3.1 key _ hm;simp only at this
 split at this
 ·rename_i fn hf;simp only[Bool.and_eq_true,Bool.not_eq_true']at this;exact⟨fn,hf,this.1,this.2⟩
 ·cases this
theorem uH:Tryz.prog.follows .mixedOrders=true:=by kernel_rfl
theorem ES:∀t k,Eqs t=some k→nD Tryz.prog t k:=fun t k h=>by
 unfold Eqs at h;obtain⟨p,hp,rfl⟩:=ac5.1 h;have h1:=acq hp;have h2:=adm hp;have e:p.1=t:=by simpa using h2
 subst e;simp only[eqs,List.mem_cons,List.not_mem_nil,or_false]at h1;rcases h1 with rfl|rfl|rfl|rfl|rfl|rfl
 all_goals exact RQ (d:=5) (by omega) (by kernel_rfl) (by kernel_rfl)
end Go.Vs
set_option maxRecDepth 1000000
set_option maxHeartbeats 0
namespace Go.Vs
open Go.Proofs
def YC:aX:={ ps:=[.own],bs:=[.own (.row 52 dO)],rs:=[.own (.row 52 dO)] }
def YD:aX:={ ps:=[.own],bs:=[.own (.row 118 eR)],rs:=[.own (.row 118 eR)] }
def mK:aX:={ ps:=[.agg 2],bs:=[.own (.row 52 dO),.own (.row 118 eR)],rs:=[.agg [.own (.row 52 dO),.own (.row 118 eR)]] }
def uI(ty:TypeId)(k:K)(h:Heap)(id:Nat):List AV→Option (Bool×bW)
 |[.bV a]=>match fg h (.row ty k) (.bV a) with
  |some xs=>some (aU 0 xs.length,.new (.bV (id+128)) [(id+128,.own (.row ty k) xs)])
  |_=>none
 |_=>none
def ak6:aX:={ ps:=[],bs:=[],rs:=[],x:=some (uI 52 dO) }
def ak7:aX:={ ps:=[],bs:=[],rs:=[],x:=some (uI 118 eR) }
def abL:List (Nat×aX):=[(500127,YC),(500128,YD)]
def Sg0(f:FuncId):Option aX:=(abL.find? (fun p=>p.1==f)).map (fun p=>p.2)
def abM:List (Nat×aX):=[(110,B7),(500096,mK),(500127,ak6),(500128,ak7)]
def XQ(f:FuncId):Option aX:=(abM.find? (fun p=>p.1==f)).map (fun p=>p.2)
def LD:Shape:=⟨[(14,.int .i64),(15,.int .i64)],[(.slot 2,20000,.box 41 [.own (.row 52 dO),.own (.row 118 eR)]),(.slot 3,20001,.box 41 [.own (.row 52 dO),.own (.row 118 eR)])],[(6,1000,(.row 52 (.pair (.pair (.int .i64) (.int .i64)) (.pair (.sl (.pair (.pair (.int .i64) (.int .i64)) (.int .i64))) (.pair .str (.int .i64)))))),(9,1020,(.row 118 (.pair (.pair (.int .i64) (.int .i64)) (.pair .str (.int .i64)))))],[]⟩
def An0(f:FuncId)(key:Nat):Option Shape:=none
def An1(f:FuncId)(key:Nat):Option Shape:=if f=500096 then(if key=3 then some LD else none) else none
noncomputable def VA(SG:FuncId→Option aX)(AN:FuncId→Nat→Option Shape)(f:FuncId)(g:aX)(fn:Func)(F:FT)(J:JT g)(x:g.A):Option g.B:=aH Tryz.prog Eqs SG F fn.ntmps (AN f) J (sY Tryz.prog g fn) fuel [.code (fn.body.getD .skip)] (entry g x)
noncomputable def abO(SG:FuncId→Option aX)(AN:FuncId→Nat→Option Shape)(f j:Nat)(g:aX)(fn:Func)(sh:Shape)(F:FT)(J:JT g)(x:sh.T):Option g.B:=aH Tryz.prog Eqs SG F fn.ntmps (AN f) J (sY Tryz.prog g fn) fuel (round (aS Tryz.prog (f%1000) j)) (aA sh x)
theorem afB(F:FT)(J:JT YC)(x:(Unit×((List ai)×Unit))):VA Sg0 An0 500127 YC Tryz.f127 F J x = cond (List.isEmpty x.2.1) (u4 2 fun(j1:Nat) =>cond ((j1==0)==true) (some ((([]:List ai),()),x.2)) (cond (aU (List.length ([]:List ai)) (List.length x.2.1)) (some (((([]:List ai)++x.2.1),()),x.2)) (none))) (cond (aU (List.length ([]:List ai)) (List.length x.2.1)) (some (((([]:List ai)++x.2.1),()),x.2)) (none)):=by kernel_rfl
theorem afC(F:FT)(J:JT YD)(x:(Unit×((List an)×Unit))):VA Sg0 An0 500128 YD Tryz.f128 F J x = cond (List.isEmpty x.2.1) (u4 2 fun(j1:Nat) =>cond ((j1==0)==true) (some ((([]:List an),()),x.2)) (cond (aU (List.length ([]:List an)) (List.length x.2.1)) (some (((([]:List an)++x.2.1),()),x.2)) (none))) (cond (aU (List.length ([]:List an)) (List.length x.2.1)) (some (((([]:List an)++x.2.1),()),x.2)) (none)):=by kernel_rfl
theorem afD(F:FT)(J:JT B7)(x:(((List ae)×Unit)×Unit)):VA XQ An1 110 B7 Tryz.f110 F J x = cond (List.isEmpty x.1.1) (u4 2 fun(j1:Nat) =>cond ((j1==0)==true) (some ((([]:List ae),()),())) (cond (aU (List.length ([]:List ae)) (List.length x.1.1)) (some (((([]:List ae)++x.1.1),()),())) (none))) (cond (aU (List.length ([]:List ae)) (List.length x.1.1)) (some (((([]:List ae)++x.1.1),()),())) (none)):=by kernel_rfl
theorem afE(F:FT)(J:JT mK)(x:(Unit×((List ai)×((List an)×Unit)))):VA XQ An1 500096 mK Tryz.f96 F J x = cond (aU 0 (List.length x.2.1)) (cond (aU 0 (List.length x.2.2.1)) (J LD (aS Tryz.prog 96 0) (((((List.length x.2.1):Nat):Int),((0:Int),())),(((([]:List ai),(([]:List an),())),((x.2.1,x.2.2),())),(x.2.1,x.2.2)))) (none)) (none):=by kernel_rfl
theorem PM(F:FT)(J:JT mK)(x:((Int×(Int×Unit))×((((List ai)×((List an)×Unit))×(((List ai)×((List an)×Unit))×Unit))×((List ai)×((List an)×Unit))))):abO XQ An1 500096 0 mK Tryz.f96 LD F J x = cond (decide (x.1.2.1<x.1.1)) (cond ((decide ((0:Int)≤x.1.2.1))&&(decide (x.1.2.1<(((List.length x.2.1.2.1.1):Nat):Int)))) (((x.2.1.2.1.1)[(Int.toNat x.1.2.1)]?).bind fun(y1:ai) =>(F 110 B7 ((y1.2.1,()),())).bind fun(y2:(((List ae)×Unit)×Unit)) =>cond ((decide ((0:Int)≤x.1.2.1))&&(decide (x.1.2.1<(((List.length x.2.1.2.1.1):Nat):Int)))) (((x.2.1.2.1.1)[(Int.toNat x.1.2.1)]?).bind fun(y3:ai) =>J LD (aS Tryz.prog 96 0) ((x.1.1,((IntKind.wrap .i64 (x.1.2.1+(1:Int))),())),(((x.2.1.1.1,x.2.1.1.2),(((List.set x.2.1.2.1.1 (Int.toNat x.1.2.1) (y3.1,(y2.1.1,y3.2.2))),x.2.1.2.1.2),())),(x.2.2.1,x.2.2.2)))) (none)) (none)) (some (((x.2.1.2.1.1,x.2.1.2.1.2),()),(x.2.2.1,x.2.2.2))):=by kernel_rfl
end Go.Vs
namespace Go.Vs
open Go.Proofs
variable {P:Program}
theorem vE{f:FuncId}{ty:TypeId}{k:K}(hf:f%1000=f)(hc:∀(xs:List k.T),aU 0 xs.length=true→GZ P f ⟨[.own],[.own (.row ty k)],[.own (.row ty k)],none⟩ ((),(xs,())) ((xs,()),(xs,()))):jD P f (uI ty k):=by
 intro Z ψ h w B0 O N hh id e vs us g hB bI hN bC mU vX Ir he;unfold uI at he
 split at he
 rotate_left
 ·cases he
 rename_i a
 split at he
 rotate_left
 ·cases he
 rename_i xs A7;simp only[Option.some.injEq,Prod.mk.injEq]at he;obtain⟨nE,rfl⟩:=he;have ha:h a=some (.own (.row ty k) xs):=bI _ _ (kS A7);have NV:h a≠none:=by rw[ha];simp
 simp only[ax,aD]at vX;obtain⟨v1,_,rfl,⟨_,xw⟩,rfl⟩:=vX;have xw:=xw NV;subst xw;simp only[aJ,aQ]at Ir;have nR0:N (id+128):=hN 128 (by omega);have na:¬N a:=Ir.1;have a0:a≠id+128:=fun e=>na (e▸nR0)
 let ψ0:Nat→Value:=fun i=>if i=1000 then ψ a else ψ i
 have p0:ψ0 1000=ψ a:=if_pos rfl
 let g0:aX:=⟨[.own],[.own (.row ty k)],[.own (.row ty k)],none⟩
 have oE:rp g0 ((),(xs,()))=Heap.get [(1000,.own (.row ty k) xs)]:=rfl;have i0:rp g0 ((),(xs,())) 1000=some (.own (.row ty k) xs):=rfl;have iN:∀i,rp g0 ((),(xs,())) i≠none→i=1000:=fun i hi=>by
  by_cases e0:i=1000
  ·exact e0
  rw[oE]at hi;simp[Heap.get,Ne.symm e0]at hi
 have YE:∀q,Own ψ0 (rp g0 ((),(xs,()))) q→ob (ψ a)=some q:=fun q ⟨i,h1,h2⟩=>by have:=iN i h1;subst this;rw[←p0];exact h2
 have oh:∀q,Own ψ0 (rp g0 ((),(xs,()))) q→Own ψ h q:=fun q hq=>⟨a,NV,YE q hq⟩;have G0:Good Z ψ0 (rp g0 ((),(xs,()))) w w.heap.size (Own ψ0 (rp g0 ((),(xs,())))):=by
  refine⟨fun i ty cs k=>?_,fun i ok x k=>?_,fun i q h1 h2=>⟨fun hz=>?_,.inr ⟨i,h1,h2⟩⟩,fun i j q h1 h2 h3 h4=>?_,g.kO⟩
  ·have:=iN i (by rw[k];simp);subst this;rw[i0]at k;cases k
  ·have:=iN i (by rw[k];simp);subst this;rw[i0]at k;cases k;rw[p0];exact g.row a _ _ ha
  ·have:=iN i h1;subst this;rw[p0]at h2;exact(g.live a q NV h2).1 hz
  ·rw[iN i h1,iN j h2]
 have c0:(ψ a).cells=#[ψ a]∧(ψ a).oneCell'=true:=(g.row a _ _ ha).one;have R0:ax Z ψ0 (rp g0 ((),(xs,()))) w (Iu g0 ((),(xs,()))) [ψ a]:=by show ax Z ψ0 (rp g0 ((),(xs,()))) w [.bV 1000] [ψ a];simp only[ax,aD];exact⟨ψ a,[],rfl,⟨c0,fun _=>p0.symm⟩,rfl⟩
 have hcc:=hc xs nE Z ψ0 w [ψ a] G0 R0;rw[hf]at hcc;refine hcc.mono fun en w' ⟨V,Z',ψ',e1,zs,zf,kp,gd,bR,hr⟩=>?_;have q0:ψ' 1000=ψ a:=(bR 1000 (by show 1000∈[1000];simp)).trans p0;have o0:(kU g0 ((xs,()),(xs,()))).get 1000=some (.own (.row ty k) xs):=rfl;have o2:(kU g0 ((xs,()),(xs,()))).get 3000=some (.own (.row ty k) xs):=rfl;have gd:Good Z' ψ' (kU g0 ((xs,()),(xs,()))).get w' w.heap.size (Own ψ0 (rp g0 ((),(xs,())))):=gd;have hr:aD Z' ψ' (kU g0 ((xs,()),(xs,()))).get w' (.bV 3000) V:=hr;generalize (kU g0 ((xs,()),(xs,()))).get=out at *;have keep:dF ψ h w w':=⟨kp.os,kp.tape,kp.output,kp.size,fun q hq hn=>kp.block q hq fun ho=>hn (oh q ho)⟩;have sm:cU Z w w':=keep.same g;have dr:∀i q,i≠a→h i≠none→ob (ψ i)=some q→w'.heap[q]? = w.heap[q]? := fun i q k1 h1 h2 =>kp.block q (g.cc ⟨i,h1,h2⟩) fun ho=>k1 (g.apart i a q h1 NV h2 (YE q ho))
 let fj:Nat→Value:=fun i=>if i=id+128 then ψ' 3000 else ψ i
 let H:Hp:=(bW.new (.bV (id+128)) [(id+128,.own (.row ty k) xs)]).hp h
 have s0:fj (id+128)=ψ' 3000:=if_pos rfl;have sn:∀i,i≠id+128→fj i=ψ i:=fun i k1=>if_neg k1;have H0:H (id+128)=some (.own (.row ty k) xs):=by show(bW.hp h _) _=_;simp[bW.hp,Heap.get]
 have Hn:∀i,i≠id+128→H i=h i:=fun i k1=>by show(bW.hp h _) _=_;simp[bW.hp,Heap.get,Ne.symm k1]
 have two:∀q,ob (ψ' 3000)=some q→¬Z' q∧(w.heap.size≤q∨ob (ψ a)=some q):=fun q h2=>by obtain⟨h3,h4⟩:=gd.live 3000 q (by rw[o2];simp) h2;exact⟨h3,h4.imp (fun h=>h) (YE q)⟩
 have one:∀q,ob (ψ a)=some q→¬Z' q:=fun q h2=>(gd.live 1000 q (by rw[o0];simp) (by rw[q0];exact h2)).1;have YF:∀q,ob (ψ' 3000)=some q→ob (ψ a)=some q→False:=fun q h2 h3=>by have:=gd.apart 3000 1000 q (by rw[o2];simp) (by rw[o0];simp) h2 (by rw[q0];exact h3);omega
 have fresh:∀q,ob (ψ' 3000)=some q→w.heap.size≤q:=fun q h2=>(two q h2).2.resolve_right (YF q h2);have ids:∀i,H i≠none→(h i≠none∧fj i=ψ i)∨N i:=fun i hi=>by
  by_cases k1:i=id+128
  ·exact .inr (k1▸nR0)
  ·rw[Hn i k1]at hi;exact .inl ⟨hi,sn i k1⟩
 have live:∀i q,i≠id+128→h i≠none→ob (ψ i)=some q→¬Z' q:=fun i q k1 h1 h2 hz=>by
  by_cases k3:i=a
  ·subst k3;exact one q h2 hz
  rcases zf q hz with k|k|k
  ·exact(g.live i q h1 h2).1 k
  ·exact k3 (g.apart i a q h1 NV h2 (YE q k))
  ·have:=g.cc ⟨i,h1,h2⟩;omega
 refine⟨V,Z',fj,e1,⟨zs,fun q hq=>(zf q hq).imp (fun h=>h) fun k=>k.imp (oh q) fun h=>h,keep,ids,⟨fun i BT cs k=>?_,fun i ok x k=>?_,fun i q h1 h2=>?_,fun i j q h1 h2 h3 h4=>?_,gd.kO⟩⟩,?_⟩
 ·have k1:i≠id+128:=fun e=>by rw[e]at k;have k:H (id+128)=some (.box BT cs):=k;rw[H0]at k;cases k
  have k3:i≠a:=fun e=>by rw[e]at k;have k:H a=some (.box BT cs):=k;rw[(Hn a a0).trans ha]at k;cases k
  have sr:h i=some (.box BT cs):=(Hn i k1).symm.trans k;obtain⟨gg,vs,f1,f2,f3,f4⟩:=g.box i BT cs sr;exact⟨gg,vs,(sn i k1).trans f1,(dr i gg k3 (by rw[sr];simp) (by rw[f1];rfl)).trans f2,f3.move zs sm (fun j hj bq=>(ids j bq).resolve_right hj) (bC i BT cs sr),f4⟩
 ·by_cases k1:i=id+128
  ·subst k1;have k:H (id+128)=some (.own ok x):=k;rw[H0]at k;cases k;rw[s0];exact gd.row 3000 _ _ o2
  have sr:h i=some (.own ok x):=(Hn i k1).symm.trans k;rw[sn i k1];by_cases k3:i=a
  ·subst k3;rw[ha]at sr;cases sr;rw[←q0];exact gd.row 1000 _ _ o0
  exact(g.row i ok x sr).kept zs sm fun q hq=>dr i q k3 (by rw[sr];simp) hq
 ·by_cases k1:i=id+128
  ·subst k1;have h2:ob (fj (id+128))=some q:=h2;rw[s0]at h2;exact⟨(two q h2).1,.inl (acN hB (fresh q h2))⟩
  ·have h1:h i≠none:=by rw[←Hn i k1];exact h1
   rw[sn i k1]at h2;exact⟨live i q k1 h1 h2,(g.live i q h1 h2).2⟩
 ·have lt:∀j,j≠id+128→H j≠none→ob (fj j)=some q→q<w.heap.size:=fun j k1 k2 k3=>by rw[Hn j k1]at k2;rw[sn j k1]at k3;exact g.cc ⟨j,k2,k3⟩
  by_cases k1:i=id+128<;>by_cases k2:j=id+128
  ·exact k1.trans k2.symm
  ·subst k1;have h3:ob (fj (id+128))=some q:=h3;rw[s0]at h3;have:=fresh q h3;have:=lt j k2 h2 h4;omega
  ·subst k2;have h4:ob (fj (id+128))=some q:=h4;rw[s0]at h4;have:=fresh q h4;have:=lt i k1 h1 h3;omega
  ·rw[sn i k1]at h3;rw[sn j k2]at h4;exact g.apart i j q (by rw[←Hn i k1];exact h1) (by rw[←Hn j k2];exact h2) h3 h4
 ·simp only[aD]at hr;show aD Z' fj H w' (.bV (id+128)) V;simp only[aD];exact⟨hr.1,fun _=>(hr.2 (by rw[o2];simp)).trans s0.symm⟩
theorem Jc(hc:∀(xs:List dO.T) (ys:List eR.T),ry xs ys=true→GZ P 96 mK ((),(xs,(ys,()))) (((xs,(ys,())),()),(xs,(ys,())))):jD P 96 IM:=by
 intro Z ψ h w B0 O N hh id e vs us g hB bI hN bC mU vX Ir he;unfold IM at he
 split at he
 rotate_left
 ·cases he
 rename_i a b
 split at he
 rotate_left
 ·cases he
 rename_i xs ys A7 QR
 split at he
 ·cases he
 rename_i mI;simp only[Option.some.injEq,Prod.mk.injEq]at he;obtain⟨nE,rfl⟩:=he;have ha:h a=some (.own (.row 52 dO) xs):=bI _ _ (kS A7);have hb:h b=some (.own (.row 118 eR) ys):=bI _ _ (kS QR);have NV:h a≠none:=by rw[ha];simp
 have I7:h b≠none:=by rw[hb];simp
 simp only[ax,aD]at vX;obtain⟨v,_,rfl,⟨cs,rfl,v1,_,QK,⟨_,xw⟩,v2,_,rfl,⟨_,A5⟩,rfl⟩,rfl⟩:=vX;have xw:=xw NV;have A5:=A5 I7;subst xw A5;simp only[aJ,aQ]at Ir;have nR0:N (id+128):=hN 128 (by omega);have nR1:N (id+129):=hN 129 (by omega);have na:¬N a:=Ir.1.1;have nb:¬N b:=Ir.1.2.1;have a0:a≠id+128:=fun e=>na (e▸nR0);have a1:a≠id+129:=fun e=>na (e▸nR1);have b0:b≠id+128:=fun e=>nb (e▸nR0);have b1:b≠id+129:=fun e=>nb (e▸nR1)
 let ψ0:Nat→Value:=fun i=>if i=1000 then ψ a else if i=1020 then ψ b else ψ i
 have p0:ψ0 1000=ψ a:=if_pos rfl;have p1:ψ0 1020=ψ b:=(if_neg (by decide)).trans (if_pos rfl);have oE:rp mK ((),(xs,(ys,())))=Heap.get [(1000,.own (.row 52 dO) xs),(1020,.own (.row 118 eR) ys)]:=rfl;have i0:rp mK ((),(xs,(ys,()))) 1000=some (.own (.row 52 dO) xs):=rfl;have i1:rp mK ((),(xs,(ys,()))) 1020=some (.own (.row 118 eR) ys):=rfl;have iN:∀i,rp mK ((),(xs,(ys,()))) i≠none→i=1000∨i=1020:=fun i hi=>by
  by_cases e0:i=1000
  ·exact .inl e0
  by_cases e1:i=1020
  ·exact .inr e1
  rw[oE]at hi;simp[Heap.get,Ne.symm e0,Ne.symm e1]at hi
 have YE:∀q,Own ψ0 (rp mK ((),(xs,(ys,())))) q→ob (ψ a)=some q∨ob (ψ b)=some q:=fun q ⟨i,h1,h2⟩=>by
  rcases iN i h1 with rfl|rfl
  ·exact .inl (by rw[←p0];exact h2)
  ·exact .inr (by rw[←p1];exact h2)
 have oh:∀q,Own ψ0 (rp mK ((),(xs,(ys,())))) q→Own ψ h q:=fun q hq=>(YE q hq).elim (fun k=>⟨a,NV,k⟩) fun k=>⟨b,I7,k⟩;have G0:Good Z ψ0 (rp mK ((),(xs,(ys,())))) w w.heap.size (Own ψ0 (rp mK ((),(xs,(ys,()))))):=by
  refine⟨fun i ty cs k=>?_,fun i ok x k=>?_,fun i q h1 h2=>⟨fun hz=>?_,.inr ⟨i,h1,h2⟩⟩,fun i j q h1 h2 h3 h4=>?_,g.kO⟩
  ·rcases iN i (by rw[k];simp) with rfl|rfl
   ·rw[i0]at k;cases k
   ·rw[i1]at k;cases k
  ·rcases iN i (by rw[k];simp) with rfl|rfl
   ·rw[i0]at k;cases k;rw[p0];exact g.row a _ _ ha
   ·rw[i1]at k;cases k;rw[p1];exact g.row b _ _ hb
  ·rcases iN i h1 with rfl|rfl
   ·rw[p0]at h2;exact(g.live a q NV h2).1 hz
   ·rw[p1]at h2;exact(g.live b q I7 h2).1 hz
  ·rcases iN i h1 with rfl|rfl<;>rcases iN j h2 with rfl|rfl
   ·rfl
   ·rw[p0]at h3;rw[p1]at h4;exact absurd (g.apart a b q NV I7 h3 h4) mI
   ·rw[p1]at h3;rw[p0]at h4;exact absurd (g.apart a b q NV I7 h4 h3) mI
   ·rfl
 have c0:(ψ a).cells=#[ψ a]∧(ψ a).oneCell'=true:=(g.row a _ _ ha).one;have c1:(ψ b).cells=#[ψ b]∧(ψ b).oneCell'=true:=(g.row b _ _ hb).one;have R0:ax Z ψ0 (rp mK ((),(xs,(ys,())))) w (Iu mK ((),(xs,(ys,())))) [.agg cs]:=by show ax Z ψ0 (rp mK ((),(xs,(ys,())))) w [.agg [.bV 1000,.bV 1020]] [.agg cs];simp only[ax,aD];exact⟨.agg cs,[],rfl,⟨cs,rfl,ψ a,[ψ b],QK,⟨c0,fun _=>p0.symm⟩,ψ b,[],rfl,⟨c1,fun _=>p1.symm⟩,rfl⟩,rfl⟩
 refine(hc xs ys nE Z ψ0 w [.agg cs] G0 R0).mono fun en w' ⟨V,Z',ψ',e1,zs,zf,kp,gd,bR,hr⟩=>?_;have q0:ψ' 1000=ψ a:=(bR 1000 (by show 1000∈[1000,1020];simp)).trans p0;have q1:ψ' 1020=ψ b:=(bR 1020 (by show 1020∈[1000,1020];simp)).trans p1;have o0:(kU mK (((xs,(ys,())),()),(xs,(ys,())))).get 1000=some (.own (.row 52 dO) xs):=rfl;have o1:(kU mK (((xs,(ys,())),()),(xs,(ys,())))).get 1020=some (.own (.row 118 eR) ys):=rfl;have o2:(kU mK (((xs,(ys,())),()),(xs,(ys,())))).get 3000=some (.own (.row 52 dO) xs):=rfl;have o3:(kU mK (((xs,(ys,())),()),(xs,(ys,())))).get 3001=some (.own (.row 118 eR) ys):=rfl;generalize (kU mK (((xs,(ys,())),()),(xs,(ys,())))).get=out at *;have keep:dF ψ h w w':=⟨kp.os,kp.tape,kp.output,kp.size,fun q hq hn=>kp.block q hq fun ho=>hn (oh q ho)⟩;have sm:cU Z w w':=keep.same g;have dr:∀i q,i≠a→i≠b→h i≠none→ob (ψ i)=some q→w'.heap[q]? = w.heap[q]? := fun i q k1 k2 h1 h2 =>kp.block q (g.cc ⟨i,h1,h2⟩) fun ho=>(YE q ho).elim (fun k=>k1 (g.apart i a q h1 NV h2 k)) fun k=>k2 (g.apart i b q h1 I7 h2 k)
 let κ:Nat→Nat:=fun i=>if i=id+128 then 3000 else if i=id+129 then 3001 else if i=a then 1000 else 1020
 let XR:Nat→Prop:=fun i=>i=id+128∨i=id+129∨i=a∨i=b
 let fj:Nat→Value:=fun i=>if i=id+128 then ψ' 3000 else if i=id+129 then ψ' 3001 else ψ i
 let H:Hp:=(bW.new (.agg [.bV (id+128),.bV (id+129)]) [(id+128,.own (.row 52 dO) xs),(id+129,.own (.row 118 eR) ys)]).hp h
 have s0:fj (id+128)=ψ' 3000:=if_pos rfl;have s1:fj (id+129)=ψ' 3001:=(if_neg (by omega)).trans (if_pos rfl);have sn:∀i,i≠id+128→i≠id+129→fj i=ψ i:=fun i k1 k2=>(if_neg k1).trans (if_neg k2);have H0:H (id+128)=some (.own (.row 52 dO) xs):=by show(bW.hp h _) _=_;simp[bW.hp,Heap.get]
 have H1:H (id+129)=some (.own (.row 118 eR) ys):=by show(bW.hp h _) _=_;simp[bW.hp,Heap.get]
 have Hn:∀i,i≠id+128→i≠id+129→H i=h i:=fun i k1 k2=>by show(bW.hp h _) _=_;simp[bW.hp,Heap.get,Ne.symm k1,Ne.symm k2]
 have Ha:H a=some (.own (.row 52 dO) xs):=(Hn a a0 a1).trans ha;have Hb:H b=some (.own (.row 118 eR) ys):=(Hn b b0 b1).trans hb;have kap:∀i,XR i→out (κ i)≠none∧ψ' (κ i)=fj i:=fun i hi=>by
  rcases hi with rfl|rfl|rfl|rfl
  ·have:κ (id+128)=3000:=if_pos rfl;rw[this,o2,s0];exact⟨by simp,rfl⟩
  ·have:κ (id+129)=3001:=(if_neg (by omega)).trans (if_pos rfl);rw[this,o3,s1];exact⟨by simp,rfl⟩
  ·have:κ i=1000:=(if_neg a0).trans ((if_neg a1).trans (if_pos rfl));rw[this,o0,q0,sn i a0 a1];exact⟨by simp,rfl⟩
  ·have:κ i=1020:=(if_neg b0).trans ((if_neg b1).trans (if_neg (fun k=>mI k.symm)));rw[this,o1,q1,sn i b0 b1];exact⟨by simp,rfl⟩
 have ala:∀i j,XR i→XR j→κ i=κ j→i=j:=fun i j hi hj hk=>by have v1:κ (id+128)=3000:=if_pos rfl;have v2:κ (id+129)=3001:=(if_neg (by omega)).trans (if_pos rfl);have v3:κ a=1000:=(if_neg a0).trans ((if_neg a1).trans (if_pos rfl));have v4:κ b=1020:=(if_neg b0).trans ((if_neg b1).trans (if_neg (fun k=>mI k.symm)));rcases hi with rfl|rfl|rfl|rfl<;>rcases hj with rfl|rfl|rfl|rfl<;>first|rfl|(rw[v1]at hk;first|(rw[v2]at hk;cases hk)|(rw[v3]at hk;cases hk)|(rw[v4]at hk;cases hk))|(rw[v2]at hk;first|(rw[v1]at hk;cases hk)|(rw[v3]at hk;cases hk)|(rw[v4]at hk;cases hk))|(rw[v3,v4]at hk;cases hk)|(rw[v4,v3]at hk;cases hk)
 have back:∀i q,XR i→ob (fj i)=some q→¬Z' q∧(w.heap.size≤q∨ob (ψ a)=some q∨ob (ψ b)=some q):=fun i q hi h2=>by obtain⟨k1,k2⟩:=kap i hi;rw[←k2]at h2;obtain⟨h3,h4⟩:=gd.live (κ i) q k1 h2;exact⟨h3,h4.imp (fun h=>h) (YE q)⟩
 have rest:∀i,¬XR i→i≠id+128∧i≠id+129∧i≠a∧i≠b:=fun i hi=>⟨fun k=>hi (.inl k),fun k=>hi (.inr (.inl k)),fun k=>hi (.inr (.inr (.inl k))),fun k=>hi (.inr (.inr (.inr k)))⟩;have mixed:∀i j q,XR i→¬XR j→h j≠none→ob (fj i)=some q→ob (ψ j)=some q→False:=fun i j q hi hj h2 h3 h4=>by
  obtain⟨_,_,k3,k4⟩:=rest j hj;rcases (back i q hi h3).2 with k|k|k
  ·have:=g.cc ⟨j,h2,h4⟩;omega
  ·exact k3 (g.apart j a q h2 NV h4 k)
  ·exact k4 (g.apart j b q h2 I7 h4 k)
 have ids:∀i,H i≠none→(h i≠none∧fj i=ψ i)∨N i:=fun i hi=>by
  by_cases k1:i=id+128
  ·exact .inr (k1▸nR0)
  by_cases k2:i=id+129
  ·exact .inr (k2▸nR1)
  ·rw[Hn i k1 k2]at hi;exact .inl ⟨hi,sn i k1 k2⟩
 refine⟨V,Z',fj,e1,⟨zs,fun q hq=>(zf q hq).imp (fun h=>h) fun k=>k.imp (oh q) fun h=>h,keep,ids,⟨fun i ty cs k=>?_,fun i ok x k=>?_,fun i q h1 h2=>?_,fun i j q h1 h2 h3 h4=>?_,gd.kO⟩⟩,?_⟩
 ·have k1:i≠id+128:=fun e=>by rw[e]at k;have k:H (id+128)=some (.box ty cs):=k;rw[H0]at k;cases k
  have k2:i≠id+129:=fun e=>by rw[e]at k;have k:H (id+129)=some (.box ty cs):=k;rw[H1]at k;cases k
  have k3:i≠a:=fun e=>by rw[e]at k;have k:H a=some (.box ty cs):=k;rw[Ha]at k;cases k
  have k4:i≠b:=fun e=>by rw[e]at k;have k:H b=some (.box ty cs):=k;rw[Hb]at k;cases k
  have sr:h i=some (.box ty cs):=(Hn i k1 k2).symm.trans k;obtain⟨gg,vs,f1,f2,f3,f4⟩:=g.box i ty cs sr;exact⟨gg,vs,(sn i k1 k2).trans f1,(dr i gg k3 k4 (by rw[sr];simp) (by rw[f1];rfl)).trans f2,f3.move zs sm (fun j hj bq=>(ids j bq).resolve_right hj) (bC i ty cs sr),f4⟩
 ·by_cases k1:i=id+128
  ·subst k1;have k:H (id+128)=some (.own ok x):=k;rw[H0]at k;cases k;rw[s0];exact gd.row 3000 _ _ o2
  by_cases k2:i=id+129
  ·subst k2;have k:H (id+129)=some (.own ok x):=k;rw[H1]at k;cases k;rw[s1];exact gd.row 3001 _ _ o3
  have sr:h i=some (.own ok x):=(Hn i k1 k2).symm.trans k;rw[sn i k1 k2];by_cases k3:i=a
  ·subst k3;rw[ha]at sr;cases sr;rw[←q0];exact gd.row 1000 _ _ o0
  by_cases k4:i=b
  ·subst k4;rw[hb]at sr;cases sr;rw[←q1];exact gd.row 1020 _ _ o1
  exact(g.row i ok x sr).kept zs sm fun q hq=>dr i q k3 k4 (by rw[sr];simp) hq
 ·by_cases h4:XR i
  ·obtain⟨k1,k2⟩:=back i q h4 h2;refine⟨k1,?_⟩;rcases k2 with k|k|k
   ·exact .inl (acN hB k)
   ·exact(g.live a q NV k).2
   ·exact(g.live b q I7 k).2
  ·obtain⟨r1,r2,r3,r4⟩:=rest i h4;have h1:h i≠none:=by rw[←Hn i r1 r2];exact h1
   rw[sn i r1 r2]at h2;refine⟨fun hz=>?_,(g.live i q h1 h2).2⟩;rcases zf q hz with k|k|k
   ·exact(g.live i q h1 h2).1 k
   ·rcases YE q k with k|k
    ·exact r3 (g.apart i a q h1 NV h2 k)
    ·exact r4 (g.apart i b q h1 I7 h2 k)
   ·have:=g.cc ⟨i,h1,h2⟩;omega
 ·by_cases hi:XR i<;>by_cases hj:XR j
  ·obtain⟨k1,k2⟩:=kap i hi;obtain⟨k3,k4⟩:=kap j hj;rw[←k2]at h3;rw[←k4]at h4;exact ala i j hi hj (gd.apart _ _ q k1 k3 h3 h4)
  ·obtain⟨r1,r2,r3,r4⟩:=rest j hj;rw[sn j r1 r2]at h4;exact(mixed i j q hi hj (by rw[←Hn j r1 r2];exact h2) h3 h4).elim
  ·obtain⟨r1,r2,r3,r4⟩:=rest i hi;rw[sn i r1 r2]at h3;exact(mixed j i q hj hi (by rw[←Hn i r1 r2];exact h1) h4 h3).elim
  ·obtain⟨r1,r2,_,_⟩:=rest i hi;obtain⟨t1,t2,_,_⟩:=rest j hj;rw[sn i r1 r2]at h3;rw[sn j t1 t2]at h4;exact g.apart i j q (by rw[←Hn i r1 r2];exact h1) (by rw[←Hn j t1 t2];exact h2) h3 h4
 ·have hr:aD Z' ψ' out w' (.agg [.bV 3000,.bV 3001]) V:=hr;simp only[aD,ax]at hr;obtain⟨vs,rfl,u1,_,vX,⟨d1,d2⟩,u2,_,rfl,⟨d3,d4⟩,rfl⟩:=hr;show aD Z' fj H w' (.agg [.bV (id+128),.bV (id+129)]) (.agg vs);simp only[aD,ax];exact⟨vs,rfl,u1,[u2],vX,⟨d1,fun _=>(d2 (by rw[o2];simp)).trans s0.symm⟩,u2,[],rfl,⟨d3,fun _=>(d4 (by rw[o3];simp)).trans s1.symm⟩,rfl⟩
end Go.Vs
namespace Go.Vs
open Go.Proofs
abbrev YG:(f:FuncId)→(g:aX)→Option (g.A→Option g.B):=fun _ _=>none
section
variable (SG:FuncId→Option aX) (AN:FuncId→Nat→Option Shape)
noncomputable abbrev YH:FT:=Fix Tryz.prog Eqs SG AN YG
noncomputable abbrev LXG(f:FuncId)(g:aX)(fn:Func):JT g:=Lp Tryz.prog Eqs SG AN YG f g fn
end
theorem Jd{SG:FuncId→Option aX}{AN:FuncId→Nat→Option Shape}{f:FuncId}{g:aX}{fn:Func}{x:g.A}{y:g.B}(hb:body Tryz.prog (f%1000)=some (fn,fn.body.getD .skip))(hc:(decide (g.ps.length≤fn.ntmps)&&decide (g.bs.length≤8))=true) (h:VA SG AN f g fn (YH SG AN) (LXG SG AN f g fn) x=some y):YH SG AN f g x=some y:=Pg rfl hb hc h
theorem VB{SG:FuncId→Option aX}{AN:FuncId→Nat→Option Shape}{f j:Nat}{g:aX}{fn:Func}{sh:Shape}{x:sh.T}{y:g.B}(hs:(match aS Tryz.prog (f%1000) j with | .inLoop _::_=>true|_=>false)=true)
  (h:abO SG AN f j g fn sh (YH SG AN) (LXG SG AN f g fn) x=some y):LXG SG AN f g fn sh (aS Tryz.prog (f%1000) j) x=some y:=by
 unfold abO at h;generalize aS Tryz.prog (f%1000) j=s at hs h ⊢
 split at hs
 ·exact Uk h
 ·cases hs
theorem VC{α β:Type}{o:Option α}{f:α→Option β}{a:α}{r:Option β}(h:o=some a)(k:f a=r):o.bind f=r:=by rw[h];exact k
theorem ET{α:Type}{c:Bool}{x y r:α}(h:c=true)(k:x=r):cond c x y=r:=by subst h;exact k
theorem YI{α:Type}{c:Bool}{x y r:α}(h:c=false)(k:y=r):cond c x y=r:=by subst h;exact k
theorem VD{R:Type}{f:Nat→Option R}{r:R}(h0:f 0=some r)(h1:f 1=some r):u4 2 f=some r :=oW (by omega) fun j hj=>by
  rcases j with _|_|j
  ·exact h0
  ·exact h1
  ·omega
theorem afF(xs:List ai)(h:aU 0 xs.length=true):YH Sg0 An0 500127 YC ((),(xs,()))=some ((xs,()),(xs,())):=by
 refine Jd (fn:=Tryz.f127) (by kernel_rfl) (by kernel_rfl) ((afB _ _ _).trans ?_)
 cases xs with
 |nil=>exact ET rfl (VD rfl rfl)
 |cons x r=>exact YI rfl (ET h rfl)
theorem afG(xs:List an)(h:aU 0 xs.length=true):YH Sg0 An0 500128 YD ((),(xs,()))=some ((xs,()),(xs,())):=by
 refine Jd (fn:=Tryz.f128) (by kernel_rfl) (by kernel_rfl) ((afC _ _ _).trans ?_)
 cases xs with
 |nil=>exact ET rfl (VD rfl rfl)
 |cons x r=>exact YI rfl (ET h rfl)
theorem PN{f:FuncId}{g:aX}(h:Sg0 f=some g):(f,g)∈abL:=by
 unfold Sg0 at h;obtain⟨p,hp,rfl⟩:=ac5.1 h;have h1:=acq hp;have h2:=adm hp;have:p.1=f:=by simpa using h2
 subst this;exact h1
theorem PO{f:FuncId}{g:aX}(h:XQ f=some g):(f,g)∈abM:=by
 unfold XQ at h;obtain⟨p,hp,rfl⟩:=ac5.1 h;have h1:=acq hp;have h2:=adm hp;have:p.1=f:=by simpa using h2
 subst this;exact h1
noncomputable def NW(l:List (Nat×aX)):Bool:=l.all fun p=>match Tryz.prog.funcs[p.1%1000]? with|some fn => !(fn.name== "runtime.NumGoroutine")&&fn.body.isSome|none=>false
theorem CF{l:List (Nat×aX)}(key:NW l=true){f:FuncId}{g:aX}(hm:(f,g)∈l):ke Tryz.prog (f%1000):=by
 have:=ac3.1 key _ hm;simp only at this
 split at this
 ·rename_i fn hf;simp only[Bool.and_eq_true,Bool.not_eq_true']at this;exact⟨fn,hf,this.1,this.2⟩
 ·cases this
theorem afH{f:FuncId}{g:aX}{x:g.A}{y:g.B}(hs:Sg0 f=some g)(h:YH Sg0 An0 f g x=some y):GZ Tryz.prog f g x y :=Cz (fun f g u hf hu=>by have hm:=PN hf;simp only[abL,List.mem_cons,List.not_mem_nil,or_false,Prod.mk.injEq]at hm;rcases hm with⟨_,rfl⟩|⟨_,rfl⟩<;>cases hu) ES (fun f g hf=>CF (by kernel_rfl) (PN hf)) uH (fun f g u x y _ hu _=>by cases hu) hs h
theorem YJ:jD Tryz.prog 127 (uI 52 dO):=vE rfl fun xs h=>by have:=afH (by kernel_rfl) (afF xs h);exact this
theorem YK:jD Tryz.prog 128 (uI 118 eR):=vE rfl fun xs h=>by have:=afH (by kernel_rfl) (afG xs h);exact this
theorem afI(l:List ae)(hl:l.length≤50000000):YH XQ An1 110 B7 ((l,()),())=some ((l,()),()):=by
 refine Jd (fn:=Tryz.f110) (by kernel_rfl) (by kernel_rfl) ((afD _ _ _).trans ?_)
 cases l with
 |nil=>exact ET rfl (VD rfl rfl)
 |cons x r=>exact YI rfl (ET (decide_eq_true (show 0+(x::r).length≤1073741824 by omega)) rfl)
theorem VF{i n:Nat}(h:i<n)(hn:n≤50000000):IntKind.wrap .i64 ((i:Int)+1)=((i+1:Nat):Int):=by
 unfold IntKind.wrap;simp only[IntKind.bits,IntKind.signed];simp
 split<;>omega
theorem afJ(xs:List ai)(ys:List an)(h:ry xs ys=true):YH XQ An1 500096 mK ((),(xs,(ys,())))=some (((xs,(ys,())),()),(xs,(ys,()))):=by
 unfold ry at h;simp only[Bool.and_eq_true,decide_eq_true_eq,List.all_eq_true]at h;obtain⟨hx,hy,hr⟩:=h;refine Jd (fn:=Tryz.f96) (by kernel_rfl) (by kernel_rfl) ((afE _ _ _).trans ?_);refine ET (decide_eq_true (show 0+xs.length≤1073741824 by omega)) (ET (decide_eq_true (show 0+ys.length≤1073741824 by omega)) ?_);have loop:∀(n i:Nat) (out:List ai),i+n=xs.length→out=xs→LXG XQ An1 500096 mK Tryz.f96 LD (aS Tryz.prog 96 0) ((((xs.length:Nat):Int),((i:Int),())),(((([]:List ai),(([]:List an),())),((out,(ys,())),())),(xs,(ys,()))))=some (((xs,(ys,())),()),(xs,(ys,()))):=by
  intro n
  induction n with
  |zero =>intro i out hi ho;subst ho;refine VB (j:=0) (by kernel_rfl) ((PM _ _ _).trans ?_);exact YI (decide_eq_false (show ¬((i:Int)<((out.length:Nat):Int)) by omega)) rfl
  |succ n ih =>
   intro i out hi ho;have aG:i<xs.length:=by omega
   have J1:out[i]? = some xs[i]:=by rw[ho];exact aa4 aG
   have hol:out.length=xs.length:=by rw[ho]
   have c1:(decide ((0:Int)≤(i:Int))&&decide ((i:Int)<((out.length:Nat):Int)))=true:=by rw[decide_eq_true (show(0:Int)≤(i:Int) by omega),decide_eq_true (show(i:Int)<((out.length:Nat):Int) by omega)];rfl
   refine VB (j:=0) (by kernel_rfl) ((PM _ _ _).trans ?_);refine ET (decide_eq_true (show((i:Int)<((xs.length:Nat):Int)) by omega)) (ET c1 (VC J1 ?_));refine VC (afI xs[i].2.1 (hr _ (acm aG))) ?_;refine ET c1 (VC J1 ?_);have hs:out.set i (xs[i].1,(xs[i].2.1,xs[i].2.2))=xs:=by subst ho;exact List.set_getElem_self aG
   have:=ih (i+1) (out.set i (xs[i].1,(xs[i].2.1,xs[i].2.2))) (by omega) hs;rw[←VF aG hx]at this;exact this
 exact loop xs.length 0 xs (by omega) rfl
theorem alb{f:FuncId}{g:aX}{x:g.A}{y:g.B}(hs:XQ f=some g)(h:YH XQ An1 f g x=some y):GZ Tryz.prog f g x y :=Cz (fun f g u hf hu=>by
  have hm:=PO hf;simp only[abM,List.mem_cons,List.not_mem_nil,or_false,Prod.mk.injEq]at hm;rcases hm with⟨_,rfl⟩|⟨_,rfl⟩|⟨rfl,rfl⟩|⟨rfl,rfl⟩
  ·cases hu
  ·cases hu
  ·cases hu;intro Z ψ h w B0 O N hh id e vs us;exact YJ
  ·cases hu;intro Z ψ h w B0 O N hh id e vs us;exact YK) ES (fun f g hf=>CF (by kernel_rfl) (PO hf)) uH (fun f g u x y _ hu _=>by cases hu) hs h
theorem RR:jD Tryz.prog 96 IM:=Jc fun xs ys h=>by have:=alb (by kernel_rfl) (afJ xs ys h);exact this
end Go.Vs
namespace Go.Vs
open Go.Proofs Go.RowKit
abbrev aob:Array Value:=#[.slice none 0 0,.slice none 0 0,.slice none 0 0,.int .i64 0,.slice none 0 0]
end Go.Vs
namespace Go.Vs
open Go.Proofs
theorem VG:∀f g u,Sg f=some g→g.x=some u→jD Tryz.prog (f%1000) u:=fun f g u h hu=>by
 have hm:=Vz h;have key:(sgs.all fun p=>(p.2.x.isNone || (p.1==176 || (p.1==211 || (p.1==233 || (p.1==177 || (p.1==186 || (p.1==220 || (p.1==500096 || (p.1==142))))))))))=true:=by kernel_rfl
 have:=ac3.1 key _ hm;simp only[hu,Option.isNone_some,Bool.false_or,Bool.or_eq_true,beq_iff_eq]at this;rcases this with rfl|rfl|rfl|rfl|rfl|rfl|rfl|rfl
 ·have e:Sg 176=some aaj:=by kernel_rfl
  rw[e]at h;cases h;cases hu;intro Z ψ h w B0 O N hh id e vs us;exact wL (k:=dO) abG
 ·have e:Sg 211=some aam:=by kernel_rfl
  rw[e]at h;cases h;cases hu;intro Z ψ h w B0 O N hh id e vs us;exact wL (k:=eR) abI
 ·have e:Sg 233=some aan:=by kernel_rfl
  rw[e]at h;cases h;cases hu;intro Z ψ h w B0 O N hh id e vs us;exact wL (k:=dy) abK
 ·have e:Sg 177=some aak:=by kernel_rfl
  rw[e]at h;cases h;cases hu;intro Z ψ h w B0 O N hh id e vs us;exact ER (k:=dO) abH
 ·have e:Sg 186=some aal:=by kernel_rfl
  rw[e]at h;cases h;cases hu;intro Z ψ h w B0 O N hh id e vs us;exact ER (k:=eR) abJ
 ·have e:Sg 220=some aao:=by kernel_rfl
  rw[e]at h;cases h;cases hu;intro Z ψ h w B0 O N hh id e vs us;exact BF (k:=bA) Yz
 ·have e:Sg 500096=some Lj:=by kernel_rfl
  rw[e]at h;cases h;cases hu;intro Z ψ h w B0 O N hh id e vs us;exact RR
 ·have e:Sg 142=some aas:=by kernel_rfl
  rw[e]at h;cases h;cases hu;intro Z ψ h w B0 O N hh id e vs us;exact BF (k:=j4) YA
end Go.Vs
