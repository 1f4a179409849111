/- slices.Insert -/
import Derived.Test.YtpkfpbpbkabkdaaGreatEngineD
import Derived.Lib.AppendZerosOnto
import Derived.Lib.Overlaps
import Derived.Lib.Walk
import Derived.Shelf.Spec.SlicesInsert
import Derived.Laws.NewBlocks
set_option linter.unusedVariables false
set_option linter.unusedSimpArgs false
namespace Go.Vs
variable {P:Program} {w:World}
theorem kf(w:World)(dT sT ty elem:TypeId)(sz g o Yt aho:Nat)(a:Addr)(Yu ahp:Nat)(cur:Array Value)(t:TypeId)(cs:List Value) (hu:P.underlying dT=some (.slice elem)) (hs:(P.info? elem).map (·.size)=some sz) (hg:w.heap[g]? = some (.cells cur t (0,0))) (hn:cs.length=Nat.min Yu Yt*sz) (wS:∀(j:Nat) v,cs[j]? = some v→w.cell? (a.add j)=some v) (UO:o+cs.length≤cur.size) (h1:∀v∈cs,v.oneCell'=true) :
  (Builtin.copy_ #[dT,sT] ty #[.slice (some ⟨g,o,none⟩) Yt aho,.slice (some a) Yu ahp]).run P w = .ok (goInt (Nat.min Yu Yt)) (w.setRow g (cur.toList.take o++cs++cur.toList.drop (o+cs.length)).toArray):=by
 have hl:=run_loadCells_list (P:=P) w a cs wS;have uW:=run_storeCells_at P g o t cs 0 cur w hg (by simpa using UO) h1
 cases hq:P.info? elem with
 |none=>simp[hq]at hs
 |some i =>
  have hi:i.size=sz:=by simpa[hq] using hs
  simp only[Nat.add_zero]at uW;simp[Builtin.copy_,run_underlying hu,Builtin.lenOf,Builtin.firstCells,sizeOf,typeInfo,hq,hi,←hn,hl,uW]
theorem oJ(w:World)(t ty e:TypeId)(sz g n c:Nat)(a:Addr)(m mc:Nat)(cur:Array Value)(news:List Value)(ht:P.underlying t=some (.slice e))(hs:(P.info? e).map (·.size)=some sz) (hg:w.heap[g]? = some (.cells cur e (0,0))) (hl:news.length=m*sz) (wS:∀(j:Nat) v,news[j]? = some v→w.cell? (a.add j)=some v) (h1:∀v∈news,v.oneCell'=true) (dQ:n+m≤c) (jf:c*sz≤cur.size) :
  (Builtin.append_ #[t,t] ty #[.slice (some ⟨g,0,none⟩) n c,.slice (some a) m mc]).run P w=.ok (.slice (some ⟨g,0,none⟩) (n+m) c) (w.setRow g (cur.toList.take (n*sz)++news++cur.toList.drop (n*sz+news.length)).toArray):=by
 have hle:n*sz+m*sz≤c*sz:=by rw[←Nat.add_mul];exact adA _ dQ
 have acn:=run_loadCells_list (P:=P) w a news wS;have uW:=run_storeCells_at P g (n*sz) e news 0 cur w hg (by omega) h1;simp only[Nat.add_zero]at uW;have ha:(⟨g,0,none⟩:Addr).add (n*sz)=⟨g,n*sz,none⟩:=by rw[cT,Nat.zero_add]
 cases hq:P.info? e with
 |none=>simp[hq]at hs
 |some i =>
  have hi:i.size=sz:=by simpa[hq] using hs
  simp[Builtin.append_,run_underlying ht,Builtin.lenOf,Builtin.firstCells,sizeOf,typeInfo,hq,hi,←hl,acn,dQ,ha,uW]
theorem rz(w:World)(t ty e:TypeId)(sz g o k c:Nat)(cur:Array Value)(i:TypeInfo)(z:Value)(ht:P.underlying t=some (.slice e))(hi:P.info? e=some i)(hz:i.zero=some z)(zy:z.cells.size=sz)(h1:∀v∈z.cells.toList,v.oneCell'=true) (hg:w.heap[g]? = some (.cells cur e (0,0))) (hk:0<k) (UO:o+k*sz≤cur.size) :
  (Builtin.clear_ #[t] ty #[.slice (some ⟨g,o,none⟩) k c]).run P w=.ok (.tuple #[]) (w.setRow g (cur.toList.take o++(Builtin.zeroCells z.cells k).toList++cur.toList.drop (o+(Builtin.zeroCells z.cells k).toList.length)).toArray):=by
 have hl:(Builtin.zeroCells z.cells k).toList.length=k*sz:=by simp[Builtin.zeroCells,zy]
 have Fw:∀v∈(Builtin.zeroCells z.cells k).toList,v.oneCell'=true:=fun v hv=>by
  simp only[Builtin.zeroCells,Array.toList_map,List.mem_map]at hv;obtain⟨q,hq,rfl⟩:=hv;have hq':q<k*z.cells.size:=by simpa using hq
  have hp:0<z.cells.size:=by
   rcases Nat.eq_zero_or_pos z.cells.size with h|h
   ·rw[h,Nat.mul_zero]at hq';omega
   ·exact h
  have aF:q%z.cells.size<z.cells.size:=aeW _ hp;rw[getElem!_pos z.cells _ aF];exact h1 _ (by simp)
 have uW:=run_storeCells_at P g o e (Builtin.zeroCells z.cells k).toList 0 cur w hg (by omega) Fw;simp only[Nat.add_zero]at uW;obtain⟨m,rfl⟩:∃m,k=m+1:=⟨k-1,by omega⟩;simp[Builtin.clear_,run_underlying ht,zeroValue,typeInfo,hi,hz,uW]
end Go.Vs
namespace Go.Vs
open Go.Proofs Go.RowKit
def Cw(P:Program)(f:FuncId)(e:TypeId)(size:Nat):Prop :=∀(w:World) (v u:Value) (n i:Nat) (xs ys:List Value),eI w e size v n xs→eI w e size u 1 ys→i≤n→n+1≤fk→(∀b,ob v=some b→ob u≠some b) →(∀q∈xs,q.oneCell'=true)→(∀q∈ys,q.oneCell'=true) → Calls P f #[v,.int .i64 i,u] w fun en w'=>∃v',en=.returned v'∧eI w' e size v' (n+1) (xs.take (i*size)++(ys++xs.drop (i*size)))∧w.grownBy w' (ob v)∧(ob v'=ob v∨∀b,ob v'=some b→w.heap.size≤b)
def Gf(P:Program)(f:FuncId)(e:TypeId)(sz:Nat):Prop:=∀(w:World) (v u:Value) (n:Nat) (xs ys:List Value) (hv:eI w e sz v n xs) (hu:eI w e sz u 1 ys) (hm:n+1≤fk) (h1:∀q∈ys,q.oneCell'=true),Calls P f #[v,.int .i64 n,u] w fun en w'=>∃v',en=.returned v'∧eI w' e sz v' (n+1) (xs++ys)∧w.grownBy w' (ob v)∧(ob v'=ob v∨∀b,ob v'=some b→w.heap.size≤b)
def vT(P:Program)(f:FuncId)(e:TypeId)(sz:Nat):Prop:=∀(w:World) (g c g2 c2 n i:Nat) (xs ys:List Value) (cur dr:Array Value) (hg:w.heap[g]? = some (.cells cur e (0,0))) (jf:cur.size=c*sz) (kg:cur.toList.take (n*sz)=xs) (vU:xs.length=n*sz) (uN:w.heap[g2]? = some (.cells dr e (0,0))) (mO:dr.size=c2*sz) (o4:0<c2) (kF:dr.toList.take (1*sz)=ys) (Dx:ys.length=1*sz) (bw:g2≠g) (hi:i<n) (dQ:n+1≤c) (hc:c≤maxLen) (h1:∀q∈xs,q.oneCell'=true) (h2:∀q∈ys,q.oneCell'=true),Calls P f #[.slice (some ⟨g,0,none⟩) n c,.int .i64 i,.slice (some ⟨g2,0,none⟩) 1 c2] w fun en w'=>en=.returned (.slice (some ⟨g,0,none⟩) (n+1) c) ∧ ∃jn:Array Value,w'.heap[g]? = some (.cells jn e (0,0))∧jn.size=cur.size∧jn.toList.take ((n+1)*sz)=xs.take (i*sz)++(ys++xs.drop (i*sz))∧w.grownBy w' (some g)
def Ao(P:Program)(f:FuncId)(e:TypeId)(sz:Nat):Prop:=∀(w:World) (g c g2 c2 n i:Nat) (xs ys:List Value) (cur dr:Array Value) (hg:w.heap[g]? = some (.cells cur e (0,0))) (jf:cur.size=c*sz) (kg:cur.toList.take (n*sz)=xs) (vU:xs.length=n*sz) (uN:w.heap[g2]? = some (.cells dr e (0,0))) (mO:dr.size=c2*sz) (o4:0<c2) (kF:dr.toList.take (1*sz)=ys) (Dx:ys.length=1*sz) (bw:g2≠g) (hi:i<n) (yx:n≤c) (dQ:c<n+1) (hm:n+1≤fk) (h1:∀q∈xs,q.oneCell'=true) (h2:∀q∈ys,q.oneCell'=true),Calls P f #[.slice (some ⟨g,0,none⟩) n c,.int .i64 i,.slice (some ⟨g2,0,none⟩) 1 c2] w fun en w'=>∃G,en=.returned (.slice (some ⟨w.heap.size,0,none⟩) (n+1) G) ∧ ∃jn:Array Value,w'.heap[w.heap.size]? = some (.cells jn e (0,0))∧jn.size=G*sz∧n+1≤G∧G≤maxLen∧jn.toList.take ((n+1)*sz)=xs.take (i*sz)++(ys++xs.drop (i*sz))∧w.grownBy w' (some g)
theorem Gg{w:World}{e sz:Nat}{u:Value}{ys:List Value}(hu:eI w e sz u 1 ys)(h1:∀q∈ys,q.oneCell'=true):UH w sz u 1 ys:=by
 refine⟨hu.1,h1,.inr ?_⟩;rcases hu.2 with⟨h0,_⟩|⟨g,cap,cur,rfl,_,hg,_,_,hc,kg⟩
 ·cases h0
 ·refine⟨_,_,rfl,fun j q hj=>?_⟩;rw[cT,Nat.zero_add];rw[←kg,List.getElem?_take]at hj
  split at hj
  ·simp[World.cell?,hg];simpa using hj
  ·cases hj
theorem Sk{α:Type}{cur xs ys cur1 cur3:List α}{i n sz:Nat}(kg:cur.take (n*sz)=xs)(hl:(n+1)*sz≤cur.length)(hy:ys.length=sz)(hi:i≤n) (h1:cur1=cur.take ((i+1)*sz)++xs.drop (i*sz)++cur.drop ((i+1)*sz+(xs.drop (i*sz)).length)) (h3:cur3=cur1.take (i*sz)++ys++cur1.drop (i*sz+ys.length)) :
  cur3.take ((n+1)*sz)=xs.take (i*sz)++(ys++xs.drop (i*sz)):=by
 have mJ:i*sz≤n*sz:=adA _ hi;rw[Nat.add_mul,Nat.one_mul]at hl h1 ⊢;have vU:xs.length=n*sz:=by rw[←kg,List.length_take];omega
 generalize i*sz=a at *;generalize n*sz=b at *;have e1:cur1.take a=xs.take a:=by rw[h1,List.append_assoc,List.take_append_of_le_length (by rw[List.length_take];omega),List.take_take,←kg,List.take_take];congr 1;omega
 have e2:cur1.drop (a+ys.length)=xs.drop a++cur.drop (a+1*sz+(xs.drop a).length):=by rw[h1,List.append_assoc,Nat.one_mul,hy];exact List.drop_left' (by rw[List.length_take];omega)
 rw[h3,e1,e2,←List.append_assoc,←List.append_assoc];rw[List.take_left' (by simp only[List.length_append,List.length_take,List.length_drop];omega)]
theorem uo{w:World}{e size:Nat}{g n:Nat}{cur:Array Value}{xs:List Value}(hg:w.heap[g]? = some (.cells cur e (0,0)))(kg:cur.toList.take (n*size)=xs)(o:Nat):∀(j:Nat) q,(xs.drop o)[j]? = some q→w.cell? ((⟨g,o,none⟩:Addr).add j)=some q:=fun j q hj=>by
 rw[cT];rw[List.getElem?_drop,←kg,List.getElem?_take]at hj
 split at hj
 ·simp[World.cell?,hg];simpa using hj
 ·cases hj
theorem uq{P:Program}{t e sz:Nat}(ht:P.underlying t=some (.slice e))(hz:(P.info? e).map (·.size)=some sz)(w:World)(g c g2 c2 n i:Nat)(xs ys:List Value)(cur dr:Array Value)(hg:w.heap[g]? = some (.cells cur e (0,0)))(jf:cur.size=c*sz)(kg:cur.toList.take (n*sz)=xs)(vU:xs.length=n*sz)(uN:w.heap[g2]? = some (.cells dr e (0,0)))(mO:dr.size=c2*sz)(o4:0<c2)(kF:dr.toList.take (1*sz)=ys)(Dx:ys.length=1*sz)(bw:g2≠g)(hi:i<n)(dQ:n+1≤c)(hc:c≤maxLen)(h1:∀q∈xs,q.oneCell'=true)(h2:∀q∈ys,q.oneCell'=true) :
  ∃cur1 cur3:Array Value,(∀(W:World),W.heap=w.heap→∀ty dc sc,(Builtin.copy_ #[t,t] ty #[.slice (some ⟨g,(i+1)*sz,none⟩) (n-i) dc,.slice (some ⟨g,i*sz,none⟩) (n+1-i) sc]).run P W=.ok (goInt (n-i:Nat)) (W.setRow g cur1))∧(∀ty dc sc,(Builtin.copy_ #[t,t] ty #[.slice (some ⟨g,i*sz,none⟩) (n+1-i) dc,.slice (some ⟨g2,0,none⟩) 1 sc]).run P (w.drew.setRow g cur1)=.ok (goInt 1) ((w.drew.setRow g cur1).setRow g cur3))∧cur3.size=cur.size∧cur3.toList.take ((n+1)*sz)=xs.take (i*sz)++(ys++xs.drop (i*sz)):=by
 have NF:=uo (size:=sz) (n:=1) uN kF 0;have yy:=uo (size:=sz) (n:=n) hg kg (i*sz);have h63:c≤9223372036854775807:=by unfold maxLen at hc;omega
 have m6:(n+1)*sz≤c*sz:=adA _ dQ;have m1:(n+1)*sz=n*sz+sz:=ae2 ..;have m2:(i+1)*sz=i*sz+sz:=ae2 ..;have m3:(n-i)*sz=n*sz-i*sz:=Nat.sub_mul ..;have m4:(i+1)*sz≤n*sz:=adA _ hi;have m5:1*sz=sz:=Nat.one_mul _;have hn5:n*sz≤cur.size:=by omega
 obtain⟨cur1,mr⟩:∃cur1:Array Value,cur1=(cur.toList.take ((i+1)*sz)++xs.drop (i*sz)++cur.toList.drop ((i+1)*sz+(xs.drop (i*sz)).length)).toArray:=⟨_,rfl⟩;have PL:(xs.drop (i*sz)).length=(n-i)*sz:=by rw[List.length_drop,vU];omega
 have KX:∀(W:World),W.heap=w.heap→∀ty dc sc,(Builtin.copy_ #[t,t] ty #[.slice (some ⟨g,(i+1)*sz,none⟩) (n-i) dc,.slice (some ⟨g,i*sz,none⟩) (n+1-i) sc]).run P W=.ok (goInt (n-i:Nat)) (W.setRow g cur1):=fun W hW ty dc sc=>by have:=kf (P:=P) W t t ty e sz g ((i+1)*sz) (n-i) dc ⟨g,i*sz,none⟩ (n+1-i) sc cur e (xs.drop (i*sz)) ht hz (by rw[hW];exact hg) (by rw[PL];simp only[Nat.min_def];split<;>omega) (fun j v hj=>by have:=yy j v hj;simpa only[World.cell?,hW] using this) (by omega) (fun q hq=>h1 q (aeT hq));rw[this,mr];congr 2;simp only[Nat.min_def];split<;>omega
 have HV:cur1.size=cur.size:=by rw[mr];simp;omega
 obtain⟨cur3,Sn⟩:∃cur3:Array Value,cur3=(cur1.toList.take (i*sz)++ys++cur1.toList.drop (i*sz+ys.length)).toArray:=⟨_,rfl⟩;have ahq:∀(W:World),W.heap[g]? = some (.cells cur1 e (0,0))→W.heap[g2]? = w.heap[g2]?→∀ty dc sc,(Builtin.copy_ #[t,t] ty #[.slice (some ⟨g,i*sz,none⟩) (n+1-i) dc,.slice (some ⟨g2,0,none⟩) 1 sc]).run P W=.ok (goInt 1) (W.setRow g cur3):=fun W hW hW2 ty dc sc=>by have:=kf (P:=P) W t t ty e sz g (i*sz) (n+1-i) dc ⟨g2,0,none⟩ 1 sc cur1 e ys ht hz hW (by rw[Dx];simp only[Nat.min_def];split<;>omega) (fun j v hj=>by have:=NF j v (by simpa using hj);simpa only[World.cell?,fq,hW2] using this) (by omega) h2;rw[this,Sn];congr 2;simp only[Nat.min_def];split<;>omega
 have Ou:cur3.size=cur.size:=by rw[Sn];simp;omega
 have il:cur3.toList.take ((n+1)*sz)=xs.take (i*sz)++(ys++xs.drop (i*sz)):=Sk (sz:=sz) (cur1:=cur1.toList) (cur3:=cur3.toList) kg (by simp;omega) (by rw[Dx,m5]) (Nat.le_of_lt hi) (by rw[mr]) (by rw[Sn]);exact⟨cur1,cur3,KX,ahq (w.drew.setRow g cur1) (setRow_heap w.drew g cur _ e _ hg) (_root_.Go.setRow_other w.drew g g2 _ bw),Ou,il⟩
theorem uu{n i c:Nat}(hi:i<n)(dQ:n+1≤c)(hc:c≤maxLen):(IntKind.i64.wrap ((i:Int)+1)=(i:Int)+1)∧(IntKind.i64.wrap ((n:Int)+1)=(n:Int)+1)∧((0:Int)≤(i:Int)+1)∧(i≤n)∧(((i:Int)+1).toNat=i+1)∧(¬(c=i+1))∧((i:Int)≤(n:Int)+1)∧(¬(c=i))∧(¬((i:Int)=(n:Int)))∧(¬((c:Int)<(n:Int)+1)):=by unfold maxLen at hc;exact⟨by rw[IntKind.wrap_i64];omega,by rw[IntKind.wrap_i64];omega,by omega,by omega,by omega,by omega,by omega,by omega,by omega,by omega⟩
theorem Ov{α:Type}{row xs ys row2 row3:List α}{i n sz:Nat}(hA:row.take (i*sz)=xs.take (i*sz))(hl:(n+1)*sz≤row.length)(vU:xs.length=n*sz)(hy:ys.length=sz)(hi:i≤n) (h2:row2=row.take (i*sz)++ys++row.drop (i*sz+ys.length)) (h3:row3=row2.take ((i+1)*sz)++xs.drop (i*sz)++row2.drop ((i+1)*sz+(xs.drop (i*sz)).length)) :
  row3.take ((n+1)*sz)=xs.take (i*sz)++(ys++xs.drop (i*sz)):=by
 have mJ:i*sz≤n*sz:=adA _ hi;rw[Nat.add_mul,Nat.one_mul]at hl h3 ⊢;generalize i*sz=a at *;generalize n*sz=b at *;have e1:row2.take (a+1*sz)=xs.take a++ys:=by rw[h2,hA,Nat.one_mul];exact List.take_left' (by simp only[List.length_append,List.length_take];omega)
 rw[Nat.one_mul]at e1;rw[h3,e1];rw[List.take_left' (by simp only[List.length_append,List.length_take,List.length_drop];omega)];rw[List.append_assoc]
theorem xF{P:Program}{t e sz:Nat}{k:K}{i0:TypeInfo}{z0:Value}(hk:k.sz=sz)(h0:0<sz)(ht:P.underlying t=some (.slice e))(Us:P.underlying 3=some (.int .i64))(he:nJ P e k i0 z0)(w:World)(g c g2 c2 n i:Nat)(xs ys:List Value)(cur dr:Array Value)(hg:w.heap[g]? = some (.cells cur e (0,0)))(jf:cur.size=c*sz)(kg:cur.toList.take (n*sz)=xs)(vU:xs.length=n*sz)(uN:w.heap[g2]? = some (.cells dr e (0,0)))(mO:dr.size=c2*sz)(o4:0<c2)(kF:dr.toList.take (1*sz)=ys)(Dx:ys.length=1*sz)(bw:g2≠g)(hi:i<n)(yx:n≤c)(dQ:c<n+1)(hm:n+1≤fk)(h1:∀q∈xs,q.oneCell'=true)(h2:∀q∈ys,q.oneCell'=true) :
  ∃(G:Nat) (nP row2 row3:Array Value) (W1:World),(∀ty,(Builtin.append_ #[t,3] ty #[.slice (some ⟨g,0,none⟩) i c,.int .i64 ((n:Int)+1-(i:Int))]).run P w=.ok (.slice (some ⟨w.heap.size,0,none⟩) (n+1) G) W1)∧W1.heap[w.heap.size]? = some (.cells nP e (0,0))∧(∀b,b<w.heap.size→W1.heap[b]? = w.heap[b]?)∧w.grownBy W1 none∧(∀(W:World),W.heap=W1.heap→∀ty dc sc,(Builtin.copy_ #[t,t] ty #[.slice (some ⟨w.heap.size,i*sz,none⟩) (n+1-i) dc,.slice (some ⟨g2,0,none⟩) 1 sc]).run P W=.ok (goInt 1) (W.setRow w.heap.size row2))∧(∀(W:World),W.heap=(W1.setRow w.heap.size row2).heap→∀ty dc sc,(Builtin.copy_ #[t,t] ty #[.slice (some ⟨w.heap.size,(i+1)*sz,none⟩) (n-i) dc,.slice (some ⟨g,i*sz,none⟩) (n-i) sc]).run P W=.ok (goInt (n-i:Nat)) (W.setRow w.heap.size row3))∧row3.size=G*sz∧n+1≤G∧G≤9223372036854775807∧row3.toList.take ((n+1)*sz)=xs.take (i*sz)++(ys++xs.drop (i*sz)):=by
 have EG:z0.cells.size=sz:=he.uX.trans hk;have zy:i0.size=sz:=he.size.trans hk;have hz:(P.info? e).map (·.size)=some sz:=by rw[he.info];exact congrArg some zy
 have Gh:=he.bytes;have NF:=uo (size:=sz) (n:=1) uN kF 0;have yy:=uo (size:=sz) (n:=n) hg kg (i*sz);have ahr:=uo (size:=sz) (n:=n) hg kg 0;have hgl:g<w.heap.size:=(aa3.1 hg).1;have ahs:g2<w.heap.size:=(aa3.1 uN).1;unfold fk at hm;have m1:(n+1)*sz=n*sz+sz:=ae2 ..;have m2:(i+1)*sz=i*sz+sz:=ae2 ..;have m3:(n-i)*sz=n*sz-i*sz:=Nat.sub_mul ..;have m4:(i+1)*sz≤n*sz:=adA _ hi;have m5:1*sz=sz:=Nat.one_mul _;have m6:(n+1-i)*sz=n*sz+sz-i*sz:=by rw[Nat.sub_mul,m1]
 have lR:(n+1)*i0.bytes≤140737488355328:=adC (ae4 hm Gh) (by decide);have hold:(Builtin.firstCells i0.size i (.slice (some ⟨g,0,none⟩) i c)).run P w.drew=.ok (xs.take (i*sz)).toArray w.drew:=by
  rw[zy];exact run_firstCells_some w.drew sz i ⟨g,0,none⟩ i c (xs.take (i*sz)) (by rw[List.length_take];omega) (fun j v hj=>by
   rw[List.getElem?_take]at hj
   split at hj
   ·exact ahr j v hj
   ·cases hj)
 obtain⟨G,hG⟩:∃G,G=grownCap w (n+1) c e:=⟨_,rfl⟩;obtain⟨nP,Cx⟩:∃nP:Array Value,nP=(xs.take (i*sz)).toArray++Builtin.zeroCells z0.cells (n+1-i)++Builtin.zeroCells z0.cells (G-(n+1)):=⟨_,rfl⟩;have hik:i+(n+1-i)=n+1:=by omega
 have PM:∀ty,(Builtin.append_ #[t,3] ty #[.slice (some ⟨g,0,none⟩) i c,.int .i64 ((n:Int)+1-(i:Int))]).run P w=.ok (.slice (some ⟨w.heap.size,0,none⟩) (n+1) G) (w.drew.alloc (.cells nP e)):=fun ty=>by have h:=Lib.run_append_grow_zeros w t 3 ty e i0 z0 .i64 .i64 ht Us he.info he.zero (some ⟨g,0,none⟩) i c (xs.take (i*sz)) hold (n+1-i) (by omega) (by omega) (by omega) (by omega) (adC (adA _ (show n+1-i≤n+1 by omega)) (by omega)) (by rw[hik];exact growslice_fits dQ lR);rw[hik]at h;rw[show(n:Int)+1-(i:Int)=((n+1-i:Nat):Int) by omega,Cx,hG];exact h
 have MH:n+1≤G:=by rw[hG];exact grownCap_ge w _ _ _
 have m7:(G-(n+1))*sz=G*sz-(n*sz+sz):=by rw[Nat.sub_mul,m1]
 have m8:(n+1)*sz≤G*sz:=adA _ MH;have Cz:G≤9223372036854775807:=by have:=grownCap_le_maxLen w (n+1) c e (by unfold maxLen;omega);rw[←hG]at this;unfold maxLen at this;omega
 have hRs:nP.size=G*sz:=by rw[Cx];simp[Builtin.zeroCells,EG,List.length_take,vU];rw[Nat.min_eq_left (by omega)];omega
 have hRt:nP.toList.take (i*sz)=xs.take (i*sz):=by rw[Cx];simp only[Array.toList_append,List.append_assoc];exact List.take_left' (by rw[List.length_take];omega)
 obtain⟨W1,ux⟩:∃W1,W1=w.drew.alloc (.cells nP e):=⟨_,rfl⟩;have sZ:W1.heap[w.heap.size]? = some (.cells nP e (0,0)):=by rw[ux];exact(MapKept.heap_alloc w.drew (.cells nP e)).1
 have vV:∀b,b<w.heap.size→W1.heap[b]? = w.heap[b]? := fun b hb=>by rw[ux];exact(Below.heap_alloc w.drew (.cells nP e) b hb).trans rfl
 have oK:w.grownBy W1 none:=⟨by rw[ux];rfl,by rw[ux];rfl,by rw[ux];rfl,by have:=(aa3.1 sZ).1;omega,fun k hk _=>vV k hk⟩;obtain⟨row2,So⟩:∃row2:Array Value,row2=(nP.toList.take (i*sz)++ys++nP.toList.drop (i*sz+ys.length)).toArray:=⟨_,rfl⟩;have PI:row2.size=nP.size:=by rw[So];simp;omega
 have KY:∀(W:World),W.heap=W1.heap→∀ty dc sc,(Builtin.copy_ #[t,t] ty #[.slice (some ⟨w.heap.size,i*sz,none⟩) (n+1-i) dc,.slice (some ⟨g2,0,none⟩) 1 sc]).run P W=.ok (goInt 1) (W.setRow w.heap.size row2):=fun W hW ty dc sc=>by have:=kf (P:=P) W t t ty e sz w.heap.size (i*sz) (n+1-i) dc ⟨g2,0,none⟩ 1 sc nP e ys ht hz (by rw[hW];exact sZ) (by rw[Dx];simp only[Nat.min_def];split<;>omega) (fun j v hj=>by have:=NF j v (by simpa using hj);simpa only[World.cell?,fq,hW,vV g2 ahs] using this) (by omega) h2;rw[this,So];congr 2;simp only[Nat.min_def];split<;>omega
 obtain⟨row3,Sp⟩:∃row3:Array Value,row3=(row2.toList.take ((i+1)*sz)++xs.drop (i*sz)++row2.toList.drop ((i+1)*sz+(xs.drop (i*sz)).length)).toArray:=⟨_,rfl⟩;have PL:(xs.drop (i*sz)).length=(n-i)*sz:=by rw[List.length_drop,vU];omega
 have Ou:row3.size=nP.size:=by rw[Sp];simp;omega
 have KZ:∀(W:World),W.heap=(W1.setRow w.heap.size row2).heap→∀ty dc sc,(Builtin.copy_ #[t,t] ty #[.slice (some ⟨w.heap.size,(i+1)*sz,none⟩) (n-i) dc,.slice (some ⟨g,i*sz,none⟩) (n-i) sc]).run P W=.ok (goInt (n-i:Nat)) (W.setRow w.heap.size row3):=fun W hW ty dc sc=>by have:=kf (P:=P) W t t ty e sz w.heap.size ((i+1)*sz) (n-i) dc ⟨g,i*sz,none⟩ (n-i) sc row2 e (xs.drop (i*sz)) ht hz (by rw[hW];exact setRow_heap W1 w.heap.size nP _ e _ sZ) (by rw[PL];simp only[Nat.min_def];split<;>omega) (fun j v hj=>by have:=yy j v hj;simpa only[World.cell?,fq,hW,_root_.Go.setRow_other W1 w.heap.size g _ (Nat.ne_of_lt hgl),vV g hgl] using this) (by omega) (fun q hq=>h1 q (aeT hq));rw[this,Sp];congr 2;simp only[Nat.min_def];split<;>omega
 have il:row3.toList.take ((n+1)*sz)=xs.take (i*sz)++(ys++xs.drop (i*sz)):=Ov (sz:=sz) (row:=nP.toList) (row2:=row2.toList) (row3:=row3.toList) hRt (by simp;omega) vU (by rw[Dx,m5]) (by omega) (by rw[So]) (by rw[Sp]);rw[←ux]at PM;exact⟨G,nP,row2,row3,W1,PM,sZ,vV,oK,KY,KZ,by omega,MH,Cz,il⟩
theorem xG{n i c G:Nat}(hi:i<n)(yx:n≤c)(dQ:c<n+1)(hm:n+1≤fk)(MH:n+1≤G):(IntKind.i64.wrap ((i:Int)+1)=(i:Int)+1)∧(IntKind.i64.wrap ((n:Int)+1)=(n:Int)+1)∧(IntKind.i64.wrap ((n:Int)+1-(i:Int))=(n:Int)+1-(i:Int))∧((0:Int)≤(i:Int)+1)∧(i≤n)∧(((i:Int)+1).toNat=i+1)∧(¬(G=i))∧(¬(G=i+1))∧(¬(c=i))∧((i:Int)≤(n:Int))∧(¬((i:Int)=(n:Int)))∧((c:Int)<(n:Int)+1):=by unfold fk at hm;exact⟨by rw[IntKind.wrap_i64];omega,by rw[IntKind.wrap_i64];omega,by rw[IntKind.wrap_i64];omega,by omega,by omega,by omega,by omega,by omega,by omega,by omega,by omega,by omega⟩
theorem K0{P:Program}{f:FuncId}{e:TypeId}{sz:Nat}(hE:Gf P f e sz)(hS:vT P f e sz)(hG:Ao P f e sz):Cw P f e sz:=fun w v u n i xs ys hv hu hi hm Vh h1 h2=>by
 by_cases he:i=n
 ·subst he;refine(hE w v u i xs ys hv hu hm h2).mono fun en w' ⟨v',e1,e2,e3,e4⟩=>⟨v',e1,?_,e3,e4⟩;have hl:=hv.1;rw[List.take_of_length_le (by omega),List.drop_eq_nil_of_le (by omega),List.append_nil];exact e2
 ·have qB:i<n:=by omega
  have m1:(n+1)*sz=n*sz+sz:=ae2 ..;have m4:i*sz≤n*sz:=adA _ hi;have m5:1*sz=sz:=Nat.one_mul _;rcases hv.2 with⟨h0,_⟩|⟨g,c,cur,rfl,Xg,hg,yx,Ow,jf,kg⟩
  ·omega
  rcases hu.2 with⟨h0,_⟩|⟨g2,c2,dr,rfl,acp,uN,_,_,mO,kF⟩
  ·omega
  have mH:ob (.slice (some ⟨g,0,none⟩) n c)=some g:=by simp only[ob];rw[if_neg (by omega)]
  have aht:ob (.slice (some ⟨g2,0,none⟩) 1 c2)=some g2:=by simp only[ob];rw[if_neg (by omega)]
  have bw:g2≠g:=fun e=>Vh g mH (by rw[aht,e]);by_cases dQ:n+1≤c
  ·refine(hS w g c g2 c2 n i xs ys cur dr hg jf kg hv.1 uN mO acp kF hu.1 bw qB dQ Ow h1 h2).mono fun en w' ⟨e1,jn,e2,e3,e4,e5⟩=>?_;refine⟨_,e1,⟨?_,.inr ⟨g,c,jn,rfl,Xg,e2,dQ,Ow,by rw[e3,jf],e4⟩⟩,by rw[mH];exact e5,.inl ?_⟩
   ·have hl:=hv.1;have wF:=hu.1;simp only[List.length_append,List.length_take,List.length_drop];omega
   ·rw[mH];simp only[ob];rw[if_neg (by omega)]
  ·refine(hG w g c g2 c2 n i xs ys cur dr hg jf kg hv.1 uN mO acp kF hu.1 bw qB yx (by omega) hm h1 h2).mono fun en w' ⟨G,e1,jn,e2,e3,e4,e5,e6,e7⟩=>?_;refine⟨_,e1,⟨?_,.inr ⟨w.heap.size,G,jn,rfl,by omega,e2,e4,e5,e3,e6⟩⟩,by rw[mH];exact e7,.inr fun b hb=>?_⟩
   ·have hl:=hv.1;have wF:=hu.1;simp only[List.length_append,List.length_take,List.length_drop];omega
   ·simp only[ob]at hb;rw[if_neg (by omega)]at hb;cases hb;omega
set_option maxHeartbeats 4000000 in
set_option maxRecDepth 100000 in
theorem K1:Gf Tryz.prog 176 52 5:=fun w v u n xs ys hv hu hm h1=>by
 have ht:Tryz.prog.underlying 38=some (.slice 52):=by kernel_rfl
 obtain⟨i0,z0,he⟩:=cw (P:=Tryz.prog) (e:=52) (k:=.pair (.pair (.int .i64) (.int .i64)) (.pair (.sl (.pair (.pair (.int .i64) (.int .i64)) (.int .i64))) (.pair .str (.int .i64)))) (by kernel_rfl);have wS:=Gg hu h1;obtain⟨v',w',dB,h4,h5,h6⟩:=dO (P:=Tryz.prog) (ty:=38) ht he hv wS hm;obtain⟨A,c,rfl⟩:=hv.slice;have yx:n≤c:=by
  rcases hv.2 with⟨h0,A,e⟩|⟨g,cap,cur,e,hc,h2,h3,_⟩
  ·omega
  ·cases e;exact h3
 obtain⟨B,cu,rfl⟩:=hu.slice;have acq:n≤1073741824:=by unfold fk at hm;omega
 go_enter Tryz.func176,Tryz.ntmps176
 go_wp2_with (at_builtin;refine Lib.wpList_append_run _ rfl _ _ _ _ rfl _ _ rfl rfl _ _ dB ?_)
 all_goals go_ret
 all_goals first|exact⟨_,rfl,h4,h5,h6⟩|(subst_vars;exact⟨_,rfl,h4,h5,h6⟩)
set_option maxHeartbeats 4000000 in
set_option maxRecDepth 100000 in
theorem Gi:vT Tryz.prog 176 52 5:=fun w g c g2 c2 n i xs ys cur dr hg jf kg vU uN mO o4 kF Dx bw hi dQ hc h1 h2=>by
 have ht:Tryz.prog.underlying 38=some (.slice 52):=by kernel_rfl
 have hz:(Tryz.prog.info? 52).map (·.size)=some 5:=by kernel_rfl
 have zy:∀w,(Go.sizeOf 52).run Tryz.prog w=.ok 5 w:=fun w=>by
  cases hq:Tryz.prog.info? 52 with
  |none=>rw[hq]at hz;cases hz
  |some i=>rw[hq]at hz;simp at hz;simp[sizeOf,typeInfo,hq,hz]
 have Ut:∀a2 lb cb,(callFunc 209 #[.slice (some ⟨g2,0,none⟩) 1 c2,.slice (some ⟨g,a2,none⟩) lb cb]).run Tryz.prog w=.ok (.value (.bool false)) w:=fun a2 lb cb=>by rw[run_callFunc_extern Tryz.func209 (by kernel_rfl) (by kernel_rfl) (by kernel_rfl) (e:=Extern.SlicesOverlaps.overlaps #[38,38] #[4]) (by kernel_rfl),Lib.run_overlaps_apart w 38 4 52 ht 5 zy ⟨g2,0,none⟩ ⟨g,a2,none⟩ 1 c2 lb cb bw 52 52 dr.size cur.size (by simp[World.shape?,uN]) (by simp[World.shape?,hg]) (by omega) (by simp[World.frozen?,uN]) (by simp[World.frozen?,uN])];rfl
 obtain⟨cur1,cur3,KX,IK,Ou,il⟩:=uq ht hz w g c g2 c2 n i xs ys cur dr hg jf kg vU uN mO o4 kF Dx bw hi dQ hc h1 h2;have h63:c≤9223372036854775807:=by unfold maxLen at hc;omega
 obtain⟨KH,Vi,Ox,qB,Us,zZ,Xh,hb4,Dt,JX⟩:=uu hi dQ hc;clear kg kF;have mixed:Tryz.prog.follows .mixedOrders=true:=by kernel_rfl
 go_enter Tryz.func176,Tryz.ntmps176
 go_wp2_with (simp only[Ut])
 go_region_law (go_loud (refine step_copy_runI rfl _ _ 38 38 rfl (.slice (some ⟨g,(i+1)*5,none⟩) (n-i) (c-(i+1))) (.slice (some ⟨g,i*5,none⟩) (n+1-i) (c-i)) (by simp[Act.eval,Act.put]) (by simp[Act.eval,Act.put]) (KX w.drew rfl 3 (c-(i+1)) (c-i)) ?_))
 go_wp2_with (simp only[IK])
 go_ret
 refine⟨rfl,cur3,setRow_heap _ g cur1 _ 52 _ (setRow_heap w.drew g cur _ 52 _ hg),Ou,il,⟨rfl,rfl,rfl,by simp[World.setRow],fun k hk Oy=>?_⟩⟩;have wG:k≠g:=fun e=>Oy (by rw[e]);rw[_root_.Go.setRow_other _ g k _ wG,_root_.Go.setRow_other _ g k _ wG];rfl
set_option maxHeartbeats 4000000 in
set_option maxRecDepth 100000 in
theorem IL:Ao Tryz.prog 176 52 5:=fun w g c g2 c2 n i xs ys cur dr hg jf kg vU uN mO o4 kF Dx bw hi yx dQ hm h1 h2=>by
 have ht:Tryz.prog.underlying 38=some (.slice 52):=by kernel_rfl
 obtain⟨i0,z0,he⟩:=cw (P:=Tryz.prog) (e:=52) (k:=.pair (.pair (.int .i64) (.int .i64)) (.pair (.sl (.pair (.pair (.int .i64) (.int .i64)) (.int .i64))) (.pair .str (.int .i64)))) (by kernel_rfl);obtain⟨G,nP,row2,row3,W1,PM,sZ,vV,oK,KY,KZ,Ou,MH,Cz,il⟩:=xF (sz:=5) rfl (by decide) ht (by kernel_rfl) he w g c g2 c2 n i xs ys cur dr hg jf kg vU uN mO o4 kF Dx bw hi yx dQ hm h1 h2;obtain⟨KH,Vi,hw3,Ox,qB,acs,hGi,acu,hci,Xh,Dt,JX⟩:=xG hi yx dQ hm MH;unfold fk at hm;clear kg kF;have mixed:Tryz.prog.follows .mixedOrders=true:=by kernel_rfl
 go_enter Tryz.func176,Tryz.ntmps176
 go_wp2_with (first
  |(at_builtin;refine Lib.wpList_append_run _ rfl _ _ _ _ rfl _ _ rfl rfl _ _ (PM _) ?_)
  |(at_builtin;refine wpList_copy_runI _ rfl _ _ 38 38 rfl _ _ rfl rfl (KY _ (by rfl) _ _ _) ?_))
 go_region_law (go_loud (refine step_copy_runI rfl _ _ 38 38 rfl (.slice (some ⟨w.heap.size,(i+1)*5,none⟩) (n-i) (G-(i+1))) (.slice (some ⟨g,i*5,none⟩) (n-i) (c-i)) (by simp[Act.eval,Act.put]) (by simp[Act.eval,Act.put]) (KZ (W1.setRow w.heap.size row2).drew rfl 3 (G-(i+1)) (c-i)) ?_))
 go_wp2
 go_ret
 refine⟨G,rfl,row3,setRow_heap _ w.heap.size row2 _ 52 _ (setRow_heap W1 w.heap.size nP _ 52 _ sZ),by omega,MH,Cz,il,⟨oK.os,oK.tape,oK.output,by have:=oK.size;simpa[World.setRow] using this,fun k hk _=>?_⟩⟩;rw[_root_.Go.setRow_other _ w.heap.size k _ (Nat.ne_of_lt hk)];exact(_root_.Go.setRow_other W1 w.heap.size k _ (Nat.ne_of_lt hk)).trans (vV k hk)
theorem Yv:Cw Tryz.prog 176 52 5:=K0 K1 Gi IL
def K2(P:Program)(f:FuncId)(e:TypeId)(size:Nat):Prop :=∀(w:World) (v:Value) (n i j:Nat) (xs:List Value),eI w e size v n xs→i<j→j≤n→n≤fk→(∀q∈xs,q.oneCell'=true) → Calls P f #[v,.int .i64 i,.int .i64 j] w fun en w'=>∃v',en=.returned v'∧eI w' e size v' (i+(n-j)) (xs.take (i*size)++xs.drop (j*size))∧w.grownBy w' (ob v)∧ob v'=ob v
theorem iw{P:Program}{ops:Array Oper}{o:Oper}{a:Act}{w:World}{K:Act→World→Prop}{Q:Exit→Act→World→Prop}{E:Prop} (hg:o.guard=none) (d x:Operand) (dT sT:TypeId) (FK:o.op=Op.call { callee:=Callee.builtin Builtin.append,args:=#[d,x],argTypes:=#[dT,sT] }) (v u:Value) (hd:a.eval d=v) (hx:a.eval x=u) {v':Value} {w':World} (hr:(Builtin.append_ #[dT,sT] o.type #[v,u]).run P w=.ok v' w') (hK:K (a.put o.dst v') w') :
  if Region.wanted o (yielded ops a.tmps)=true then Oper.wp P o a w K Q else E:=by
 have hw:Region.wanted o (yielded ops a.tmps)=true:=by simp[Region.wanted,hg]
 rw[if_pos hw];unfold Oper.wp;simp[execOp,FK,resolve,invoke,builtin,hd,hx,hr,Result.andThen];exact hK
theorem IM{α:Type}{cur xs cur1 dr zs:List α}{i j n sz:Nat}(kg:cur.take (n*sz)=xs)(hl:n*sz≤cur.length)(zY:i≤j)(PA:j≤n) (h1:cur1=cur.take (i*sz)++xs.drop (j*sz)++cur.drop (i*sz+(xs.drop (j*sz)).length)) (h2:dr=cur1.take ((i+(n-j))*sz)++zs++cur1.drop ((i+(n-j))*sz+zs.length)) :
  dr.take ((i+(n-j))*sz)=xs.take (i*sz)++xs.drop (j*sz):=by
 have ha:i*sz≤j*sz:=adA _ zY;have hb:j*sz≤n*sz:=adA _ PA;rw[Nat.add_mul,Nat.sub_mul]at h2 ⊢;have vU:xs.length=n*sz:=by rw[←kg,List.length_take];omega
 generalize i*sz=a at *;generalize j*sz=b at *;generalize n*sz=c at *;have e0:cur.take a=xs.take a:=by rw[←kg,List.take_take];congr 1;omega
 have e1:cur1.take (a+(c-b))=xs.take a++xs.drop b:=by rw[h1,e0];exact List.take_left' (by simp only[List.length_append,List.length_take,List.length_drop];omega)
 rw[h2,e1,List.append_assoc];exact List.take_left' (by simp only[List.length_append,List.length_take,List.length_drop];omega)
set_option maxHeartbeats 4000000 in
set_option maxRecDepth 100000 in
theorem IN(w:World)(g c n i j X:Nat)(xs:List Value)(cur:Array Value)(hg:w.heap[g]? = some (.cells cur 52 (0,0)))(jf:cur.size=c*5)(kg:cur.toList.take (n*5)=xs)(vU:xs.length=n*5) (zY:i<j) (PA:j≤n) (yx:n≤c) (hc:c≤maxLen) (hX:if c=j then X=0 else X=j*5)
  (h1:∀q∈xs,q.oneCell'=true) :
  Calls Tryz.prog 177 #[.slice (some ⟨g,0,none⟩) n c,.int .i64 i,.int .i64 j] w fun en w'=>en=.returned (.slice (some ⟨g,0,none⟩) (i+(n-j)) c) ∧ ∃jn:Array Value,w'.heap[g]? = some (.cells jn 52 (0,0))∧jn.size=cur.size∧jn.toList.take ((i+(n-j))*5)=xs.take (i*5)++xs.drop (j*5)∧w.grownBy w' (some g):=by
 have ht:Tryz.prog.underlying 38=some (.slice 52):=by kernel_rfl
 have hz:(Tryz.prog.info? 52).map (·.size)=some 5:=by kernel_rfl
 obtain⟨zs,zy⟩:∃zs,AG Tryz.prog 52=some zs:=adf.1 (by kernel_rfl);obtain⟨i0,z0,Vj,UJ,rfl,yC⟩:=po zy;obtain⟨i1,z1,he⟩:=cw (P:=Tryz.prog) (e:=52) (k:=.pair (.pair (.int .i64) (.int .i64)) (.pair (.sl (.pair (.pair (.int .i64) (.int .i64)) (.int .i64))) (.pair .str (.int .i64)))) (by kernel_rfl);have ei:i1=i0:=by have:=he.info;rw[Vj]at this;cases this;rfl
 subst ei;have ez:z1=z0:=by have:=he.zero;rw[UJ]at this;cases this;rfl
 subst ez;have EG:z1.cells.size=5:=he.uX;clear he zy;have PL:(xs.drop (j*5)).length=(n-j)*5:=by rw[List.length_drop,vU];omega
 obtain⟨cur1,mr⟩:∃cur1:Array Value,cur1=(cur.toList.take (i*5)++xs.drop (j*5)++cur.toList.drop (i*5+(xs.drop (j*5)).length)).toArray:=⟨_,rfl⟩;have HV:cur1.size=cur.size:=by rw[mr];simp;omega
 have Vh:∀ty sc,(Builtin.append_ #[38,38] ty #[.slice (some ⟨g,0,none⟩) i c,.slice (some ⟨g,X,none⟩) (n-j) sc]).run Tryz.prog w.drew=.ok (.slice (some ⟨g,0,none⟩) (i+(n-j)) c) (w.drew.setRow g cur1):=fun ty sc=>by
  by_cases Oz:c=j
  ·have hnj:n=j:=by omega
   have:n-j=0:=by omega
   rw[this]at PL ⊢;have Hl:xs.drop (j*5)=[]:=adn (by omega);rw[fz ht Vj _ _ _ (by omega) _ _,mr,Hl];simp only[List.append_nil,List.length_nil,Nat.add_zero,List.take_append_drop,Array.toArray_toList];rw[setRow_self w.drew g cur 52 (0,0) hg]
  ·rw[if_neg Oz]at hX;subst hX;rw[mr];exact oJ (P:=Tryz.prog) w.drew 38 ty 52 5 g i c ⟨g,j*5,none⟩ (n-j) sc cur (xs.drop (j*5)) ht hz hg PL (uo (size:=5) (n:=n) (w:=w.drew) hg kg (j*5)) (fun q hq=>h1 q (aeT hq)) (by omega) (by omega)
 obtain⟨dr,vW⟩:∃dr:Array Value,dr=(cur1.toList.take ((i+(n-j))*5)++(Builtin.zeroCells z1.cells (j-i)).toList++cur1.toList.drop ((i+(n-j))*5+(Builtin.zeroCells z1.cells (j-i)).toList.length)).toArray:=⟨_,rfl⟩;have ZV:(Builtin.zeroCells z1.cells (j-i)).toList.length=(j-i)*5:=by simp[Builtin.zeroCells,EG]
 have PI:dr.size=cur.size:=by rw[vW];simp[ZV];omega
 have rY:∀ty sc,(Builtin.clear_ #[38] ty #[.slice (some ⟨g,(i+(n-j))*5,none⟩) (n-(i+(n-j))) sc]).run Tryz.prog (w.drew.setRow g cur1)=.ok (.tuple #[]) ((w.drew.setRow g cur1).setRow g dr):=fun ty sc=>by have:=rz (P:=Tryz.prog) (w.drew.setRow g cur1) 38 ty 52 5 g ((i+(n-j))*5) (j-i) sc cur1 i1 z1 ht Vj UJ EG yC (setRow_heap w.drew g cur _ 52 _ hg) (by omega) (by omega);rw[show n-(i+(n-j))=j-i by omega,this,vW]
 have il:dr.toList.take ((i+(n-j))*5)=xs.take (i*5)++xs.drop (j*5):=IM (cur1:=cur1.toList) kg (by simp;omega) (by omega) PA (by rw[mr]) (by rw[vW]);clear mr vW kg PL;have h63:c≤9223372036854775807:=by unfold maxLen at hc;omega
 have qB:i≤n:=by omega
 have hic:¬(c=i):=by omega
 have hjc:j≤c:=by omega
 have bw:¬((i:Int)=(j:Int)):=by omega
 have ng:i≤j:=by omega
 have ahu:i≤c:=by omega
 have ahv:i+(n-j)≤n:=by omega
 have ahw:i+(n-j)≤c:=by omega
 have ahx:¬(c=i+(n-j)):=by omega
 have ahy:(i:Int)+((n-j:Nat):Int)≤(n:Int):=by omega
 have mixed:Tryz.prog.follows .mixedOrders=true:=by kernel_rfl
 by_cases Oz:c=j
 ·rw[if_pos Oz]at hX;subst hX;subst Oz;obtain rfl:n=c:=by omega
  simp only[Nat.sub_self,Nat.add_zero]at Vh rY il ⊢
  go_enter Tryz.func177,Tryz.ntmps177
  go_wp2_with fail
  go_region_law (go_loud (refine iw rfl _ _ 38 38 rfl (.slice (some ⟨g,0,none⟩) i n) (.slice (some ⟨g,0,none⟩) 0 0) (by simp[Act.eval,Act.put]) (by simp[Act.eval,Act.put]) (Vh 38 0) ?_))
  go_wp2_with (simp only[rY])
  go_ret
  refine⟨rfl,dr,setRow_heap _ g cur1 _ 52 _ (setRow_heap w.drew g cur _ 52 _ hg),PI,il,⟨rfl,rfl,rfl,by simp[World.setRow],fun k hk Oy=>?_⟩⟩;have wG:k≠g:=fun e=>Oy (by rw[e]);rw[_root_.Go.setRow_other _ g k _ wG,_root_.Go.setRow_other _ g k _ wG];rfl
 ·rw[if_neg Oz]at hX;subst hX
  go_enter Tryz.func177,Tryz.ntmps177
  go_wp2_with fail
  go_region_law (go_loud (refine iw rfl _ _ 38 38 rfl (.slice (some ⟨g,0,none⟩) i c) (.slice (some ⟨g,j*5,none⟩) (n-j) (c-j)) (by simp[Act.eval,Act.put]) (by simp[Act.eval,Act.put]) (Vh 38 (c-j)) ?_))
  go_wp2_with (simp only[rY])
  go_ret
  refine⟨rfl,dr,setRow_heap _ g cur1 _ 52 _ (setRow_heap w.drew g cur _ 52 _ hg),PI,il,⟨rfl,rfl,rfl,by simp[World.setRow],fun k hk Oy=>?_⟩⟩;have wG:k≠g:=fun e=>Oy (by rw[e]);rw[_root_.Go.setRow_other _ g k _ wG,_root_.Go.setRow_other _ g k _ wG];rfl
theorem Yw:K2 Tryz.prog 177 52 5:=fun w v n i j xs hv zY PA hm h1=>by
 rcases hv.2 with⟨h0,_⟩|⟨g,c,cur,rfl,Xg,hg,yx,Ow,jf,kg⟩
 ·omega
 have mH:ob (.slice (some ⟨g,0,none⟩) n c)=some g:=by simp only[ob];rw[if_neg (by omega)]
 refine(IN w g c n i j (if c=j then 0 else j*5) xs cur hg jf kg hv.1 zY PA yx Ow (by split<;>rfl) h1).mono fun en w' ⟨e1,jn,e2,e3,e4,e5⟩=>?_;refine⟨_,e1,⟨?_,.inr ⟨g,c,jn,rfl,Xg,e2,by omega,Ow,by rw[e3,jf],e4⟩⟩,by rw[mH];exact e5,?_⟩
 ·have hl:=hv.1;simp only[List.length_append,List.length_take,List.length_drop];omega
 ·rw[mH];simp only[ob];rw[if_neg (by omega)]
end Go.Vs
namespace Go.Vs
open Go.Proofs
variable {P:Program}
theorem CA{Z:Nat→Prop}{w:World}{k:K}{xs:List k.T}{vs:List Value}(hv:nF Z w k xs vs)(hl:vs.length=xs.length*k.sz):∀q∈vs,q.oneCell'=true:=fun q hq=>by
 obtain⟨p,hp⟩:=aeN hq;have aF:p<vs.length:=(aaW.1 hp).1;have hs:=k.iB;have hd:p / k.sz<xs.length:=Nat.div_lt_of_lt_mul (by rw[Nat.mul_comm];omega);have hr:=hv (p / k.sz) _ (aaV hd);refine hr.one q ?_;have hm:=Nat.mod_add_div p k.sz;have hml:=aeW p hs;have:((vs.drop (p / k.sz*k.sz)).take k.sz)[p%k.sz]? = some q:=by rw[List.getElem?_take,if_pos hml,List.getElem?_drop,Nat.mul_comm,Nat.add_comm,hm,hp]
 exact ac7 this
theorem EH{Z:Nat→Prop}{w:World}{k:K}{xs:List k.T}{vs:List Value}(hv:nF Z w k xs vs)(n:Nat):nF Z w k (xs.take n) (vs.take (n*k.sz)):=fun i x hx=>by
 rw[List.getElem?_take]at hx
 split at hx
 ·rename_i hi;have:=hv i x hx;have e:((vs.take (n*k.sz)).drop (i*k.sz)).take k.sz=(vs.drop (i*k.sz)).take k.sz:=by rw[List.drop_take,List.take_take];congr 1;have:(i+1)*k.sz≤n*k.sz:=adA _ hi;rw[Nat.add_mul]at this;omega
  rw[e];exact this
 ·cases hx
theorem EI{Z:Nat→Prop}{w:World}{k:K}{xs:List k.T}{vs:List Value}(hv:nF Z w k xs vs)(n:Nat):nF Z w k (xs.drop n) (vs.drop (n*k.sz)):=fun i x hx=>by rw[List.getElem?_drop]at hx;have:=hv (n+i) x hx;rw[List.drop_drop,←Nat.add_mul];exact this
theorem uy{f:FuncId}{ty:TypeId}{k:K}(hr:Cw P f ty k.sz):iF P f (P0 ty k):=by
 intro Z ψ h w B0 O N hh id e vs us g hB bE hN bz nT tR FB he;unfold P0 at he
 split at he
 rotate_left
 ·cases he
 rename_i o i j
 split at he
 rotate_left
 ·cases he
 rename_i xs ys yy NF
 split at he
 ·cases he
 rename_i hoj;simp only[Option.some.injEq,Prod.mk.injEq]at he;obtain⟨lT,rfl⟩:=he;have hhg:hh.get=h:=nT _ _ rfl;have MI:hh.get o=some (.own (.row ty k) xs):=jT yy;have hgj:hh.get j=some (.own (.row ty k) ys):=jT NF;simp only[aq,aC]at tR;obtain⟨v,_,rfl,⟨_,hv⟩,n,_,rfl,rfl,u,_,rfl,⟨_,hu⟩,rfl⟩:=tR;simp only[qL,Bool.and_eq_true,decide_eq_true_eq,aN]at lT;obtain⟨h0,h1,h2,h3⟩:=lT;obtain⟨m,rfl⟩:∃m:Nat,i=m:=⟨i.toNat,by omega⟩;subst hhg;have hvo:v=ψ o:=hv (by rw[MI];simp);have huj:u=ψ j:=hu (by rw[hgj];simp);obtain⟨vs,QR,ti⟩:=g.row o (.row ty k) xs MI;obtain⟨je,ho2,yw⟩:=g.row j (.row ty k) ys hgj;simp only[aG,aM]at FB;have bR:N id:=hN 0 (by omega);have bw:o≠id:=fun e=>FB.1 (e▸bR);rw[h2]at ho2;subst hvo;subst huj;refine(hr w _ _ xs.length m vs je QR ho2 (by omega) (by omega) (fun b hb zZ=>hoj (g.apart o j b (by rw[MI];simp) (by rw[hgj];simp) hb zZ)) (CA ti QR.1) (CA yw (by rw[ho2.1,h2]))).mono fun en w' ⟨v',e1,e2,e3,e4⟩=>?_;have kk:dh ψ hh.get w w':=dh.grown e3 (fun b e=>⟨o,by rw[MI];simp,e⟩);have sm:=kk.same g;have hlen:(gk xs (m:Int) ys).length=xs.length+1:=by simp only[gk,Int.toNat_natCast,List.length_append,List.length_take,List.length_drop];omega
 have htl:(vs.take (m*k.sz)).length=(xs.take m).length*k.sz:=by have:m*k.sz≤xs.length*k.sz:=adA _ (by omega);rw[List.length_take,List.length_take,QR.1,Nat.min_eq_left this,Nat.min_eq_left (by omega)]
 have oo:nF Z w k (gk xs (m:Int) ys) (vs.take (m*k.sz)++(je++vs.drop (m*k.sz))):=(EH ti m).append (yw.append (EI ti m) (by rw[ho2.1,h2])) htl;have Eo:=qW (N:=N) g hB id o bR MI bw e3 (v:=v') (ok:=.row ty k) (y:=gk xs m ys) ⟨_,by rw[hlen];exact e2,oo.Hj sm⟩ e4 (fun i ty cs hb=>aG.imp (p:=fun i=>¬N i) (q:=fun i=>i≠id) (fun a ha e=>ha (by rw[e];exact bR)) (bz i ty cs hb));have hhp:Heap.get ((id,Ob.own (.row ty k) (gk xs (m:Int) ys))::hh.del o)=eC (eC hh.get o none) id (some (.own (.row ty k) (gk xs m ys))):=by rw[A3,u4]
 refine⟨v',Z,eC ψ id v',e1,?_,?_⟩
 ·show Next Z ψ hh.get w B0 O N Z (eC ψ id v') (Heap.get ((id,Ob.own (.row ty k) (gk xs (m:Int) ys))::hh.del o)) w';rw[hhp];exact Eo
 ·simp only[bL.v,aC];exact⟨e2.one,fun _=>(bA _ _ _).symm⟩
theorem CB{f:FuncId}{ty:TypeId}{k:K}(hr:K2 P f ty k.sz):iF P f (UB ty k):=by
 intro Z ψ h w B0 O N hh id e vs us g hB bE hN bz nT tR FB he;unfold UB at he
 split at he
 rotate_left
 ·cases he
 rename_i o i j
 split at he
 rotate_left
 ·cases he
 rename_i xs yy;simp only[Option.some.injEq,Prod.mk.injEq]at he;obtain⟨lT,rfl⟩:=he;have hhg:hh.get=h:=nT _ _ rfl;have MI:hh.get o=some (.own (.row ty k) xs):=jT yy;simp only[aq,aC]at tR;obtain⟨v,_,rfl,⟨_,hv⟩,n,_,rfl,rfl,u,_,rfl,rfl,rfl⟩:=tR;simp only[jH,Bool.and_eq_true,decide_eq_true_eq,aN]at lT;obtain⟨h0,h1,h2,h3⟩:=lT;obtain⟨m,rfl⟩:∃m:Nat,i=m:=⟨i.toNat,by omega⟩;obtain⟨q,rfl⟩:∃m:Nat,j=m:=⟨j.toNat,by omega⟩;subst hhg;have hvo:v=ψ o:=hv (by rw[MI];simp);obtain⟨vs,QR,ti⟩:=g.row o (.row ty k) xs MI;simp only[aG,aM]at FB;have bR:N id:=hN 0 (by omega);have bw:o≠id:=fun e=>FB.1 (e▸bR);subst hvo;refine(hr w _ xs.length m q vs QR (by omega) (by omega) (by omega) (CA ti QR.1)).mono fun en w' ⟨v',e1,e2,e3,e4⟩=>?_;have kk:dh ψ hh.get w w':=dh.grown e3 (fun b e=>⟨o,by rw[MI];simp,e⟩);have sm:=kk.same g;have hlen:(dA xs (m:Int) q).length=m+(xs.length-q):=by simp only[dA,Int.toNat_natCast,List.length_append,List.length_take,List.length_drop];omega
 have htl:(vs.take (m*k.sz)).length=(xs.take m).length*k.sz:=by have:m*k.sz≤xs.length*k.sz:=adA _ (by omega);rw[List.length_take,List.length_take,QR.1,Nat.min_eq_left this,Nat.min_eq_left (by omega)]
 have oo:nF Z w k (dA xs (m:Int) q) (vs.take (m*k.sz)++vs.drop (q*k.sz)):=(EH ti m).append (EI ti q) htl;have Eo:=qW (N:=N) g hB id o bR MI bw e3 (v:=v') (ok:=.row ty k) (y:=dA xs m q) ⟨_,by rw[hlen];exact e2,oo.Hj sm⟩ (.inl e4) (fun i ty cs hb=>aG.imp (p:=fun i=>¬N i) (q:=fun i=>i≠id) (fun a ha e=>ha (by rw[e];exact bR)) (bz i ty cs hb));have hhp:Heap.get ((id,Ob.own (.row ty k) (dA xs (m:Int) q))::hh.del o)=eC (eC hh.get o none) id (some (.own (.row ty k) (dA xs m q))):=by rw[A3,u4]
 refine⟨v',Z,eC ψ id v',e1,?_,?_⟩
 ·show Next Z ψ hh.get w B0 O N Z (eC ψ id v') (Heap.get ((id,Ob.own (.row ty k) (dA xs (m:Int) q))::hh.del o)) w';rw[hhp];exact Eo
 ·simp only[bL.v,aC];exact⟨e2.one,fun _=>(bA _ _ _).symm⟩
end Go.Vs
namespace Go.Vs
open Go.Proofs Go.RowKit
set_option maxHeartbeats 4000000 in
set_option maxRecDepth 100000 in
theorem K3:Gf Tryz.prog 211 118 4:=fun w v u n xs ys hv hu hm h1=>by
 have ht:Tryz.prog.underlying 39=some (.slice 118):=by kernel_rfl
 obtain⟨i0,z0,he⟩:=cw (P:=Tryz.prog) (e:=118) (k:=.pair (.pair (.int .i64) (.int .i64)) (.pair .str (.int .i64))) (by kernel_rfl);have wS:=Gg hu h1;obtain⟨v',w',dB,h4,h5,h6⟩:=dO (P:=Tryz.prog) (ty:=39) ht he hv wS hm;obtain⟨A,c,rfl⟩:=hv.slice;have yx:n≤c:=by
  rcases hv.2 with⟨h0,A,e⟩|⟨g,cap,cur,e,hc,h2,h3,_⟩
  ·omega
  ·cases e;exact h3
 obtain⟨B,cu,rfl⟩:=hu.slice;have acq:n≤1073741824:=by unfold fk at hm;omega
 go_enter Tryz.func211,Tryz.ntmps211
 go_wp2_with (at_builtin;refine Lib.wpList_append_run _ rfl _ _ _ _ rfl _ _ rfl rfl _ _ dB ?_)
 all_goals go_ret
 all_goals first|exact⟨_,rfl,h4,h5,h6⟩|(subst_vars;exact⟨_,rfl,h4,h5,h6⟩)
set_option maxHeartbeats 4000000 in
set_option maxRecDepth 100000 in
theorem Gj:vT Tryz.prog 211 118 4:=fun w g c g2 c2 n i xs ys cur dr hg jf kg vU uN mO o4 kF Dx bw hi dQ hc h1 h2=>by
 have ht:Tryz.prog.underlying 39=some (.slice 118):=by kernel_rfl
 have hz:(Tryz.prog.info? 118).map (·.size)=some 4:=by kernel_rfl
 have zy:∀w,(Go.sizeOf 118).run Tryz.prog w=.ok 4 w:=fun w=>by
  cases hq:Tryz.prog.info? 118 with
  |none=>rw[hq]at hz;cases hz
  |some i=>rw[hq]at hz;simp at hz;simp[sizeOf,typeInfo,hq,hz]
 have Ut:∀a2 lb cb,(callFunc 228 #[.slice (some ⟨g2,0,none⟩) 1 c2,.slice (some ⟨g,a2,none⟩) lb cb]).run Tryz.prog w=.ok (.value (.bool false)) w:=fun a2 lb cb=>by rw[run_callFunc_extern Tryz.func228 (by kernel_rfl) (by kernel_rfl) (by kernel_rfl) (e:=Extern.SlicesOverlaps.overlaps #[39,39] #[4]) (by kernel_rfl),Lib.run_overlaps_apart w 39 4 118 ht 4 zy ⟨g2,0,none⟩ ⟨g,a2,none⟩ 1 c2 lb cb bw 118 118 dr.size cur.size (by simp[World.shape?,uN]) (by simp[World.shape?,hg]) (by omega) (by simp[World.frozen?,uN]) (by simp[World.frozen?,uN])];rfl
 obtain⟨cur1,cur3,KX,IK,Ou,il⟩:=uq ht hz w g c g2 c2 n i xs ys cur dr hg jf kg vU uN mO o4 kF Dx bw hi dQ hc h1 h2;have h63:c≤9223372036854775807:=by unfold maxLen at hc;omega
 obtain⟨KH,Vi,Ox,qB,Us,zZ,Xh,hb4,Dt,JX⟩:=uu hi dQ hc;clear kg kF;have mixed:Tryz.prog.follows .mixedOrders=true:=by kernel_rfl
 go_enter Tryz.func211,Tryz.ntmps211
 go_wp2_with (simp only[Ut])
 go_region_law (go_loud (refine step_copy_runI rfl _ _ 39 39 rfl (.slice (some ⟨g,(i+1)*4,none⟩) (n-i) (c-(i+1))) (.slice (some ⟨g,i*4,none⟩) (n+1-i) (c-i)) (by simp[Act.eval,Act.put]) (by simp[Act.eval,Act.put]) (KX w.drew rfl 3 (c-(i+1)) (c-i)) ?_))
 go_wp2_with (simp only[IK])
 go_ret
 refine⟨rfl,cur3,setRow_heap _ g cur1 _ 118 _ (setRow_heap w.drew g cur _ 118 _ hg),Ou,il,⟨rfl,rfl,rfl,by simp[World.setRow],fun k hk Oy=>?_⟩⟩;have wG:k≠g:=fun e=>Oy (by rw[e]);rw[_root_.Go.setRow_other _ g k _ wG,_root_.Go.setRow_other _ g k _ wG];rfl
set_option maxHeartbeats 4000000 in
set_option maxRecDepth 100000 in
theorem IP:Ao Tryz.prog 211 118 4:=fun w g c g2 c2 n i xs ys cur dr hg jf kg vU uN mO o4 kF Dx bw hi yx dQ hm h1 h2=>by
 have ht:Tryz.prog.underlying 39=some (.slice 118):=by kernel_rfl
 obtain⟨i0,z0,he⟩:=cw (P:=Tryz.prog) (e:=118) (k:=.pair (.pair (.int .i64) (.int .i64)) (.pair .str (.int .i64))) (by kernel_rfl);obtain⟨G,nP,row2,row3,W1,PM,sZ,vV,oK,KY,KZ,Ou,MH,Cz,il⟩:=xF (sz:=4) rfl (by decide) ht (by kernel_rfl) he w g c g2 c2 n i xs ys cur dr hg jf kg vU uN mO o4 kF Dx bw hi yx dQ hm h1 h2;obtain⟨KH,Vi,hw3,Ox,qB,acs,hGi,acu,hci,Xh,Dt,JX⟩:=xG hi yx dQ hm MH;unfold fk at hm;clear kg kF;have mixed:Tryz.prog.follows .mixedOrders=true:=by kernel_rfl
 go_enter Tryz.func211,Tryz.ntmps211
 go_wp2_with (first
  |(at_builtin;refine Lib.wpList_append_run _ rfl _ _ _ _ rfl _ _ rfl rfl _ _ (PM _) ?_)
  |(at_builtin;refine wpList_copy_runI _ rfl _ _ 39 39 rfl _ _ rfl rfl (KY _ (by rfl) _ _ _) ?_))
 go_region_law (go_loud (refine step_copy_runI rfl _ _ 39 39 rfl (.slice (some ⟨w.heap.size,(i+1)*4,none⟩) (n-i) (G-(i+1))) (.slice (some ⟨g,i*4,none⟩) (n-i) (c-i)) (by simp[Act.eval,Act.put]) (by simp[Act.eval,Act.put]) (KZ (W1.setRow w.heap.size row2).drew rfl 3 (G-(i+1)) (c-i)) ?_))
 go_wp2
 go_ret
 refine⟨G,rfl,row3,setRow_heap _ w.heap.size row2 _ 118 _ (setRow_heap W1 w.heap.size nP _ 118 _ sZ),by omega,MH,Cz,il,⟨oK.os,oK.tape,oK.output,by have:=oK.size;simpa[World.setRow] using this,fun k hk _=>?_⟩⟩;rw[_root_.Go.setRow_other _ w.heap.size k _ (Nat.ne_of_lt hk)];exact(_root_.Go.setRow_other W1 w.heap.size k _ (Nat.ne_of_lt hk)).trans (vV k hk)
theorem Yx:Cw Tryz.prog 211 118 4:=K0 K3 Gj IP
set_option maxHeartbeats 4000000 in
set_option maxRecDepth 100000 in
theorem IQ(w:World)(g c n i j X:Nat)(xs:List Value)(cur:Array Value)(hg:w.heap[g]? = some (.cells cur 118 (0,0)))(jf:cur.size=c*4)(kg:cur.toList.take (n*4)=xs)(vU:xs.length=n*4) (zY:i<j) (PA:j≤n) (yx:n≤c) (hc:c≤maxLen) (hX:if c=j then X=0 else X=j*4)
  (h1:∀q∈xs,q.oneCell'=true) :
  Calls Tryz.prog 186 #[.slice (some ⟨g,0,none⟩) n c,.int .i64 i,.int .i64 j] w fun en w'=>en=.returned (.slice (some ⟨g,0,none⟩) (i+(n-j)) c) ∧ ∃jn:Array Value,w'.heap[g]? = some (.cells jn 118 (0,0))∧jn.size=cur.size∧jn.toList.take ((i+(n-j))*4)=xs.take (i*4)++xs.drop (j*4)∧w.grownBy w' (some g):=by
 have ht:Tryz.prog.underlying 39=some (.slice 118):=by kernel_rfl
 have hz:(Tryz.prog.info? 118).map (·.size)=some 4:=by kernel_rfl
 obtain⟨zs,zy⟩:∃zs,AG Tryz.prog 118=some zs:=adf.1 (by kernel_rfl);obtain⟨i0,z0,Vj,UJ,rfl,yC⟩:=po zy;obtain⟨i1,z1,he⟩:=cw (P:=Tryz.prog) (e:=118) (k:=.pair (.pair (.int .i64) (.int .i64)) (.pair .str (.int .i64))) (by kernel_rfl);have ei:i1=i0:=by have:=he.info;rw[Vj]at this;cases this;rfl
 subst ei;have ez:z1=z0:=by have:=he.zero;rw[UJ]at this;cases this;rfl
 subst ez;have EG:z1.cells.size=4:=he.uX;clear he zy;have PL:(xs.drop (j*4)).length=(n-j)*4:=by rw[List.length_drop,vU];omega
 obtain⟨cur1,mr⟩:∃cur1:Array Value,cur1=(cur.toList.take (i*4)++xs.drop (j*4)++cur.toList.drop (i*4+(xs.drop (j*4)).length)).toArray:=⟨_,rfl⟩;have HV:cur1.size=cur.size:=by rw[mr];simp;omega
 have Vh:∀ty sc,(Builtin.append_ #[39,39] ty #[.slice (some ⟨g,0,none⟩) i c,.slice (some ⟨g,X,none⟩) (n-j) sc]).run Tryz.prog w.drew=.ok (.slice (some ⟨g,0,none⟩) (i+(n-j)) c) (w.drew.setRow g cur1):=fun ty sc=>by
  by_cases Oz:c=j
  ·have hnj:n=j:=by omega
   have:n-j=0:=by omega
   rw[this]at PL ⊢;have Hl:xs.drop (j*4)=[]:=adn (by omega);rw[fz ht Vj _ _ _ (by omega) _ _,mr,Hl];simp only[List.append_nil,List.length_nil,Nat.add_zero,List.take_append_drop,Array.toArray_toList];rw[setRow_self w.drew g cur 118 (0,0) hg]
  ·rw[if_neg Oz]at hX;subst hX;rw[mr];exact oJ (P:=Tryz.prog) w.drew 39 ty 118 4 g i c ⟨g,j*4,none⟩ (n-j) sc cur (xs.drop (j*4)) ht hz hg PL (uo (size:=4) (n:=n) (w:=w.drew) hg kg (j*4)) (fun q hq=>h1 q (aeT hq)) (by omega) (by omega)
 obtain⟨dr,vW⟩:∃dr:Array Value,dr=(cur1.toList.take ((i+(n-j))*4)++(Builtin.zeroCells z1.cells (j-i)).toList++cur1.toList.drop ((i+(n-j))*4+(Builtin.zeroCells z1.cells (j-i)).toList.length)).toArray:=⟨_,rfl⟩;have ZV:(Builtin.zeroCells z1.cells (j-i)).toList.length=(j-i)*4:=by simp[Builtin.zeroCells,EG]
 have PI:dr.size=cur.size:=by rw[vW];simp[ZV];omega
 have rY:∀ty sc,(Builtin.clear_ #[39] ty #[.slice (some ⟨g,(i+(n-j))*4,none⟩) (n-(i+(n-j))) sc]).run Tryz.prog (w.drew.setRow g cur1)=.ok (.tuple #[]) ((w.drew.setRow g cur1).setRow g dr):=fun ty sc=>by have:=rz (P:=Tryz.prog) (w.drew.setRow g cur1) 39 ty 118 4 g ((i+(n-j))*4) (j-i) sc cur1 i1 z1 ht Vj UJ EG yC (setRow_heap w.drew g cur _ 118 _ hg) (by omega) (by omega);rw[show n-(i+(n-j))=j-i by omega,this,vW]
 have il:dr.toList.take ((i+(n-j))*4)=xs.take (i*4)++xs.drop (j*4):=IM (cur1:=cur1.toList) kg (by simp;omega) (by omega) PA (by rw[mr]) (by rw[vW]);clear mr vW kg PL;have h63:c≤9223372036854775807:=by unfold maxLen at hc;omega
 have qB:i≤n:=by omega
 have hic:¬(c=i):=by omega
 have hjc:j≤c:=by omega
 have bw:¬((i:Int)=(j:Int)):=by omega
 have ng:i≤j:=by omega
 have ahu:i≤c:=by omega
 have ahv:i+(n-j)≤n:=by omega
 have ahw:i+(n-j)≤c:=by omega
 have ahx:¬(c=i+(n-j)):=by omega
 have ahy:(i:Int)+((n-j:Nat):Int)≤(n:Int):=by omega
 have mixed:Tryz.prog.follows .mixedOrders=true:=by kernel_rfl
 by_cases Oz:c=j
 ·rw[if_pos Oz]at hX;subst hX;subst Oz;obtain rfl:n=c:=by omega
  simp only[Nat.sub_self,Nat.add_zero]at Vh rY il ⊢
  go_enter Tryz.func186,Tryz.ntmps186
  go_wp2_with fail
  go_region_law (go_loud (refine iw rfl _ _ 39 39 rfl (.slice (some ⟨g,0,none⟩) i n) (.slice (some ⟨g,0,none⟩) 0 0) (by simp[Act.eval,Act.put]) (by simp[Act.eval,Act.put]) (Vh 39 0) ?_))
  go_wp2_with (simp only[rY])
  go_ret
  refine⟨rfl,dr,setRow_heap _ g cur1 _ 118 _ (setRow_heap w.drew g cur _ 118 _ hg),PI,il,⟨rfl,rfl,rfl,by simp[World.setRow],fun k hk Oy=>?_⟩⟩;have wG:k≠g:=fun e=>Oy (by rw[e]);rw[_root_.Go.setRow_other _ g k _ wG,_root_.Go.setRow_other _ g k _ wG];rfl
 ·rw[if_neg Oz]at hX;subst hX
  go_enter Tryz.func186,Tryz.ntmps186
  go_wp2_with fail
  go_region_law (go_loud (refine iw rfl _ _ 39 39 rfl (.slice (some ⟨g,0,none⟩) i c) (.slice (some ⟨g,j*4,none⟩) (n-j) (c-j)) (by simp[Act.eval,Act.put]) (by simp[Act.eval,Act.put]) (Vh 39 (c-j)) ?_))
  go_wp2_with (simp only[rY])
  go_ret
  refine⟨rfl,dr,setRow_heap _ g cur1 _ 118 _ (setRow_heap w.drew g cur _ 118 _ hg),PI,il,⟨rfl,rfl,rfl,by simp[World.setRow],fun k hk Oy=>?_⟩⟩;have wG:k≠g:=fun e=>Oy (by rw[e]);rw[_root_.Go.setRow_other _ g k _ wG,_root_.Go.setRow_other _ g k _ wG];rfl
theorem Yy:K2 Tryz.prog 186 118 4:=fun w v n i j xs hv zY PA hm h1=>by
 rcases hv.2 with⟨h0,_⟩|⟨g,c,cur,rfl,Xg,hg,yx,Ow,jf,kg⟩
 ·omega
 have mH:ob (.slice (some ⟨g,0,none⟩) n c)=some g:=by simp only[ob];rw[if_neg (by omega)]
 refine(IQ w g c n i j (if c=j then 0 else j*4) xs cur hg jf kg hv.1 zY PA yx Ow (by split<;>rfl) h1).mono fun en w' ⟨e1,jn,e2,e3,e4,e5⟩=>?_;refine⟨_,e1,⟨?_,.inr ⟨g,c,jn,rfl,Xg,e2,by omega,Ow,by rw[e3,jf],e4⟩⟩,by rw[mH];exact e5,?_⟩
 ·have hl:=hv.1;simp only[List.length_append,List.length_take,List.length_drop];omega
 ·rw[mH];simp only[ob];rw[if_neg (by omega)]
set_option maxHeartbeats 4000000 in
set_option maxRecDepth 100000 in
theorem K4:Gf Tryz.prog 233 54 6:=fun w v u n xs ys hv hu hm h1=>by
 have ht:Tryz.prog.underlying 42=some (.slice 54):=by kernel_rfl
 obtain⟨i0,z0,he⟩:=cw (P:=Tryz.prog) (e:=54) (k:=.pair (.pair (.pair (.int .i64) (.int .i64)) (.int .i64)) (.pair (.pair (.int .i64) (.int .i64)) (.int .i64))) (by kernel_rfl);have wS:=Gg hu h1;obtain⟨v',w',dB,h4,h5,h6⟩:=dO (P:=Tryz.prog) (ty:=42) ht he hv wS hm;obtain⟨A,c,rfl⟩:=hv.slice;have yx:n≤c:=by
  rcases hv.2 with⟨h0,A,e⟩|⟨g,cap,cur,e,hc,h2,h3,_⟩
  ·omega
  ·cases e;exact h3
 obtain⟨B,cu,rfl⟩:=hu.slice;have acq:n≤1073741824:=by unfold fk at hm;omega
 go_enter Tryz.func233,Tryz.ntmps233
 go_wp2_with (at_builtin;refine Lib.wpList_append_run _ rfl _ _ _ _ rfl _ _ rfl rfl _ _ dB ?_)
 all_goals go_ret
 all_goals first|exact⟨_,rfl,h4,h5,h6⟩|(subst_vars;exact⟨_,rfl,h4,h5,h6⟩)
set_option maxHeartbeats 4000000 in
set_option maxRecDepth 100000 in
theorem Gk:vT Tryz.prog 233 54 6:=fun w g c g2 c2 n i xs ys cur dr hg jf kg vU uN mO o4 kF Dx bw hi dQ hc h1 h2=>by
 have ht:Tryz.prog.underlying 42=some (.slice 54):=by kernel_rfl
 have hz:(Tryz.prog.info? 54).map (·.size)=some 6:=by kernel_rfl
 have zy:∀w,(Go.sizeOf 54).run Tryz.prog w=.ok 6 w:=fun w=>by
  cases hq:Tryz.prog.info? 54 with
  |none=>rw[hq]at hz;cases hz
  |some i=>rw[hq]at hz;simp at hz;simp[sizeOf,typeInfo,hq,hz]
 have Ut:∀a2 lb cb,(callFunc 246 #[.slice (some ⟨g2,0,none⟩) 1 c2,.slice (some ⟨g,a2,none⟩) lb cb]).run Tryz.prog w=.ok (.value (.bool false)) w:=fun a2 lb cb=>by rw[run_callFunc_extern Tryz.func246 (by kernel_rfl) (by kernel_rfl) (by kernel_rfl) (e:=Extern.SlicesOverlaps.overlaps #[42,42] #[4]) (by kernel_rfl),Lib.run_overlaps_apart w 42 4 54 ht 6 zy ⟨g2,0,none⟩ ⟨g,a2,none⟩ 1 c2 lb cb bw 54 54 dr.size cur.size (by simp[World.shape?,uN]) (by simp[World.shape?,hg]) (by omega) (by simp[World.frozen?,uN]) (by simp[World.frozen?,uN])];rfl
 obtain⟨cur1,cur3,KX,IK,Ou,il⟩:=uq ht hz w g c g2 c2 n i xs ys cur dr hg jf kg vU uN mO o4 kF Dx bw hi dQ hc h1 h2;have h63:c≤9223372036854775807:=by unfold maxLen at hc;omega
 obtain⟨KH,Vi,Ox,qB,Us,zZ,Xh,hb4,Dt,JX⟩:=uu hi dQ hc;clear kg kF;have mixed:Tryz.prog.follows .mixedOrders=true:=by kernel_rfl
 go_enter Tryz.func233,Tryz.ntmps233
 go_wp2_with (simp only[Ut])
 go_region_law (go_loud (refine step_copy_runI rfl _ _ 42 42 rfl (.slice (some ⟨g,(i+1)*6,none⟩) (n-i) (c-(i+1))) (.slice (some ⟨g,i*6,none⟩) (n+1-i) (c-i)) (by simp[Act.eval,Act.put]) (by simp[Act.eval,Act.put]) (KX w.drew rfl 3 (c-(i+1)) (c-i)) ?_))
 go_wp2_with (simp only[IK])
 go_ret
 refine⟨rfl,cur3,setRow_heap _ g cur1 _ 54 _ (setRow_heap w.drew g cur _ 54 _ hg),Ou,il,⟨rfl,rfl,rfl,by simp[World.setRow],fun k hk Oy=>?_⟩⟩;have wG:k≠g:=fun e=>Oy (by rw[e]);rw[_root_.Go.setRow_other _ g k _ wG,_root_.Go.setRow_other _ g k _ wG];rfl
set_option maxHeartbeats 4000000 in
set_option maxRecDepth 100000 in
theorem IS:Ao Tryz.prog 233 54 6:=fun w g c g2 c2 n i xs ys cur dr hg jf kg vU uN mO o4 kF Dx bw hi yx dQ hm h1 h2=>by
 have ht:Tryz.prog.underlying 42=some (.slice 54):=by kernel_rfl
 obtain⟨i0,z0,he⟩:=cw (P:=Tryz.prog) (e:=54) (k:=.pair (.pair (.pair (.int .i64) (.int .i64)) (.int .i64)) (.pair (.pair (.int .i64) (.int .i64)) (.int .i64))) (by kernel_rfl);obtain⟨G,nP,row2,row3,W1,PM,sZ,vV,oK,KY,KZ,Ou,MH,Cz,il⟩:=xF (sz:=6) rfl (by decide) ht (by kernel_rfl) he w g c g2 c2 n i xs ys cur dr hg jf kg vU uN mO o4 kF Dx bw hi yx dQ hm h1 h2;obtain⟨KH,Vi,hw3,Ox,qB,acs,hGi,acu,hci,Xh,Dt,JX⟩:=xG hi yx dQ hm MH;unfold fk at hm;clear kg kF;have mixed:Tryz.prog.follows .mixedOrders=true:=by kernel_rfl
 go_enter Tryz.func233,Tryz.ntmps233
 go_wp2_with (first
  |(at_builtin;refine Lib.wpList_append_run _ rfl _ _ _ _ rfl _ _ rfl rfl _ _ (PM _) ?_)
  |(at_builtin;refine wpList_copy_runI _ rfl _ _ 42 42 rfl _ _ rfl rfl (KY _ (by rfl) _ _ _) ?_))
 go_region_law (go_loud (refine step_copy_runI rfl _ _ 42 42 rfl (.slice (some ⟨w.heap.size,(i+1)*6,none⟩) (n-i) (G-(i+1))) (.slice (some ⟨g,i*6,none⟩) (n-i) (c-i)) (by simp[Act.eval,Act.put]) (by simp[Act.eval,Act.put]) (KZ (W1.setRow w.heap.size row2).drew rfl 3 (G-(i+1)) (c-i)) ?_))
 go_wp2
 go_ret
 refine⟨G,rfl,row3,setRow_heap _ w.heap.size row2 _ 54 _ (setRow_heap W1 w.heap.size nP _ 54 _ sZ),by omega,MH,Cz,il,⟨oK.os,oK.tape,oK.output,by have:=oK.size;simpa[World.setRow] using this,fun k hk _=>?_⟩⟩;rw[_root_.Go.setRow_other _ w.heap.size k _ (Nat.ne_of_lt hk)];exact(_root_.Go.setRow_other W1 w.heap.size k _ (Nat.ne_of_lt hk)).trans (vV k hk)
theorem Yz:Cw Tryz.prog 233 54 6:=K0 K4 Gk IS
def Gl(P:Program)(f:FuncId)(e:TypeId)(size:Nat):Prop :=∀(w:World) (n:Nat),n≤fk→Calls P f #[.slice none 0 0,.int .i64 n] w fun en w'=>∃v',en=.returned v'∧eI w' e size v' 0 []∧w.grownBy w' none∧∀b,ob v'=some b→w.heap.size≤b
set_option maxHeartbeats 4000000 in
set_option maxRecDepth 100000 in
theorem Vk:Gl Tryz.prog 220 33 3:=fun w n hm=>by
 have ht:Tryz.prog.underlying 50=some (.slice 33):=by kernel_rfl
 have Us:Tryz.prog.underlying 3=some (.int .i64):=by kernel_rfl
 obtain⟨i0,z0,he⟩:=cw (P:=Tryz.prog) (e:=33) (k:=.pair (.pair (.int .i64) (.int .i64)) (.int .i64)) (by kernel_rfl);have EG:z0.cells.size=3:=he.uX;have zy:i0.size=3:=he.size;have Gh:=he.bytes;unfold fk at hm;by_cases hn:n=0
 ·subst hn;have mH:ob (.slice none 0 0)=none:=rfl
  go_enter Tryz.func220,Tryz.ntmps220
  go_wp2
  go_ret
  exact⟨_,rfl,⟨by simp,.inl ⟨rfl,none,rfl⟩⟩,World.grownBy.refl w _,fun b hb=>by simp[ob]at hb⟩
 ·have lR:n*i0.bytes≤281474976710656:=adC (ae4 hm Gh) (by decide);obtain⟨G,hG⟩:∃G,G=grownCap w n 0 33:=⟨_,rfl⟩;obtain⟨nP,Cx⟩:∃nP,nP=Builtin.zeroCells z0.cells n++Builtin.zeroCells z0.cells (G-n):=⟨_,rfl⟩;obtain⟨W1,ux⟩:∃W1,W1=w.drew.alloc (.cells nP 33):=⟨_,rfl⟩;have PM:∀ty,(Builtin.append_ #[50,3] ty #[.slice none 0 0,.int .i64 n]).run Tryz.prog w=.ok (.slice (some ⟨w.heap.size,0,none⟩) n G) W1:=fun ty=>by rw[ux,Cx,hG];exact Lib.run_append_nil_zeros w 50 3 ty 33 i0 z0 .i64 .i64 ht Us he.info he.zero n (by omega) (by omega) (by omega) lR
  have MH:n≤G:=by rw[hG];exact grownCap_ge w _ _ _
  have Cz:G≤9223372036854775807:=by have:=grownCap_le_maxLen w n 0 33 (by unfold maxLen;omega);rw[←hG]at this;unfold maxLen at this;omega
  have hRs:nP.size=G*3:=by rw[Cx];simp[Builtin.zeroCells,EG];omega
  have sZ:W1.heap[w.heap.size]? = some (.cells nP 33 (0,0)):=by rw[ux];exact(MapKept.heap_alloc w.drew (.cells nP 33)).1
  have vV:∀b,b<w.heap.size→W1.heap[b]? = w.heap[b]? := fun b hb=>by rw[ux];exact(Below.heap_alloc w.drew (.cells nP 33) b hb).trans rfl
  have oK:w.grownBy W1 none:=⟨by rw[ux];rfl,by rw[ux];rfl,by rw[ux];rfl,by have:=(aa3.1 sZ).1;omega,fun k hk _=>vV k hk⟩;clear Cx ux hG;have hn0:¬((n:Int)<0):=by omega
  have ZL:0<(n:Int):=by omega
  have hn2:IntKind.i64.wrap (n:Int)=n:=by rw[IntKind.wrap_i64];omega
  have hG0:¬(G=0):=by omega
  go_enter Tryz.func220,Tryz.ntmps220
  go_wp2_with (at_builtin;refine Lib.wpList_append_run _ rfl _ _ _ _ rfl _ _ rfl rfl _ _ (PM _) ?_)
  go_ret
  refine⟨.slice (some ⟨w.heap.size,0,none⟩) 0 G,rfl,⟨by simp,.inr ⟨w.heap.size,G,nP,rfl,by omega,sZ,by omega,Cz,hRs,by simp⟩⟩,oK,fun b hb=>?_⟩;simp only[ob]at hb;rw[if_neg (by omega)]at hb;cases hb;omega
theorem zh{P:Program}{f:FuncId}{ty:TypeId}{k:K}(hr:Gl P f ty k.sz):iF P f (L6 ty k):=by
 intro Z ψ h w B0 O N hh id e vs us g hB bE hN bz nT tR FB he;unfold L6 at he
 split at he
 rotate_left
 ·cases he
 rename_i n;simp only[Option.some.injEq,Prod.mk.injEq]at he;obtain⟨lT,rfl⟩:=he;simp only[qM,Bool.and_eq_true,decide_eq_true_eq]at lT;obtain⟨h0,h1⟩:=lT;obtain⟨m,rfl⟩:∃m:Nat,n=m:=⟨n.toNat,by omega⟩;simp only[aq,aC]at tR;obtain⟨v,_,rfl,rfl,u,_,rfl,rfl,rfl⟩:=tR;have bR:N id:=hN 0 (by omega);refine(hr w m (by omega)).mono fun en w' ⟨v',e1,e2,e3,e4⟩=>?_;have kk:dh ψ h w w':=dh.grown e3 (fun b e=>by cases e);have Eo:=qV (N:=N) g hB id ty bR (k:=k) (xs:=[]) (vs:=[]) kk (fun b hb=>e3.block b (g.bT hb) (by simp)) e2 (fun i x hx=>by simp at hx) e4 (fun i ty cs hb=>aG.imp (p:=fun i=>¬N i) (q:=fun i=>i≠id) (fun a ha e=>ha (by rw[e];exact bR)) (bz i ty cs hb));refine⟨v',Z,eC ψ id v',e1,?_,?_⟩
 ·have hhp:(bL.new (.bK id) [(id,Ob.own (.row ty k) [])]).hp h=eC h id (some (.own (.row ty k) [])):=iE id _ h;rw[hhp];exact Eo
 ·simp only[bL.v,aC];exact⟨e2.one,fun _=>(bA _ _ _).symm⟩
set_option maxHeartbeats 4000000 in
set_option maxRecDepth 100000 in
theorem Vl:Gl Tryz.prog 142 37 20:=fun w n hm=>by
 have ht:Tryz.prog.underlying 25=some (.slice 37):=by kernel_rfl
 have Us:Tryz.prog.underlying 3=some (.int .i64):=by kernel_rfl
 obtain⟨i0,z0,he⟩:=cw (P:=Tryz.prog) (e:=37) (k:=fE) (by kernel_rfl);have EG:z0.cells.size=20:=he.uX;have zy:i0.size=20:=he.size;have Gh:=he.bytes;unfold fk at hm;by_cases hn:n=0
 ·subst hn;have mH:ob (.slice none 0 0)=none:=rfl
  go_enter Tryz.func142,Tryz.ntmps142
  go_wp2
  go_ret
  exact⟨_,rfl,⟨by simp,.inl ⟨rfl,none,rfl⟩⟩,World.grownBy.refl w _,fun b hb=>by simp[ob]at hb⟩
 ·have lR:n*i0.bytes≤281474976710656:=adC (ae4 hm Gh) (by decide);obtain⟨G,hG⟩:∃G,G=grownCap w n 0 37:=⟨_,rfl⟩;obtain⟨nP,Cx⟩:∃nP,nP=Builtin.zeroCells z0.cells n++Builtin.zeroCells z0.cells (G-n):=⟨_,rfl⟩;obtain⟨W1,ux⟩:∃W1,W1=w.drew.alloc (.cells nP 37):=⟨_,rfl⟩;have PM:∀ty,(Builtin.append_ #[25,3] ty #[.slice none 0 0,.int .i64 n]).run Tryz.prog w=.ok (.slice (some ⟨w.heap.size,0,none⟩) n G) W1:=fun ty=>by rw[ux,Cx,hG];exact Lib.run_append_nil_zeros w 25 3 ty 37 i0 z0 .i64 .i64 ht Us he.info he.zero n (by omega) (by omega) (by omega) lR
  have MH:n≤G:=by rw[hG];exact grownCap_ge w _ _ _
  have Cz:G≤9223372036854775807:=by have:=grownCap_le_maxLen w n 0 37 (by unfold maxLen;omega);rw[←hG]at this;unfold maxLen at this;omega
  have hRs:nP.size=G*20:=by rw[Cx];simp[Builtin.zeroCells,EG];omega
  have sZ:W1.heap[w.heap.size]? = some (.cells nP 37 (0,0)):=by rw[ux];exact(MapKept.heap_alloc w.drew (.cells nP 37)).1
  have vV:∀b,b<w.heap.size→W1.heap[b]? = w.heap[b]? := fun b hb=>by rw[ux];exact(Below.heap_alloc w.drew (.cells nP 37) b hb).trans rfl
  have oK:w.grownBy W1 none:=⟨by rw[ux];rfl,by rw[ux];rfl,by rw[ux];rfl,by have:=(aa3.1 sZ).1;omega,fun k hk _=>vV k hk⟩;clear Cx ux hG;have hn0:¬((n:Int)<0):=by omega
  have ZL:0<(n:Int):=by omega
  have hn2:IntKind.i64.wrap (n:Int)=n:=by rw[IntKind.wrap_i64];omega
  have hG0:¬(G=0):=by omega
  go_enter Tryz.func142,Tryz.ntmps142
  go_wp2_with (at_builtin;refine Lib.wpList_append_run _ rfl _ _ _ _ rfl _ _ rfl rfl _ _ (PM _) ?_)
  go_ret
  refine⟨.slice (some ⟨w.heap.size,0,none⟩) 0 G,rfl,⟨by simp,.inr ⟨w.heap.size,G,nP,rfl,by omega,sZ,by omega,Cz,hRs,by simp⟩⟩,oK,fun b hb=>?_⟩;simp only[ob]at hb;rw[if_neg (by omega)]at hb;cases hb;omega
end Go.Vs
namespace Go.Vs
variable {P:Program}
def zN(P:Program)(g:TypeId→K→Bool):List Field→Nat→K→Bool
 |[],_,_=>false
 |[f],off,k=>(f.name != "_")&&(decide (f.offset=off)&&(decide (P.cellsOf f.type=k.sz)&&g f.type k))
 |f::f'::r,off,.pair a b=>(f.name != "_")&&(decide (f.offset=off)&&(decide (P.cellsOf f.type=a.sz)&&(g f.type a&&zN P g (f'::r) (off+a.sz) b)))
 |_,_,_=>false
def Sq(P:Program):Nat→TypeId→K→Bool
 |0,_,_=>false
 |d+1,t,k =>
  match P.underlying t,k with
  |some (.int a),.int b=>decide (a=b)
  |some .bool,.bool=>true
  |some .string,.str=>true
  |some (.struct fs),.pair a b => !P.stoodInHeld t&&zN P (Sq P d) fs.toList 0 (.pair a b)
  |_,_=>false
def VK(w:World)(Z:Nat→Prop):(k:K)→k.T→Value→Prop
 |.pair a b,x,v=>∃cs:Array Value,v=.agg cs∧aL Z w (.pair a b) x cs.toList
 |.one k,x,v=>False
 |k,x,v=>aL Z w k x [v]
theorem Ap{Z:Nat→Prop}{w:World}{d:Nat}{t:TypeId}{k:K}(hk:Sq P d t k=true)(hc:P.cellsOf t=k.sz){cs:Array Value}{off:Nat}{x:k.T}(hr:aL Z w k x ((cs.toList.drop off).take k.sz)) :
  ∃v,(part t cs off).run P w=.ok v w∧VK w Z k x v:=by
 cases d with
 |zero=>simp[Sq]at hk
 |succ d =>
  have plain:k.sz=1→(P.underlying t).map J9=some false→∃v,(part t cs off).run P w=.ok v w∧aL Z w k x [v]:=fun h1 h2=>by
   rw[h1]at hr;have hl:=hr.len;rw[h1,List.length_take,List.length_drop,Array.length_toList]at hl;have aF:off<cs.size:=by omega
   refine⟨cs[off],?_,?_⟩
   ·simp[part,gm h2,aF]
   ·have:(cs.toList.drop off).take 1=[cs[off]]:=by rw[List.drop_eq_getElem_cons (by simpa using aF)];simp
    rwa [this]at hr
  unfold Sq at hk
  split at hk
  ·rename_i a b hu;exact plain rfl (by rw[hu];rfl)
  ·rename_i hu;exact plain rfl (by rw[hu];rfl)
  ·rename_i hu;exact plain rfl (by rw[hu];rfl)
  ·rename_i fs a b hu;obtain⟨i,hi⟩:=ta hu;refine⟨.agg (cs.extract off (off+P.cellsOf t)),?_,_,rfl,?_⟩
   ·have h2:(P.underlying t).map J9=some true:=by rw[hu];rfl
    simp[part,gm h2,dF hi]
   ·rw[Array.toList_extract,hc];simpa[List.extract] using hr
  ·cases hk
def iV(em:Bool)(d:Nat)(cs:Array Value):List Field→Sem Unit
 |[]=>pure ()
 |f::fs =>
  if f.name≠ "_" then do
   let a ←part f.type cs f.offset
   Instr.checkKey em d f.type a
   iV em d cs fs
  else iV em d cs fs
theorem s5(em:Bool)(w:World)(d:Nat)(t:TypeId)(cs:Array Value)(fs:Array Field)(ht:P.underlying t=some (.struct fs)) :
  (Instr.checkKey em (d+1) t (.agg cs)).run P w=(iV em d cs fs.toList).run P w:=by
 simp only[Instr.checkKey,Sem.run_bind,run_underlying ht,Result.andThen_ok];rw[←Array.forIn_toList];generalize fs.toList=l;clear ht
 induction l generalizing w with
 |nil=>simp[iV]
 |cons f fs ih =>
  simp only[List.forIn_cons,iV,Sem.run_bind,Sem.run_ite]
  split
  ·generalize (part f.type cs f.offset).run P w=r1
   cases r1 with
   |ok a w1 =>
    simp only[Result.andThen_ok];generalize (Instr.checkKey em d f.type a).run P w1=r2
    cases r2 with
    |ok b w2 =>simp only[Result.andThen_ok,Sem.run_pure];exact ih w2
    |halt x w2=>simp[Result.andThen]
   |halt x w1=>simp[Result.andThen]
  ·simp only[Sem.run_pure,Result.andThen_ok];exact ih w
theorem IT{Z:Nat→Prop}{D d:Nat}(em:Bool)(hg:∀t k,Sq P d t k=true→∀(w:World) (x y:k.T) (u v:Value),VK w Z k x u→VK w Z k y v→(Op.equalIn (D+d) t u v).run P w=.ok (rN k x y) w∧(Instr.checkKey em (D+d) t u).run P w=.ok () w)(w:World)(xs ys:Array Value) :
  ∀(fs:List Field) (off:Nat) (k:K),zN P (Sq P d) fs off k=true→∀(x y:k.T),aL Z w k x ((xs.toList.drop off).take k.sz)→aL Z w k y ((ys.toList.drop off).take k.sz) →(Op.eqFields (D+d) xs ys fs).run P w=.ok (rN k x y) w∧(iV em (D+d) xs fs).run P w=.ok () w
 |[],_,_,h,_,_,_,_=>by simp[zN]at h
 |[f],off,k,h,x,y,hx,hy=>by
  have h':f.name≠ "_"∧f.offset=off∧P.cellsOf f.type=k.sz∧Sq P d f.type k=true:=by cases k<;>simpa[zN] using h
  obtain⟨h0,h1,h2,h3⟩:=h';subst h1;obtain⟨u,hu,hu'⟩:=Ap h3 h2 hx;obtain⟨v,hv,A5⟩:=Ap h3 h2 hy;obtain⟨e1,e2⟩:=hg _ _ h3 w x y u v hu' A5;constructor
  ·simp only[Op.eqFields,if_pos h0,Sem.run_bind,hu,hv,e1,Result.andThen_ok]
   cases rN k x y<;>simp
  ·simp[iV,h0,hu,e2]
 |f::f'::r,off,.pair a b,h,x,y,hx,hy=>by
  simp only[zN,Bool.and_eq_true,decide_eq_true_eq,bne_iff_ne,ne_eq]at h;obtain⟨h0,h1,h2,h3,h4⟩:=h;subst h1;simp only[aL,K.sz]at hx hy;obtain⟨us,ws,ex,Sr,hx2⟩:=hx;obtain⟨je,ws',ey,Xi,Xk⟩:=hy;have sp:∀(zs:Array Value) (us ws:List Value),us.length=a.sz→ws.length=b.sz→(zs.toList.drop f.offset).take (a.sz+b.sz)=us++ws→us=(zs.toList.drop f.offset).take a.sz∧ws=(zs.toList.drop (f.offset+a.sz)).take b.sz:=fun zs us ws l1 l2 e=>by
   rw[List.take_add,]at e;have hl:((zs.toList.drop f.offset).take a.sz).length=us.length:=by have:=congrArg List.length e;simp only[List.length_append,List.length_take,List.length_drop]at this ⊢;omega
   obtain⟨e1,e2⟩:=List.append_inj e hl;exact⟨e1.symm,by rw[←e2,List.drop_drop]⟩
  obtain⟨rfl,rfl⟩:=sp xs us ws Sr.len hx2.len ex;obtain⟨rfl,rfl⟩:=sp ys je ws' Xi.len Xk.len ey;obtain⟨u,hu,hu'⟩:=Ap h3 h2 Sr;obtain⟨v,hv,A5⟩:=Ap h3 h2 Xi;obtain⟨e1,e2⟩:=hg _ _ h3 w x.1 y.1 u v hu' A5;obtain⟨e3,e4⟩:=IT em hg w xs ys (f'::r) (f.offset+a.sz) b h4 x.2 y.2 hx2 Xk;constructor
  ·rw[Op.eqFields,if_pos h0];simp only[Sem.run_bind,hu,hv,e1,Result.andThen_ok,Sem.run_ite,e3,rN]
   cases rN a x.1 y.1<;>simp
  ·rw[iV,if_pos h0];simp only[Sem.run_bind,hu,e2,Result.andThen_ok];exact e4
 |f::f'::r,off,.int _,h,_,_,_,_=>by simp[zN]at h
 |f::f'::r,off,.bool,h,_,_,_,_=>by simp[zN]at h
 |f::f'::r,off,.str,h,_,_,_,_=>by simp[zN]at h
 |f::f'::r,off,.sl _,h,_,_,_,_=>by simp[zN]at h
 |f::f'::r,off,.one _,h,_,_,_,_=>by simp[zN]at h
 |f::f'::r,off,.mp _ _,h,_,_,_,_=>by simp[zN]at h
theorem MJ{Z:Nat→Prop}(D:Nat)(em:Bool):∀(d:Nat) (t:TypeId) (k:K),Sq P d t k=true→∀(w:World) (x y:k.T) (u v:Value),VK w Z k x u→VK w Z k y v →(Op.equalIn (D+d) t u v).run P w=.ok (rN k x y) w∧(Instr.checkKey em (D+d) t u).run P w=.ok () w
 |0,_,_,h,_,_,_,_,_,_,_=>by simp[Sq]at h
 |d+1,t,k,h,w,x,y,u,v,hu,hv=>by
  rw[←Nat.add_assoc];unfold Sq at h
  split at h
  ·rename_i a b ht;simp only[decide_eq_true_eq]at h;subst h;simp only[VK,aL,List.cons.injEq,and_true]at hu hv;subst hu;subst hv;exact⟨run_equalIn_int w _ _ _ _ _ _ ht,by simp[Instr.checkKey,run_underlying ht]⟩
  ·rename_i ht;simp only[VK,aL,List.cons.injEq,and_true]at hu hv;subst hu;subst hv;exact⟨run_equalIn_bool' w _ _ _ _ ht,by simp[Instr.checkKey,run_underlying ht]⟩
  ·rename_i ht;simp only[VK,aL,List.cons.injEq,and_true]at hu hv;subst hu;subst hv;exact⟨(run_equalIn_string w _ _ _ _ ht).trans (congrArg (fun b=>Result.ok b w) (beq_toListBytes (show ByteArray from x) (show ByteArray from y)).symm),by simp[Instr.checkKey,run_underlying ht]⟩
  ·rename_i fs a b ht;simp only[Bool.and_eq_true,Bool.not_eq_true']at h;obtain⟨hs,hf⟩:=h;obtain⟨xs,rfl,hx⟩:=hu;obtain⟨ys,rfl,hy⟩:=hv;have PN:P.fieldsOf t=fs:=by simp[Program.fieldsOf,ht]
   have vU:=hx.len;have Dx:=hy.len;obtain⟨e1,e2⟩:=IT (D:=D) (Z:=Z) em (fun t k hk w x y u v hu hv=>MJ D em d t k hk w x y u v hu hv) w xs ys fs.toList 0 (.pair a b) hf x y (by rw[List.drop_zero,List.take_of_length_le (by omega)];exact hx) (by rw[List.drop_zero,List.take_of_length_le (by omega)];exact hy);constructor
   ·rw[run_equalIn_struct w (D+d) t xs ys (by rw[PN];exact ht) hs,PN];exact e1
   ·rw[s5 em w (D+d) t xs fs ht];exact e2
  ·cases h
theorem OE{d:Nat}{t:TypeId}{a b:K}(hd:d≤10000)(hk:Sq P d t (.pair a b)=true)(hg:P.eqGuardType P.depth t=false):lS P t (.pair a b):=fun Z w x y xs ys hx hy=>by
 have e:10000-d+d=10000:=by omega
 have key:=fun em=>MJ (Z:=Z) (10000-d) em d t (.pair a b) hk w x y (.agg xs) (.agg ys) ⟨xs,rfl,hx⟩ ⟨ys,rfl,hy⟩;rw[e]at key;exact⟨(key true).1,fun op p q=>run_eqGuard_agg w op t p q xs ys hg,fun em=>(key em).2⟩
end Go.Vs
namespace Go.Vs
open Go.Proofs
theorem Ss{f:FuncId}{g:aS}(h:Sg f=some g):(f,g)∈sgs:=by
 unfold Sg at h;obtain⟨p,hp,rfl⟩:=adJ.1 h;have h1:=ado hp;have h2:=aeF hp;have:p.1=f:=by simpa using h2
 subst this;exact h1
theorem ln:∀f g,Sg f=some g→jr Tryz.prog (f%1000):=fun f g h=>by
 have hm:=Ss h;have key:(sgs.all fun p=>match Tryz.prog.funcs[p.1%1000]? with|some fn => !(fn.name== "runtime.NumGoroutine")&&fn.body.isSome|none=>false)=true:=by kernel_rfl
 have:=adG.1 key _ hm;simp only at this
 split at this
 ·rename_i fn hf;simp only[Bool.and_eq_true,Bool.not_eq_true']at this;exact⟨fn,hf,this.1,this.2⟩
 ·cases this
theorem sF:Tryz.prog.follows .mixedOrders=true:=by kernel_rfl
theorem CC:∀t k,Eqs t=some k→lS Tryz.prog t k:=fun t k h=>by
 unfold Eqs at h;obtain⟨p,hp,rfl⟩:=adJ.1 h;have h1:=ado hp;have h2:=aeF hp;have e:p.1=t:=by simpa using h2
 subst e;simp only[eqs,List.mem_cons,List.not_mem_nil,or_false]at h1;rcases h1 with rfl|rfl|rfl|rfl|rfl|rfl
 all_goals exact OE (d:=5) (by omega) (by kernel_rfl) (by kernel_rfl)
end Go.Vs
set_option maxRecDepth 1000000
set_option maxHeartbeats 0
namespace Go.Vs
open Go.Proofs
def Vm:aS:={ ps:=[.own],bs:=[.own (.row 52 dq)],rs:=[.own (.row 52 dq)] }
def Vn:aS:={ ps:=[.own],bs:=[.own (.row 118 dM)],rs:=[.own (.row 118 dM)] }
def lp:aS:={ ps:=[.agg 2],bs:=[.own (.row 52 dq),.own (.row 118 dM)],rs:=[.agg [.own (.row 52 dq),.own (.row 118 dM)]] }
def sG(ty:TypeId)(k:K)(h:Heap)(id:Nat):List AV→Option (Bool×bL)
 |[.bK a]=>match dY h (.row ty k) (.bK a) with
  |some xs=>some (aN 0 xs.length,.new (.bK (id+128)) [(id+128,.own (.row ty k) xs)])
  |_=>none
 |_=>none
def ahE:aS:={ ps:=[],bs:=[],rs:=[],x:=some (sG 52 dq) }
def ahF:aS:={ ps:=[],bs:=[],rs:=[],x:=some (sG 118 dM) }
def YA:List (Nat×aS):=[(500127,Vm),(500128,Vn)]
def Xl(f:FuncId):Option aS:=(YA.find? (fun p=>p.1==f)).map (fun p=>p.2)
def YB:List (Nat×aS):=[(110,zK),(500096,lp),(500127,ahE),(500128,ahF)]
def Uu(f:FuncId):Option aS:=(YB.find? (fun p=>p.1==f)).map (fun p=>p.2)
def IU:Shape:=⟨[(14,.int .i64),(15,.int .i64)],[(.slot 2,20000,.box 41 [.own (.row 52 dq),.own (.row 118 dM)]),(.slot 3,20001,.box 41 [.own (.row 52 dq),.own (.row 118 dM)])],[(6,1000,(.row 52 (.pair (.pair (.int .i64) (.int .i64)) (.pair (.sl (.pair (.pair (.int .i64) (.int .i64)) (.int .i64))) (.pair .str (.int .i64)))))),(9,1020,(.row 118 (.pair (.pair (.int .i64) (.int .i64)) (.pair .str (.int .i64)))))],[]⟩
def An0(f:FuncId)(key:Nat):Option Shape:=none
def YC(f:FuncId)(key:Nat):Option Shape:=if f=500096 then(if key=3 then some IU else none) else none
noncomputable def Su(SG:FuncId→Option aS)(AN:FuncId→Nat→Option Shape)(f:FuncId)(g:aS)(fn:Func)(F:FT)(J:JT g)(x:g.A):Option g.B:=aE Tryz.prog Eqs SG F fn.ntmps (AN f) J (qT Tryz.prog g fn) fuel [.code (fn.body.getD .skip)] (entry g x)
noncomputable def YD(SG:FuncId→Option aS)(AN:FuncId→Nat→Option Shape)(f j:Nat)(g:aS)(fn:Func)(sh:Shape)(F:FT)(J:JT g)(x:sh.T):Option g.B:=aE Tryz.prog Eqs SG F fn.ntmps (AN f) J (qT Tryz.prog g fn) fuel (round (aO Tryz.prog (f%1000) j)) (ar sh x)
theorem acy(F:FT)(J:JT Vm)(x:(Unit×((List ah)×Unit))):Su Xl An0 500127 Vm Tryz.f127 F J x = cond (List.isEmpty x.2.1) (sW 2 fun(j1:Nat) =>cond ((j1==0)==true) (some ((([]:List ah),()),x.2)) (cond (aN (List.length ([]:List ah)) (List.length x.2.1)) (some (((([]:List ah)++x.2.1),()),x.2)) (none))) (cond (aN (List.length ([]:List ah)) (List.length x.2.1)) (some (((([]:List ah)++x.2.1),()),x.2)) (none)):=by kernel_rfl
theorem acz(F:FT)(J:JT Vn)(x:(Unit×((List ai)×Unit))):Su Xl An0 500128 Vn Tryz.f128 F J x = cond (List.isEmpty x.2.1) (sW 2 fun(j1:Nat) =>cond ((j1==0)==true) (some ((([]:List ai),()),x.2)) (cond (aN (List.length ([]:List ai)) (List.length x.2.1)) (some (((([]:List ai)++x.2.1),()),x.2)) (none))) (cond (aN (List.length ([]:List ai)) (List.length x.2.1)) (some (((([]:List ai)++x.2.1),()),x.2)) (none)):=by kernel_rfl
theorem acA(F:FT)(J:JT zK)(x:(((List ae)×Unit)×Unit)):Su Uu YC 110 zK Tryz.f110 F J x = cond (List.isEmpty x.1.1) (sW 2 fun(j1:Nat) =>cond ((j1==0)==true) (some ((([]:List ae),()),())) (cond (aN (List.length ([]:List ae)) (List.length x.1.1)) (some (((([]:List ae)++x.1.1),()),())) (none))) (cond (aN (List.length ([]:List ae)) (List.length x.1.1)) (some (((([]:List ae)++x.1.1),()),())) (none)):=by kernel_rfl
theorem acB(F:FT)(J:JT lp)(x:(Unit×((List ah)×((List ai)×Unit)))):Su Uu YC 500096 lp Tryz.f96 F J x = cond (aN 0 (List.length x.2.1)) (cond (aN 0 (List.length x.2.2.1)) (J IU (aO Tryz.prog 96 0) (((((List.length x.2.1):Nat):Int),((0:Int),())),(((([]:List ah),(([]:List ai),())),((x.2.1,x.2.2),())),(x.2.1,x.2.2)))) (none)) (none):=by kernel_rfl
theorem MK(F:FT)(J:JT lp)(x:((Int×(Int×Unit))×((((List ah)×((List ai)×Unit))×(((List ah)×((List ai)×Unit))×Unit))×((List ah)×((List ai)×Unit))))):YD Uu YC 500096 0 lp Tryz.f96 IU F J x = cond (decide (x.1.2.1<x.1.1)) (cond ((decide ((0:Int)≤x.1.2.1))&&(decide (x.1.2.1<(((List.length x.2.1.2.1.1):Nat):Int)))) (((x.2.1.2.1.1)[(Int.toNat x.1.2.1)]?).bind fun(y1:ah) =>(F 110 zK ((y1.2.1,()),())).bind fun(y2:(((List ae)×Unit)×Unit)) =>cond ((decide ((0:Int)≤x.1.2.1))&&(decide (x.1.2.1<(((List.length x.2.1.2.1.1):Nat):Int)))) (((x.2.1.2.1.1)[(Int.toNat x.1.2.1)]?).bind fun(y3:ah) =>J IU (aO Tryz.prog 96 0) ((x.1.1,((IntKind.wrap .i64 (x.1.2.1+(1:Int))),())),(((x.2.1.1.1,x.2.1.1.2),(((List.set x.2.1.2.1.1 (Int.toNat x.1.2.1) (y3.1,(y2.1.1,y3.2.2))),x.2.1.2.1.2),())),(x.2.2.1,x.2.2.2)))) (none)) (none)) (some (((x.2.1.2.1.1,x.2.1.2.1.2),()),(x.2.2.1,x.2.2.2))):=by kernel_rfl
end Go.Vs
namespace Go.Vs
open Go.Proofs
variable {P:Program}
theorem tD{f:FuncId}{ty:TypeId}{k:K}(hf:f%1000=f)(hc:∀(xs:List k.T),aN 0 xs.length=true→Ej P f ⟨[.own],[.own (.row ty k)],[.own (.row ty k)],none⟩ ((),(xs,())) ((xs,()),(xs,()))):iF P f (sG ty k):=by
 intro Z ψ h w B0 O N hh id e vs us g hB bE hN bz nT tR FB he;unfold sG at he
 split at he
 rotate_left
 ·cases he
 rename_i a
 split at he
 rotate_left
 ·cases he
 rename_i xs yy;simp only[Option.some.injEq,Prod.mk.injEq]at he;obtain⟨lT,rfl⟩:=he;have ha:h a=some (.own (.row ty k) xs):=bE _ _ (jT yy);have K5:h a≠none:=by rw[ha];simp
 simp only[aq,aC]at tR;obtain⟨v1,_,rfl,⟨_,ti⟩,rfl⟩:=tR;have ti:=ti K5;subst ti;simp only[aG,aM]at FB;have ZW:N (id+128):=hN 128 (by omega);have na:¬N a:=FB.1;have a0:a≠id+128:=fun e=>na (e▸ZW)
 let ψ0:Nat→Value:=fun i=>if i=1000 then ψ a else ψ i
 have p0:ψ0 1000=ψ a:=if_pos rfl
 let g0:aS:=⟨[.own],[.own (.row ty k)],[.own (.row ty k)],none⟩
 have qB:pM g0 ((),(xs,()))=Heap.get [(1000,.own (.row ty k) xs)]:=rfl;have i0:pM g0 ((),(xs,())) 1000=some (.own (.row ty k) xs):=rfl;have iN:∀i,pM g0 ((),(xs,())) i≠none→i=1000:=fun i hi=>by
  by_cases e0:i=1000
  ·exact e0
  rw[qB]at hi;simp[Heap.get,Ne.symm e0]at hi
 have Vo:∀q,Own ψ0 (pM g0 ((),(xs,()))) q→ob (ψ a)=some q:=fun q ⟨i,h1,h2⟩=>by have:=iN i h1;subst this;rw[←p0];exact h2
 have oh:∀q,Own ψ0 (pM g0 ((),(xs,()))) q→Own ψ h q:=fun q hq=>⟨a,K5,Vo q hq⟩;have G0:Good Z ψ0 (pM g0 ((),(xs,()))) w w.heap.size (Own ψ0 (pM g0 ((),(xs,())))):=by
  refine⟨fun i ty cs k=>?_,fun i ok x k=>?_,fun i q h1 h2=>⟨fun hz=>?_,.inr ⟨i,h1,h2⟩⟩,fun i j q h1 h2 h3 h4=>?_,g.jP⟩
  ·have:=iN i (by rw[k];simp);subst this;rw[i0]at k;cases k
  ·have:=iN i (by rw[k];simp);subst this;rw[i0]at k;cases k;rw[p0];exact g.row a _ _ ha
  ·have:=iN i h1;subst this;rw[p0]at h2;exact(g.live a q K5 h2).1 hz
  ·rw[iN i h1,iN j h2]
 have c0:(ψ a).cells=#[ψ a]∧(ψ a).oneCell'=true:=(g.row a _ _ ha).one;have R0:aq Z ψ0 (pM g0 ((),(xs,()))) w (FE g0 ((),(xs,()))) [ψ a]:=by show aq Z ψ0 (pM g0 ((),(xs,()))) w [.bK 1000] [ψ a];simp only[aq,aC];exact⟨ψ a,[],rfl,⟨c0,fun _=>p0.symm⟩,rfl⟩
 have ZX:=hc xs lT Z ψ0 w [ψ a] G0 R0;rw[hf]at ZX;refine ZX.mono fun en w' ⟨V,Z',ψ',e1,zs,zf,kp,gd,bR,hr⟩=>?_;have q0:ψ' 1000=ψ a:=(bR 1000 (by show 1000∈[1000];simp)).trans p0;have o0:(jV g0 ((xs,()),(xs,()))).get 1000=some (.own (.row ty k) xs):=rfl;have o2:(jV g0 ((xs,()),(xs,()))).get 3000=some (.own (.row ty k) xs):=rfl;have gd:Good Z' ψ' (jV g0 ((xs,()),(xs,()))).get w' w.heap.size (Own ψ0 (pM g0 ((),(xs,())))):=gd;have hr:aC Z' ψ' (jV g0 ((xs,()),(xs,()))).get w' (.bK 3000) V:=hr;generalize (jV g0 ((xs,()),(xs,()))).get=out at *;have keep:dh ψ h w w':=⟨kp.os,kp.tape,kp.output,kp.size,fun q hq hn=>kp.block q hq fun ho=>hn (oh q ho)⟩;have sm:cz Z w w':=keep.same g;have cW:∀i q,i≠a→h i≠none→ob (ψ i)=some q→w'.heap[q]? = w.heap[q]? := fun i q k1 h1 h2 =>kp.block q (g.bT ⟨i,h1,h2⟩) fun ho=>k1 (g.apart i a q h1 K5 h2 (Vo q ho))
 let eg:Nat→Value:=fun i=>if i=id+128 then ψ' 3000 else ψ i
 let H:Hp:=(bL.new (.bK (id+128)) [(id+128,.own (.row ty k) xs)]).hp h
 have s0:eg (id+128)=ψ' 3000:=if_pos rfl;have sn:∀i,i≠id+128→eg i=ψ i:=fun i k1=>if_neg k1;have H0:H (id+128)=some (.own (.row ty k) xs):=by show(bL.hp h _) _=_;simp[bL.hp,Heap.get]
 have Hn:∀i,i≠id+128→H i=h i:=fun i k1=>by show(bL.hp h _) _=_;simp[bL.hp,Heap.get,Ne.symm k1]
 have two:∀q,ob (ψ' 3000)=some q→¬Z' q∧(w.heap.size≤q∨ob (ψ a)=some q):=fun q h2=>by obtain⟨h3,h4⟩:=gd.live 3000 q (by rw[o2];simp) h2;exact⟨h3,h4.imp (fun h=>h) (Vo q)⟩
 have one:∀q,ob (ψ a)=some q→¬Z' q:=fun q h2=>(gd.live 1000 q (by rw[o0];simp) (by rw[q0];exact h2)).1;have Vp:∀q,ob (ψ' 3000)=some q→ob (ψ a)=some q→False:=fun q h2 h3=>by have:=gd.apart 3000 1000 q (by rw[o2];simp) (by rw[o0];simp) h2 (by rw[q0];exact h3);omega
 have fresh:∀q,ob (ψ' 3000)=some q→w.heap.size≤q:=fun q h2=>(two q h2).2.resolve_right (Vp q h2);have ids:∀i,H i≠none→(h i≠none∧eg i=ψ i)∨N i:=fun i hi=>by
  by_cases k1:i=id+128
  ·exact .inr (k1▸ZW)
  ·rw[Hn i k1]at hi;exact .inl ⟨hi,sn i k1⟩
 have live:∀i q,i≠id+128→h i≠none→ob (ψ i)=some q→¬Z' q:=fun i q k1 h1 h2 hz=>by
  by_cases k3:i=a
  ·subst k3;exact one q h2 hz
  rcases zf q hz with k|k|k
  ·exact(g.live i q h1 h2).1 k
  ·exact k3 (g.apart i a q h1 K5 h2 (Vo q k))
  ·have:=g.bT ⟨i,h1,h2⟩;omega
 refine⟨V,Z',eg,e1,⟨zs,fun q hq=>(zf q hq).imp (fun h=>h) fun k=>k.imp (oh q) fun h=>h,keep,ids,⟨fun i zr cs k=>?_,fun i ok x k=>?_,fun i q h1 h2=>?_,fun i j q h1 h2 h3 h4=>?_,gd.jP⟩⟩,?_⟩
 ·have k1:i≠id+128:=fun e=>by rw[e]at k;have k:H (id+128)=some (.box zr cs):=k;rw[H0]at k;cases k
  have k3:i≠a:=fun e=>by rw[e]at k;have k:H a=some (.box zr cs):=k;rw[(Hn a a0).trans ha]at k;cases k
  have qz:h i=some (.box zr cs):=(Hn i k1).symm.trans k;obtain⟨gg,vs,f1,f2,f3,f4⟩:=g.box i zr cs qz;exact⟨gg,vs,(sn i k1).trans f1,(cW i gg k3 (by rw[qz];simp) (by rw[f1];rfl)).trans f2,f3.move zs sm (fun j hj bw=>(ids j bw).resolve_right hj) (bz i zr cs qz),f4⟩
 ·by_cases k1:i=id+128
  ·subst k1;have k:H (id+128)=some (.own ok x):=k;rw[H0]at k;cases k;rw[s0];exact gd.row 3000 _ _ o2
  have qz:h i=some (.own ok x):=(Hn i k1).symm.trans k;rw[sn i k1];by_cases k3:i=a
  ·subst k3;rw[ha]at qz;cases qz;rw[←q0];exact gd.row 1000 _ _ o0
  exact(g.row i ok x qz).kept zs sm fun q hq=>cW i q k3 (by rw[qz];simp) hq
 ·by_cases k1:i=id+128
  ·subst k1;have h2:ob (eg (id+128))=some q:=h2;rw[s0]at h2;exact⟨(two q h2).1,.inl (adC hB (fresh q h2))⟩
  ·have h1:h i≠none:=by rw[←Hn i k1];exact h1
   rw[sn i k1]at h2;exact⟨live i q k1 h1 h2,(g.live i q h1 h2).2⟩
 ·have lt:∀j,j≠id+128→H j≠none→ob (eg j)=some q→q<w.heap.size:=fun j k1 k2 k3=>by rw[Hn j k1]at k2;rw[sn j k1]at k3;exact g.bT ⟨j,k2,k3⟩
  by_cases k1:i=id+128<;>by_cases k2:j=id+128
  ·exact k1.trans k2.symm
  ·subst k1;have h3:ob (eg (id+128))=some q:=h3;rw[s0]at h3;have:=fresh q h3;have:=lt j k2 h2 h4;omega
  ·subst k2;have h4:ob (eg (id+128))=some q:=h4;rw[s0]at h4;have:=fresh q h4;have:=lt i k1 h1 h3;omega
  ·rw[sn i k1]at h3;rw[sn j k2]at h4;exact g.apart i j q (by rw[←Hn i k1];exact h1) (by rw[←Hn j k2];exact h2) h3 h4
 ·simp only[aC]at hr;show aC Z' eg H w' (.bK (id+128)) V;simp only[aC];exact⟨hr.1,fun _=>(hr.2 (by rw[o2];simp)).trans s0.symm⟩
theorem Gm(hc:∀(xs:List dq.T) (ys:List dM.T),pR xs ys=true→Ej P 96 lp ((),(xs,(ys,()))) (((xs,(ys,())),()),(xs,(ys,())))):iF P 96 FU:=by
 intro Z ψ h w B0 O N hh id e vs us g hB bE hN bz nT tR FB he;unfold FU at he
 split at he
 rotate_left
 ·cases he
 rename_i a b
 split at he
 rotate_left
 ·cases he
 rename_i xs ys yy NF
 split at he
 ·cases he
 rename_i mJ;simp only[Option.some.injEq,Prod.mk.injEq]at he;obtain⟨lT,rfl⟩:=he;have ha:h a=some (.own (.row 52 dq) xs):=bE _ _ (jT yy);have hb:h b=some (.own (.row 118 dM) ys):=bE _ _ (jT NF);have K5:h a≠none:=by rw[ha];simp
 have Gh:h b≠none:=by rw[hb];simp
 simp only[aq,aC]at tR;obtain⟨v,_,rfl,⟨cs,rfl,v1,_,Nx,⟨_,ti⟩,v2,_,rfl,⟨_,yw⟩,rfl⟩,rfl⟩:=tR;have ti:=ti K5;have yw:=yw Gh;subst ti yw;simp only[aG,aM]at FB;have ZW:N (id+128):=hN 128 (by omega);have nR1:N (id+129):=hN 129 (by omega);have na:¬N a:=FB.1.1;have nb:¬N b:=FB.1.2.1;have a0:a≠id+128:=fun e=>na (e▸ZW);have a1:a≠id+129:=fun e=>na (e▸nR1);have b0:b≠id+128:=fun e=>nb (e▸ZW);have b1:b≠id+129:=fun e=>nb (e▸nR1)
 let ψ0:Nat→Value:=fun i=>if i=1000 then ψ a else if i=1020 then ψ b else ψ i
 have p0:ψ0 1000=ψ a:=if_pos rfl;have p1:ψ0 1020=ψ b:=(if_neg (by decide)).trans (if_pos rfl);have qB:pM lp ((),(xs,(ys,())))=Heap.get [(1000,.own (.row 52 dq) xs),(1020,.own (.row 118 dM) ys)]:=rfl;have i0:pM lp ((),(xs,(ys,()))) 1000=some (.own (.row 52 dq) xs):=rfl;have i1:pM lp ((),(xs,(ys,()))) 1020=some (.own (.row 118 dM) ys):=rfl;have iN:∀i,pM lp ((),(xs,(ys,()))) i≠none→i=1000∨i=1020:=fun i hi=>by
  by_cases e0:i=1000
  ·exact .inl e0
  by_cases e1:i=1020
  ·exact .inr e1
  rw[qB]at hi;simp[Heap.get,Ne.symm e0,Ne.symm e1]at hi
 have Vo:∀q,Own ψ0 (pM lp ((),(xs,(ys,())))) q→ob (ψ a)=some q∨ob (ψ b)=some q:=fun q ⟨i,h1,h2⟩=>by
  rcases iN i h1 with rfl|rfl
  ·exact .inl (by rw[←p0];exact h2)
  ·exact .inr (by rw[←p1];exact h2)
 have oh:∀q,Own ψ0 (pM lp ((),(xs,(ys,())))) q→Own ψ h q:=fun q hq=>(Vo q hq).elim (fun k=>⟨a,K5,k⟩) fun k=>⟨b,Gh,k⟩;have G0:Good Z ψ0 (pM lp ((),(xs,(ys,())))) w w.heap.size (Own ψ0 (pM lp ((),(xs,(ys,()))))):=by
  refine⟨fun i ty cs k=>?_,fun i ok x k=>?_,fun i q h1 h2=>⟨fun hz=>?_,.inr ⟨i,h1,h2⟩⟩,fun i j q h1 h2 h3 h4=>?_,g.jP⟩
  ·rcases iN i (by rw[k];simp) with rfl|rfl
   ·rw[i0]at k;cases k
   ·rw[i1]at k;cases k
  ·rcases iN i (by rw[k];simp) with rfl|rfl
   ·rw[i0]at k;cases k;rw[p0];exact g.row a _ _ ha
   ·rw[i1]at k;cases k;rw[p1];exact g.row b _ _ hb
  ·rcases iN i h1 with rfl|rfl
   ·rw[p0]at h2;exact(g.live a q K5 h2).1 hz
   ·rw[p1]at h2;exact(g.live b q Gh h2).1 hz
  ·rcases iN i h1 with rfl|rfl<;>rcases iN j h2 with rfl|rfl
   ·rfl
   ·rw[p0]at h3;rw[p1]at h4;exact absurd (g.apart a b q K5 Gh h3 h4) mJ
   ·rw[p1]at h3;rw[p0]at h4;exact absurd (g.apart a b q K5 Gh h4 h3) mJ
   ·rfl
 have c0:(ψ a).cells=#[ψ a]∧(ψ a).oneCell'=true:=(g.row a _ _ ha).one;have c1:(ψ b).cells=#[ψ b]∧(ψ b).oneCell'=true:=(g.row b _ _ hb).one;have R0:aq Z ψ0 (pM lp ((),(xs,(ys,())))) w (FE lp ((),(xs,(ys,())))) [.agg cs]:=by show aq Z ψ0 (pM lp ((),(xs,(ys,())))) w [.agg [.bK 1000,.bK 1020]] [.agg cs];simp only[aq,aC];exact⟨.agg cs,[],rfl,⟨cs,rfl,ψ a,[ψ b],Nx,⟨c0,fun _=>p0.symm⟩,ψ b,[],rfl,⟨c1,fun _=>p1.symm⟩,rfl⟩,rfl⟩
 refine(hc xs ys lT Z ψ0 w [.agg cs] G0 R0).mono fun en w' ⟨V,Z',ψ',e1,zs,zf,kp,gd,bR,hr⟩=>?_;have q0:ψ' 1000=ψ a:=(bR 1000 (by show 1000∈[1000,1020];simp)).trans p0;have q1:ψ' 1020=ψ b:=(bR 1020 (by show 1020∈[1000,1020];simp)).trans p1;have o0:(jV lp (((xs,(ys,())),()),(xs,(ys,())))).get 1000=some (.own (.row 52 dq) xs):=rfl;have o1:(jV lp (((xs,(ys,())),()),(xs,(ys,())))).get 1020=some (.own (.row 118 dM) ys):=rfl;have o2:(jV lp (((xs,(ys,())),()),(xs,(ys,())))).get 3000=some (.own (.row 52 dq) xs):=rfl;have o3:(jV lp (((xs,(ys,())),()),(xs,(ys,())))).get 3001=some (.own (.row 118 dM) ys):=rfl;generalize (jV lp (((xs,(ys,())),()),(xs,(ys,())))).get=out at *;have keep:dh ψ h w w':=⟨kp.os,kp.tape,kp.output,kp.size,fun q hq hn=>kp.block q hq fun ho=>hn (oh q ho)⟩;have sm:cz Z w w':=keep.same g;have cW:∀i q,i≠a→i≠b→h i≠none→ob (ψ i)=some q→w'.heap[q]? = w.heap[q]? := fun i q k1 k2 h1 h2 =>kp.block q (g.bT ⟨i,h1,h2⟩) fun ho=>(Vo q ho).elim (fun k=>k1 (g.apart i a q h1 K5 h2 k)) fun k=>k2 (g.apart i b q h1 Gh h2 k)
 let κ:Nat→Nat:=fun i=>if i=id+128 then 3000 else if i=id+129 then 3001 else if i=a then 1000 else 1020
 let Uv:Nat→Prop:=fun i=>i=id+128∨i=id+129∨i=a∨i=b
 let eg:Nat→Value:=fun i=>if i=id+128 then ψ' 3000 else if i=id+129 then ψ' 3001 else ψ i
 let H:Hp:=(bL.new (.agg [.bK (id+128),.bK (id+129)]) [(id+128,.own (.row 52 dq) xs),(id+129,.own (.row 118 dM) ys)]).hp h
 have s0:eg (id+128)=ψ' 3000:=if_pos rfl;have s1:eg (id+129)=ψ' 3001:=(if_neg (by omega)).trans (if_pos rfl);have sn:∀i,i≠id+128→i≠id+129→eg i=ψ i:=fun i k1 k2=>(if_neg k1).trans (if_neg k2);have H0:H (id+128)=some (.own (.row 52 dq) xs):=by show(bL.hp h _) _=_;simp[bL.hp,Heap.get]
 have H1:H (id+129)=some (.own (.row 118 dM) ys):=by show(bL.hp h _) _=_;simp[bL.hp,Heap.get]
 have Hn:∀i,i≠id+128→i≠id+129→H i=h i:=fun i k1 k2=>by show(bL.hp h _) _=_;simp[bL.hp,Heap.get,Ne.symm k1,Ne.symm k2]
 have Ha:H a=some (.own (.row 52 dq) xs):=(Hn a a0 a1).trans ha;have Hb:H b=some (.own (.row 118 dM) ys):=(Hn b b0 b1).trans hb;have kap:∀i,Uv i→out (κ i)≠none∧ψ' (κ i)=eg i:=fun i hi=>by
  rcases hi with rfl|rfl|rfl|rfl
  ·have:κ (id+128)=3000:=if_pos rfl;rw[this,o2,s0];exact⟨by simp,rfl⟩
  ·have:κ (id+129)=3001:=(if_neg (by omega)).trans (if_pos rfl);rw[this,o3,s1];exact⟨by simp,rfl⟩
  ·have:κ i=1000:=(if_neg a0).trans ((if_neg a1).trans (if_pos rfl));rw[this,o0,q0,sn i a0 a1];exact⟨by simp,rfl⟩
  ·have:κ i=1020:=(if_neg b0).trans ((if_neg b1).trans (if_neg (fun k=>mJ k.symm)));rw[this,o1,q1,sn i b0 b1];exact⟨by simp,rfl⟩
 have ahI:∀i j,Uv i→Uv j→κ i=κ j→i=j:=fun i j hi hj hk=>by have v1:κ (id+128)=3000:=if_pos rfl;have v2:κ (id+129)=3001:=(if_neg (by omega)).trans (if_pos rfl);have v3:κ a=1000:=(if_neg a0).trans ((if_neg a1).trans (if_pos rfl));have v4:κ b=1020:=(if_neg b0).trans ((if_neg b1).trans (if_neg (fun k=>mJ k.symm)));rcases hi with rfl|rfl|rfl|rfl<;>rcases hj with rfl|rfl|rfl|rfl<;>first|rfl|(rw[v1]at hk;first|(rw[v2]at hk;cases hk)|(rw[v3]at hk;cases hk)|(rw[v4]at hk;cases hk))|(rw[v2]at hk;first|(rw[v1]at hk;cases hk)|(rw[v3]at hk;cases hk)|(rw[v4]at hk;cases hk))|(rw[v3,v4]at hk;cases hk)|(rw[v4,v3]at hk;cases hk)
 have back:∀i q,Uv i→ob (eg i)=some q→¬Z' q∧(w.heap.size≤q∨ob (ψ a)=some q∨ob (ψ b)=some q):=fun i q hi h2=>by obtain⟨k1,k2⟩:=kap i hi;rw[←k2]at h2;obtain⟨h3,h4⟩:=gd.live (κ i) q k1 h2;exact⟨h3,h4.imp (fun h=>h) (Vo q)⟩
 have rest:∀i,¬Uv i→i≠id+128∧i≠id+129∧i≠a∧i≠b:=fun i hi=>⟨fun k=>hi (.inl k),fun k=>hi (.inr (.inl k)),fun k=>hi (.inr (.inr (.inl k))),fun k=>hi (.inr (.inr (.inr k)))⟩;have mixed:∀i j q,Uv i→¬Uv j→h j≠none→ob (eg i)=some q→ob (ψ j)=some q→False:=fun i j q hi hj h2 h3 h4=>by
  obtain⟨_,_,k3,k4⟩:=rest j hj;rcases (back i q hi h3).2 with k|k|k
  ·have:=g.bT ⟨j,h2,h4⟩;omega
  ·exact k3 (g.apart j a q h2 K5 h4 k)
  ·exact k4 (g.apart j b q h2 Gh h4 k)
 have ids:∀i,H i≠none→(h i≠none∧eg i=ψ i)∨N i:=fun i hi=>by
  by_cases k1:i=id+128
  ·exact .inr (k1▸ZW)
  by_cases k2:i=id+129
  ·exact .inr (k2▸nR1)
  ·rw[Hn i k1 k2]at hi;exact .inl ⟨hi,sn i k1 k2⟩
 refine⟨V,Z',eg,e1,⟨zs,fun q hq=>(zf q hq).imp (fun h=>h) fun k=>k.imp (oh q) fun h=>h,keep,ids,⟨fun i ty cs k=>?_,fun i ok x k=>?_,fun i q h1 h2=>?_,fun i j q h1 h2 h3 h4=>?_,gd.jP⟩⟩,?_⟩
 ·have k1:i≠id+128:=fun e=>by rw[e]at k;have k:H (id+128)=some (.box ty cs):=k;rw[H0]at k;cases k
  have k2:i≠id+129:=fun e=>by rw[e]at k;have k:H (id+129)=some (.box ty cs):=k;rw[H1]at k;cases k
  have k3:i≠a:=fun e=>by rw[e]at k;have k:H a=some (.box ty cs):=k;rw[Ha]at k;cases k
  have k4:i≠b:=fun e=>by rw[e]at k;have k:H b=some (.box ty cs):=k;rw[Hb]at k;cases k
  have qz:h i=some (.box ty cs):=(Hn i k1 k2).symm.trans k;obtain⟨gg,vs,f1,f2,f3,f4⟩:=g.box i ty cs qz;exact⟨gg,vs,(sn i k1 k2).trans f1,(cW i gg k3 k4 (by rw[qz];simp) (by rw[f1];rfl)).trans f2,f3.move zs sm (fun j hj bw=>(ids j bw).resolve_right hj) (bz i ty cs qz),f4⟩
 ·by_cases k1:i=id+128
  ·subst k1;have k:H (id+128)=some (.own ok x):=k;rw[H0]at k;cases k;rw[s0];exact gd.row 3000 _ _ o2
  by_cases k2:i=id+129
  ·subst k2;have k:H (id+129)=some (.own ok x):=k;rw[H1]at k;cases k;rw[s1];exact gd.row 3001 _ _ o3
  have qz:h i=some (.own ok x):=(Hn i k1 k2).symm.trans k;rw[sn i k1 k2];by_cases k3:i=a
  ·subst k3;rw[ha]at qz;cases qz;rw[←q0];exact gd.row 1000 _ _ o0
  by_cases k4:i=b
  ·subst k4;rw[hb]at qz;cases qz;rw[←q1];exact gd.row 1020 _ _ o1
  exact(g.row i ok x qz).kept zs sm fun q hq=>cW i q k3 k4 (by rw[qz];simp) hq
 ·by_cases h4:Uv i
  ·obtain⟨k1,k2⟩:=back i q h4 h2;refine⟨k1,?_⟩;rcases k2 with k|k|k
   ·exact .inl (adC hB k)
   ·exact(g.live a q K5 k).2
   ·exact(g.live b q Gh k).2
  ·obtain⟨r1,r2,r3,r4⟩:=rest i h4;have h1:h i≠none:=by rw[←Hn i r1 r2];exact h1
   rw[sn i r1 r2]at h2;refine⟨fun hz=>?_,(g.live i q h1 h2).2⟩;rcases zf q hz with k|k|k
   ·exact(g.live i q h1 h2).1 k
   ·rcases Vo q k with k|k
    ·exact r3 (g.apart i a q h1 K5 h2 k)
    ·exact r4 (g.apart i b q h1 Gh h2 k)
   ·have:=g.bT ⟨i,h1,h2⟩;omega
 ·by_cases hi:Uv i<;>by_cases hj:Uv j
  ·obtain⟨k1,k2⟩:=kap i hi;obtain⟨k3,k4⟩:=kap j hj;rw[←k2]at h3;rw[←k4]at h4;exact ahI i j hi hj (gd.apart _ _ q k1 k3 h3 h4)
  ·obtain⟨r1,r2,r3,r4⟩:=rest j hj;rw[sn j r1 r2]at h4;exact(mixed i j q hi hj (by rw[←Hn j r1 r2];exact h2) h3 h4).elim
  ·obtain⟨r1,r2,r3,r4⟩:=rest i hi;rw[sn i r1 r2]at h3;exact(mixed j i q hj hi (by rw[←Hn i r1 r2];exact h1) h4 h3).elim
  ·obtain⟨r1,r2,_,_⟩:=rest i hi;obtain⟨t1,t2,_,_⟩:=rest j hj;rw[sn i r1 r2]at h3;rw[sn j t1 t2]at h4;exact g.apart i j q (by rw[←Hn i r1 r2];exact h1) (by rw[←Hn j t1 t2];exact h2) h3 h4
 ·have hr:aC Z' ψ' out w' (.agg [.bK 3000,.bK 3001]) V:=hr;simp only[aC,aq]at hr;obtain⟨vs,rfl,u1,_,tR,⟨d1,d2⟩,u2,_,rfl,⟨d3,d4⟩,rfl⟩:=hr;show aC Z' eg H w' (.agg [.bK (id+128),.bK (id+129)]) (.agg vs);simp only[aC,aq];exact⟨vs,rfl,u1,[u2],tR,⟨d1,fun _=>(d2 (by rw[o2];simp)).trans s0.symm⟩,u2,[],rfl,⟨d3,fun _=>(d4 (by rw[o3];simp)).trans s1.symm⟩,rfl⟩
end Go.Vs
namespace Go.Vs
open Go.Proofs
abbrev Vq:(f:FuncId)→(g:aS)→Option (g.A→Option g.B):=fun _ _=>none
section
variable (SG:FuncId→Option aS) (AN:FuncId→Nat→Option Shape)
noncomputable abbrev Vr:FT:=Fix Tryz.prog Eqs SG AN Vq
noncomputable abbrev LXG(f:FuncId)(g:aS)(fn:Func):JT g:=Lp Tryz.prog Eqs SG AN Vq f g fn
end
theorem Gn{SG:FuncId→Option aS}{AN:FuncId→Nat→Option Shape}{f:FuncId}{g:aS}{fn:Func}{x:g.A}{y:g.B}(hb:body Tryz.prog (f%1000)=some (fn,fn.body.getD .skip))(hc:(decide (g.ps.length≤fn.ntmps)&&decide (g.bs.length≤8))=true) (h:Su SG AN f g fn (Vr SG AN) (LXG SG AN f g fn) x=some y):Vr SG AN f g x=some y:=Mg rfl hb hc h
theorem Sw{SG:FuncId→Option aS}{AN:FuncId→Nat→Option Shape}{f j:Nat}{g:aS}{fn:Func}{sh:Shape}{x:sh.T}{y:g.B}(hs:(match aO Tryz.prog (f%1000) j with | .inLoop _::_=>true|_=>false)=true)
  (h:YD SG AN f j g fn sh (Vr SG AN) (LXG SG AN f g fn) x=some y):LXG SG AN f g fn sh (aO Tryz.prog (f%1000) j) x=some y:=by
 unfold YD at h;generalize aO Tryz.prog (f%1000) j=s at hs h ⊢
 split at hs
 ·exact QY h
 ·cases hs
theorem Sx{α β:Type}{o:Option α}{f:α→Option β}{a:α}{r:Option β}(h:o=some a)(k:f a=r):o.bind f=r:=by rw[h];exact k
theorem CD{α:Type}{c:Bool}{x y r:α}(h:c=true)(k:x=r):cond c x y=r:=by subst h;exact k
theorem Vt{α:Type}{c:Bool}{x y r:α}(h:c=false)(k:y=r):cond c x y=r:=by subst h;exact k
theorem Sy{R:Type}{f:Nat→Option R}{r:R}(h0:f 0=some r)(h1:f 1=some r):sW 2 f=some r :=nc (by omega) fun j hj=>by
  rcases j with _|_|j
  ·exact h0
  ·exact h1
  ·omega
theorem acC(xs:List ah)(h:aN 0 xs.length=true):Vr Xl An0 500127 Vm ((),(xs,()))=some ((xs,()),(xs,())):=by
 refine Gn (fn:=Tryz.f127) (by kernel_rfl) (by kernel_rfl) ((acy _ _ _).trans ?_)
 cases xs with
 |nil=>exact CD rfl (Sy rfl rfl)
 |cons x r=>exact Vt rfl (CD h rfl)
theorem acD(xs:List ai)(h:aN 0 xs.length=true):Vr Xl An0 500128 Vn ((),(xs,()))=some ((xs,()),(xs,())):=by
 refine Gn (fn:=Tryz.f128) (by kernel_rfl) (by kernel_rfl) ((acz _ _ _).trans ?_)
 cases xs with
 |nil=>exact CD rfl (Sy rfl rfl)
 |cons x r=>exact Vt rfl (CD h rfl)
theorem ML{f:FuncId}{g:aS}(h:Xl f=some g):(f,g)∈YA:=by
 unfold Xl at h;obtain⟨p,hp,rfl⟩:=adJ.1 h;have h1:=ado hp;have h2:=aeF hp;have:p.1=f:=by simpa using h2
 subst this;exact h1
theorem MM{f:FuncId}{g:aS}(h:Uu f=some g):(f,g)∈YB:=by
 unfold Uu at h;obtain⟨p,hp,rfl⟩:=adJ.1 h;have h1:=ado hp;have h2:=aeF hp;have:p.1=f:=by simpa using h2
 subst this;exact h1
noncomputable def K6(l:List (Nat×aS)):Bool:=l.all fun p=>match Tryz.prog.funcs[p.1%1000]? with|some fn => !(fn.name== "runtime.NumGoroutine")&&fn.body.isSome|none=>false
theorem Aq{l:List (Nat×aS)}(key:K6 l=true){f:FuncId}{g:aS}(hm:(f,g)∈l):jr Tryz.prog (f%1000):=by
 have:=adG.1 key _ hm;simp only at this
 split at this
 ·rename_i fn hf;simp only[Bool.and_eq_true,Bool.not_eq_true']at this;exact⟨fn,hf,this.1,this.2⟩
 ·cases this
theorem acE{f:FuncId}{g:aS}{x:g.A}{y:g.B}(hs:Xl f=some g)(h:Vr Xl An0 f g x=some y):Ej Tryz.prog f g x y :=Aj (fun f g u hf hu=>by have hm:=ML hf;simp only[YA,List.mem_cons,List.not_mem_nil,or_false,Prod.mk.injEq]at hm;rcases hm with⟨_,rfl⟩|⟨_,rfl⟩<;>cases hu) CC (fun f g hf=>Aq (by kernel_rfl) (ML hf)) sF (fun f g u x y _ hu _=>by cases hu) hs h
theorem Vu:iF Tryz.prog 127 (sG 52 dq):=tD rfl fun xs h=>by have:=acE (by kernel_rfl) (acC xs h);exact this
theorem Vv:iF Tryz.prog 128 (sG 118 dM):=tD rfl fun xs h=>by have:=acE (by kernel_rfl) (acD xs h);exact this
theorem acF(l:List ae)(hl:l.length≤50000000):Vr Uu YC 110 zK ((l,()),())=some ((l,()),()):=by
 refine Gn (fn:=Tryz.f110) (by kernel_rfl) (by kernel_rfl) ((acA _ _ _).trans ?_)
 cases l with
 |nil=>exact CD rfl (Sy rfl rfl)
 |cons x r=>exact Vt rfl (CD (decide_eq_true (show 0+(x::r).length≤1073741824 by omega)) rfl)
theorem Sz{i n:Nat}(h:i<n)(hn:n≤50000000):IntKind.wrap .i64 ((i:Int)+1)=((i+1:Nat):Int):=by
 unfold IntKind.wrap;simp only[IntKind.bits,IntKind.signed];simp
 split<;>omega
theorem acG(xs:List ah)(ys:List ai)(h:pR xs ys=true):Vr Uu YC 500096 lp ((),(xs,(ys,())))=some (((xs,(ys,())),()),(xs,(ys,()))):=by
 unfold pR at h;simp only[Bool.and_eq_true,decide_eq_true_eq,List.all_eq_true]at h;obtain⟨hx,hy,hr⟩:=h;refine Gn (fn:=Tryz.f96) (by kernel_rfl) (by kernel_rfl) ((acB _ _ _).trans ?_);refine CD (decide_eq_true (show 0+xs.length≤1073741824 by omega)) (CD (decide_eq_true (show 0+ys.length≤1073741824 by omega)) ?_);have loop:∀(n i:Nat) (out:List ah),i+n=xs.length→out=xs→LXG Uu YC 500096 lp Tryz.f96 IU (aO Tryz.prog 96 0) ((((xs.length:Nat):Int),((i:Int),())),(((([]:List ah),(([]:List ai),())),((out,(ys,())),())),(xs,(ys,()))))=some (((xs,(ys,())),()),(xs,(ys,()))):=by
  intro n
  induction n with
  |zero =>intro i out hi ho;subst ho;refine Sw (j:=0) (by kernel_rfl) ((MK _ _ _).trans ?_);exact Vt (decide_eq_false (show ¬((i:Int)<((out.length:Nat):Int)) by omega)) rfl
  |succ n ih =>
   intro i out hi ho;have aF:i<xs.length:=by omega
   have Sr:out[i]? = some xs[i]:=by rw[ho];exact aaV aF
   have Xm:out.length=xs.length:=by rw[ho]
   have c1:(decide ((0:Int)≤(i:Int))&&decide ((i:Int)<((out.length:Nat):Int)))=true:=by rw[decide_eq_true (show(0:Int)≤(i:Int) by omega),decide_eq_true (show(i:Int)<((out.length:Nat):Int) by omega)];rfl
   refine Sw (j:=0) (by kernel_rfl) ((MK _ _ _).trans ?_);refine CD (decide_eq_true (show((i:Int)<((xs.length:Nat):Int)) by omega)) (CD c1 (Sx Sr ?_));refine Sx (acF xs[i].2.1 (hr _ (adg aF))) ?_;refine CD c1 (Sx Sr ?_);have hs:out.set i (xs[i].1,(xs[i].2.1,xs[i].2.2))=xs:=by subst ho;exact List.set_getElem_self aF
   have:=ih (i+1) (out.set i (xs[i].1,(xs[i].2.1,xs[i].2.2))) (by omega) hs;rw[←Sz aF hx]at this;exact this
 exact loop xs.length 0 xs (by omega) rfl
theorem ahJ{f:FuncId}{g:aS}{x:g.A}{y:g.B}(hs:Uu f=some g)(h:Vr Uu YC f g x=some y):Ej Tryz.prog f g x y :=Aj (fun f g u hf hu=>by
  have hm:=MM hf;simp only[YB,List.mem_cons,List.not_mem_nil,or_false,Prod.mk.injEq]at hm;rcases hm with⟨_,rfl⟩|⟨_,rfl⟩|⟨rfl,rfl⟩|⟨rfl,rfl⟩
  ·cases hu
  ·cases hu
  ·cases hu;intro Z ψ h w B0 O N hh id e vs us;exact Vu
  ·cases hu;intro Z ψ h w B0 O N hh id e vs us;exact Vv) CC (fun f g hf=>Aq (by kernel_rfl) (MM hf)) sF (fun f g u x y _ hu _=>by cases hu) hs h
theorem OF:iF Tryz.prog 96 FU:=Gm fun xs ys h=>by have:=ahJ (by kernel_rfl) (acG xs ys h);exact this
end Go.Vs
namespace Go.Vs
open Go.Proofs Go.RowKit
abbrev ako:Array Value:=#[.slice none 0 0,.slice none 0 0,.slice none 0 0,.int .i64 0,.slice none 0 0]
end Go.Vs
namespace Go.Vs
open Go.Proofs
theorem SA:∀f g u,Sg f=some g→g.x=some u→iF Tryz.prog (f%1000) u:=fun f g u h hu=>by
 have hm:=Ss h;have key:(sgs.all fun p=>(p.2.x.isNone || (p.1==176 || (p.1==211 || (p.1==233 || (p.1==177 || (p.1==186 || (p.1==220 || (p.1==500096 || (p.1==142))))))))))=true:=by kernel_rfl
 have:=adG.1 key _ hm;simp only[hu,Option.isNone_some,Bool.false_or,Bool.or_eq_true,beq_iff_eq]at this;rcases this with rfl|rfl|rfl|rfl|rfl|rfl|rfl|rfl
 ·have e:Sg 176=some WV:=by kernel_rfl
  rw[e]at h;cases h;cases hu;intro Z ψ h w B0 O N hh id e vs us;exact uy (k:=dq) Yv
 ·have e:Sg 211=some WY:=by kernel_rfl
  rw[e]at h;cases h;cases hu;intro Z ψ h w B0 O N hh id e vs us;exact uy (k:=dM) Yx
 ·have e:Sg 233=some WZ:=by kernel_rfl
  rw[e]at h;cases h;cases hu;intro Z ψ h w B0 O N hh id e vs us;exact uy (k:=cM) Yz
 ·have e:Sg 177=some WW:=by kernel_rfl
  rw[e]at h;cases h;cases hu;intro Z ψ h w B0 O N hh id e vs us;exact CB (k:=dq) Yw
 ·have e:Sg 186=some WX:=by kernel_rfl
  rw[e]at h;cases h;cases hu;intro Z ψ h w B0 O N hh id e vs us;exact CB (k:=dM) Yy
 ·have e:Sg 220=some W0:=by kernel_rfl
  rw[e]at h;cases h;cases hu;intro Z ψ h w B0 O N hh id e vs us;exact zh (k:=br) Vk
 ·have e:Sg 500096=some IC:=by kernel_rfl
  rw[e]at h;cases h;cases hu;intro Z ψ h w B0 O N hh id e vs us;exact OF
 ·have e:Sg 142=some Xb:=by kernel_rfl
  rw[e]at h;cases h;cases hu;intro Z ψ h w B0 O N hh id e vs us;exact zh (k:=fE) Vl
end Go.Vs
