/- slices.Insert, slices.Delete, slices.Grow and slices.Clone at rows of one's own; what is asked of the program as a whole. -/
import Derived.Test.YtpldhjjpeldkaaaGreatEngineA
import Derived.Laws.CopyRow
import Derived.Lib.AppendZerosOnto
import Derived.Lib.Overlaps
import Derived.Test.YtpldhjjpeldkaaaGreatProg
import Derived.WalkKit
import Derived.Lib.Walk
import Derived.Shelf.Spec.SlicesInsert
import Derived.Laws.NewBlocks
import Derived.Test.YtpldhjjpeldkaaaGreatEngineC
import Derived.Test.YtpldhjjpeldkaaaGreatEngineB
import Derived.Laws.StructEq
import Derived.Test.YtpldhjjpeldkaaaGreatEngineD
import Derived.KernelRfl
namespace Go.Vs
variable {P:Program} {w:World}
theorem ct(w:World)(dT sT ty elem:TypeId)(sz g o Xh afX:Nat)(a:Addr)(Xi afY:Nat)(cur:Array Value)(t:TypeId)(cs:List Value)
  (hu:P.underlying dT=some (.slice elem)) (hs:(P.info? elem).map (·.size)=some sz)
  (hg:w.heap[g]? = some (.cells cur t (0,0))) (hn:cs.length=Nat.min Xi Xh*sz)
  (wR:∀(j:Nat) v,cs[j]? = some v→w.cell? (a.add j)=some v) (MO:o+cs.length≤cur.size) (h1:∀v∈cs,v.oneCell'=true) :
  (Builtin.copy_ #[dT,sT] ty #[.slice (some ⟨g,o,none⟩) Xh afX,.slice (some a) Xi afY]).run P w =
   .ok (goInt (Nat.min Xi Xh)) (w.setRow g (cur.toList.take o++cs++cur.toList.drop (o+cs.length)).toArray):=by
 have hl:=run_loadCells_list (P:=P) w a cs wR
 have u7:=run_storeCells_at P g o t cs 0 cur w hg (by simpa using MO) h1
 cases hq:P.info? elem with
 |none=>simp[hq]at hs
 |some i =>
  have hi:i.size=sz:=by simpa[hq] using hs
  simp only[Nat.add_zero]at u7
  simp[Builtin.copy_,run_underlying hu,Builtin.lenOf,Builtin.firstCells,sizeOf,typeInfo,hq,hi,←hn,hl,u7]
theorem oG(w:World)(t ty e:TypeId)(sz g n c:Nat)(a:Addr)(m mc:Nat)(cur:Array Value)(news:List Value)(ht:P.underlying t=some (.slice e))(hs:(P.info? e).map (·.size)=some sz)
  (hg:w.heap[g]? = some (.cells cur e (0,0))) (hl:news.length=m*sz) (wR:∀(j:Nat) v,news[j]? = some v→w.cell? (a.add j)=some v) (h1:∀v∈news,v.oneCell'=true) (jm:n+m≤c) (jf:c*sz≤cur.size) :
  (Builtin.append_ #[t,t] ty #[.slice (some ⟨g,0,none⟩) n c,.slice (some a) m mc]).run P w=.ok (.slice (some ⟨g,0,none⟩) (n+m) c) (w.setRow g (cur.toList.take (n*sz)++news++cur.toList.drop (n*sz+news.length)).toArray):=by
 have hle:n*sz+m*sz≤c*sz:=by rw[←Nat.add_mul];exact Nat.mul_le_mul_right _ jm
 have aaL:=run_loadCells_list (P:=P) w a news wR
 have u7:=run_storeCells_at P g (n*sz) e news 0 cur w hg (by omega) h1
 simp only[Nat.add_zero]at u7
 have ha:(⟨g,0,none⟩:Addr).add (n*sz)=⟨g,n*sz,none⟩:=by rw[cz,Nat.zero_add]
 cases hq:P.info? e with
 |none=>simp[hq]at hs
 |some i =>
  have hi:i.size=sz:=by simpa[hq] using hs
  simp[Builtin.append_,run_underlying ht,Builtin.lenOf,Builtin.firstCells,sizeOf,typeInfo,hq,hi,←hl,aaL,jm,ha,u7]
theorem ry(w:World)(t ty e:TypeId)(sz g o k c:Nat)(cur:Array Value)(i:TypeInfo)(z:Value)(ht:P.underlying t=some (.slice e))(hi:P.info? e=some i)(hz:i.zero=some z)(wS:z.cells.size=sz)(h1:∀v∈z.cells.toList,v.oneCell'=true)
  (hg:w.heap[g]? = some (.cells cur e (0,0))) (hk:0<k) (MO:o+k*sz≤cur.size) :
  (Builtin.clear_ #[t] ty #[.slice (some ⟨g,o,none⟩) k c]).run P w=.ok (.tuple #[]) (w.setRow g (cur.toList.take o++(Builtin.zeroCells z.cells k).toList++cur.toList.drop (o+(Builtin.zeroCells z.cells k).toList.length)).toArray):=by
 have hl:(Builtin.zeroCells z.cells k).toList.length=k*sz:=by simp[Builtin.zeroCells,wS]
 have GZ:∀v∈(Builtin.zeroCells z.cells k).toList,v.oneCell'=true:=fun v hv=>by
  simp only[Builtin.zeroCells,Array.toList_map,List.mem_map]at hv
  obtain⟨q,hq,rfl⟩:=hv
  have hq':q<k*z.cells.size:=by simpa using hq
  have hp:0<z.cells.size:=by
   rcases Nat.eq_zero_or_pos z.cells.size with h|h
   ·rw[h,Nat.mul_zero]at hq';omega
   ·exact h
  have aM:q%z.cells.size<z.cells.size:=Nat.mod_lt _ hp
  rw[getElem!_pos z.cells _ aM]
  exact h1 _ (by simp)
 have u7:=run_storeCells_at P g o e (Builtin.zeroCells z.cells k).toList 0 cur w hg (by omega) GZ
 simp only[Nat.add_zero]at u7
 obtain⟨m,rfl⟩:∃m,k=m+1:=⟨k-1,by omega⟩
 simp[Builtin.clear_,run_underlying ht,zeroValue,typeInfo,hi,hz,u7]
end Go.Vs
set_option linter.unusedVariables false
set_option linter.unusedSimpArgs false
namespace Go.Vs
open Go.Proofs Go.RowKit
def FF(P:Program)(f:FuncId)(e:TypeId)(size:Nat):Prop :=
 ∀(w:World) (v u:Value) (n i:Nat) (xs ys:List Value),dG w e size v n xs→dG w e size u 1 ys→i≤n→n+1≤fV→(∀b,ob v=some b→ob u≠some b) →
  (∀q∈xs,q.oneCell'=true)→(∀q∈ys,q.oneCell'=true) →
  Calls P f #[v,.int .i64 i,u] w fun en w'=>∃v',en=.returned v'∧dG w' e size v' (n+1) (xs.take (i*size)++(ys++xs.drop (i*size)))∧w.grownBy w' (ob v)∧(ob v'=ob v∨∀b,ob v'=some b→w.heap.size≤b)
set_option maxHeartbeats 4000000 in
set_option maxRecDepth 100000 in
theorem Ki(w:World)(v u:Value)(n:Nat)(xs ys:List Value)(hv:dG w 48 5 v n xs)(hu:dG w 48 5 u 1 ys)(hm:n+1≤fV)(h1:∀q∈ys,q.oneCell'=true) :
  Calls Tryz.prog 108 #[v,.int .i64 n,u] w fun en w'=>∃v',en=.returned v'∧dG w' 48 5 v' (n+1) (xs++ys)∧w.grownBy w' (ob v)∧(ob v'=ob v∨∀b,ob v'=some b→w.heap.size≤b):=by
 have ht:Tryz.prog.underlying 22=some (.slice 48):=by kernel_rfl
 obtain⟨i0,z0,he⟩:=cK (P:=Tryz.prog) (e:=48) (k:=.pair (.pair (.int .i64) (.int .i64)) (.pair (.sl (.pair (.pair (.int .i64) (.int .i64)) (.int .i64))) (.pair .str (.int .i64)))) (by kernel_rfl)
 have wR:MF w 5 u 1 ys:=by
  refine⟨hu.1,h1,.inr ?_⟩
  rcases hu.2 with⟨h0,_⟩|⟨g,cap,cur,rfl,_,hg,_,_,hc,jn⟩
  ·cases h0
  ·refine⟨_,_,rfl,fun j q hj=>?_⟩
   rw[cz,Nat.zero_add]
   rw[←jn,List.getElem?_take]at hj
   split at hj
   ·simp[World.cell?,hg];simpa using hj
   ·cases hj
 obtain⟨v',w',dy,h4,h5,h6⟩:=dM (P:=Tryz.prog) (ty:=22) ht he hv wR hm
 obtain⟨A,c,rfl⟩:=hv.slice
 have Dd:n≤c:=by
  rcases hv.2 with⟨h0,A,e⟩|⟨g,cap,cur,e,hc,h2,h3,_⟩
  ·omega
  ·cases e;exact h3
 obtain⟨B,cu,rfl⟩:=hu.slice
 have aaM:n≤1073741824:=by unfold fV at hm;omega
 go_enter Tryz.func108,Tryz.ntmps108
 go_wp2_with (at_builtin;refine Lib.wpList_append_run _ rfl _ _ _ _ rfl _ _ rfl rfl _ _ dy ?_)
 all_goals go_ret
 all_goals first|exact⟨_,rfl,h4,h5,h6⟩|(subst_vars;exact⟨_,rfl,h4,h5,h6⟩)
theorem Cd{α:Type}{cur xs ys cur1 cur3:List α}{i n sz:Nat}(jn:cur.take (n*sz)=xs)(hl:(n+1)*sz≤cur.length)(hy:ys.length=sz)(hi:i≤n)
  (h1:cur1=cur.take ((i+1)*sz)++xs.drop (i*sz)++cur.drop ((i+1)*sz+(xs.drop (i*sz)).length)) (h3:cur3=cur1.take (i*sz)++ys++cur1.drop (i*sz+ys.length)) :
  cur3.take ((n+1)*sz)=xs.take (i*sz)++(ys++xs.drop (i*sz)):=by
 have yW:i*sz≤n*sz:=Nat.mul_le_mul_right _ hi
 rw[Nat.add_mul,Nat.one_mul]at hl h1 ⊢
 have xz:xs.length=n*sz:=by rw[←jn,List.length_take];omega
 generalize i*sz=a at *
 generalize n*sz=b at *
 have e1:cur1.take a=xs.take a:=by
  rw[h1,List.append_assoc,List.take_append_of_le_length (by rw[List.length_take];omega),List.take_take,←jn,List.take_take]
  congr 1;omega
 have e2:cur1.drop (a+ys.length)=xs.drop a++cur.drop (a+1*sz+(xs.drop a).length):=by
  rw[h1,List.append_assoc,Nat.one_mul,hy]
  exact List.drop_left' (by rw[List.length_take];omega)
 rw[h3,e1,e2,←List.append_assoc,←List.append_assoc]
 rw[List.take_left' (by simp only[List.length_append,List.length_take,List.length_drop];omega)]
theorem gL{w:World}{e size:Nat}{g n:Nat}{cur:Array Value}{xs:List Value}(hg:w.heap[g]? = some (.cells cur e (0,0)))(jn:cur.toList.take (n*size)=xs)(o:Nat):∀(j:Nat) q,(xs.drop o)[j]? = some q→w.cell? ((⟨g,o,none⟩:Addr).add j)=some q:=fun j q hj=>by
 rw[cz]
 rw[List.getElem?_drop,←jn,List.getElem?_take]at hj
 split at hj
 ·simp[World.cell?,hg];simpa using hj
 ·cases hj
set_option maxHeartbeats 4000000 in
set_option maxRecDepth 100000 in
theorem FG(w:World)(g c g2 c2 n i:Nat)(xs ys:List Value)(cur di:Array Value)(hg:w.heap[g]? = some (.cells cur 48 (0,0)))(jf:cur.size=c*5)(jn:cur.toList.take (n*5)=xs)(xz:xs.length=n*5)
  (tK:w.heap[g2]? = some (.cells di 48 (0,0))) (qD:di.size=c2*5) (uN:0<c2) (kU:di.toList.take (1*5)=ys) (Em:ys.length=1*5) (bp:g2≠g) (hi:i<n) (jm:n+1≤c) (hc:c≤maxLen)
  (h1:∀q∈xs,q.oneCell'=true) (h2:∀q∈ys,q.oneCell'=true) :
  Calls Tryz.prog 108 #[.slice (some ⟨g,0,none⟩) n c,.int .i64 i,.slice (some ⟨g2,0,none⟩) 1 c2] w fun en w'=>en=.returned (.slice (some ⟨g,0,none⟩) (n+1) c) ∧
   ∃dm:Array Value,w'.heap[g]? = some (.cells dm 48 (0,0))∧dm.size=cur.size∧dm.toList.take ((n+1)*5)=xs.take (i*5)++(ys++xs.drop (i*5))∧w.grownBy w' (some g):=by
 have ht:Tryz.prog.underlying 22=some (.slice 48):=by kernel_rfl
 have hz:(Tryz.prog.info? 48).map (·.size)=some 5:=by kernel_rfl
 have wS:∀w,(Go.sizeOf 48).run Tryz.prog w=.ok 5 w:=fun w=>by
  cases hq:Tryz.prog.info? 48 with
  |none=>rw[hq]at hz;cases hz
  |some i=>rw[hq]at hz;simp at hz;simp[sizeOf,typeInfo,hq,hz]
 have SZ:∀a2 lb cb,(callFunc 128 #[.slice (some ⟨g2,0,none⟩) 1 c2,.slice (some ⟨g,a2,none⟩) lb cb]).run Tryz.prog w=.ok (.value (.bool false)) w:=fun a2 lb cb=>by
  rw[run_callFunc_extern Tryz.func128 (by kernel_rfl) (by kernel_rfl) (by kernel_rfl) (e:=Extern.SlicesOverlaps.overlaps #[22,22] #[4]) (by kernel_rfl),
   Lib.run_overlaps_apart w 22 4 48 ht 5 wS ⟨g2,0,none⟩ ⟨g,a2,none⟩ 1 c2 lb cb bp 48 48 di.size cur.size (by simp[World.shape?,tK]) (by simp[World.shape?,hg]) (by omega) (by simp[World.frozen?,tK]) (by simp[World.frozen?,tK])]
  rfl
 have Dg:=gL (size:=5) (n:=1) tK kU 0
 have si:=gL (size:=5) (n:=n) hg jn (i*5)
 have h63:c≤9223372036854775807:=by unfold maxLen at hc;omega
 have hn5:n*5≤cur.size:=by omega
 obtain⟨cur1,fD⟩:∃cur1:Array Value,cur1=(cur.toList.take ((i+1)*5)++xs.drop (i*5)++cur.toList.drop ((i+1)*5+(xs.drop (i*5)).length)).toArray:=⟨_,rfl⟩
 have yX:(xs.drop (i*5)).length=(n-i)*5:=by rw[List.length_drop,xz];omega
 have QT:∀(W:World),W.heap=w.heap→∀ty dc sc,(Builtin.copy_ #[22,22] ty #[.slice (some ⟨g,(i+1)*5,none⟩) (n-i) dc,.slice (some ⟨g,i*5,none⟩) (n+1-i) sc]).run Tryz.prog W=.ok (goInt (n-i:Nat)) (W.setRow g cur1):=fun W hW ty dc sc=>by
  have:=ct (P:=Tryz.prog) W 22 22 ty 48 5 g ((i+1)*5) (n-i) dc ⟨g,i*5,none⟩ (n+1-i) sc cur 48 (xs.drop (i*5)) ht hz (by rw[hW];exact hg) (by rw[yX];simp only[Nat.min_def];split<;>omega)
   (fun j v hj=>by have:=si j v hj;simpa only[World.cell?,hW] using this) (by omega) (fun q hq=>h1 q (List.mem_of_mem_drop hq))
  rw[this,fD]
  congr 2
  simp only[Nat.min_def];split<;>omega
 have Gx:cur1.size=cur.size:=by rw[fD];simp;omega
 obtain⟨cur3,nm⟩:∃cur3:Array Value,cur3=(cur1.toList.take (i*5)++ys++cur1.toList.drop (i*5+ys.length)).toArray:=⟨_,rfl⟩
 have QU:∀(W:World),W.heap[g]? = some (.cells cur1 48 (0,0))→W.heap[g2]? = w.heap[g2]?→∀ty dc sc,(Builtin.copy_ #[22,22] ty #[.slice (some ⟨g,i*5,none⟩) (n+1-i) dc,.slice (some ⟨g2,0,none⟩) 1 sc]).run Tryz.prog W=.ok (goInt 1) (W.setRow g cur3):=fun W hW hW2 ty dc sc=>by
  have:=ct (P:=Tryz.prog) W 22 22 ty 48 5 g (i*5) (n+1-i) dc ⟨g2,0,none⟩ 1 sc cur1 48 ys ht hz hW (by rw[Em];simp only[Nat.min_def];split<;>omega)
   (fun j v hj=>by have:=Dg j v (by simpa using hj);simpa only[World.cell?,cJ,hW2] using this) (by omega) h2
  rw[this,nm]
  congr 2
  simp only[Nat.min_def];split<;>omega
 have D7:IntKind.i64.wrap ((i:Int)+1)=(i:Int)+1:=by rw[IntKind.wrap_i64];omega
 have Kj:IntKind.i64.wrap ((n:Int)+1)=(n:Int)+1:=by rw[IntKind.wrap_i64];omega
 have QV:(0:Int)≤(i:Int)+1:=by omega
 have jS:i≤n:=by omega
 have QW:((i:Int)+1).toNat=i+1:=by omega
 have vj:¬(c=i+1):=by omega
 have hb3:(i:Int)≤(n:Int)+1:=by omega
 have hb4:¬(c=i):=by omega
 have C3:¬((i:Int)=(n:Int)):=by omega
 have Jl:¬((c:Int)<(n:Int)+1):=by omega
 have S4:cur3.size=cur.size:=by rw[nm];simp;omega
 have kV:cur3.toList.take ((n+1)*5)=xs.take (i*5)++(ys++xs.drop (i*5)):=Cd (sz:=5) (cur1:=cur1.toList) (cur3:=cur3.toList) jn (by simp;omega) (by rw[Em]) jS (by rw[fD]) (by rw[nm])
 clear nm fD yX jn kU
 have Ic:=QU (w.drew.setRow g cur1) (setRow_heap w.drew g cur _ 48 _ hg) (_root_.Go.setRow_other w.drew g g2 _ bp)
 have mixed:Tryz.prog.follows .mixedOrders=true:=by kernel_rfl
 go_enter Tryz.func108,Tryz.ntmps108
 go_wp2_with (simp only[SZ])
 go_region_law (go_loud (refine step_copy_runI rfl _ _ 22 22 rfl (.slice (some ⟨g,(i+1)*5,none⟩) (n-i) (c-(i+1))) (.slice (some ⟨g,i*5,none⟩) (n+1-i) (c-i)) (by simp[Act.eval,Act.put]) (by simp[Act.eval,Act.put]) (QT w.drew rfl 3 (c-(i+1)) (c-i)) ?_))
 go_wp2_with (simp only[Ic])
 go_ret
 refine⟨rfl,cur3,setRow_heap _ g cur1 _ 48 _ (setRow_heap w.drew g cur _ 48 _ hg),S4,kV,⟨rfl,rfl,rfl,by simp[World.setRow],fun k hk Nx=>?_⟩⟩
 have wG:k≠g:=fun e=>Nx (by rw[e])
 rw[_root_.Go.setRow_other _ g k _ wG,_root_.Go.setRow_other _ g k _ wG];rfl
theorem xC{α:Type}{row xs ys row2 row3:List α}{i n sz:Nat}(hA:row.take (i*sz)=xs.take (i*sz))(hl:(n+1)*sz≤row.length)(xz:xs.length=n*sz)(hy:ys.length=sz)(hi:i≤n)
  (h2:row2=row.take (i*sz)++ys++row.drop (i*sz+ys.length)) (h3:row3=row2.take ((i+1)*sz)++xs.drop (i*sz)++row2.drop ((i+1)*sz+(xs.drop (i*sz)).length)) :
  row3.take ((n+1)*sz)=xs.take (i*sz)++(ys++xs.drop (i*sz)):=by
 have yW:i*sz≤n*sz:=Nat.mul_le_mul_right _ hi
 rw[Nat.add_mul,Nat.one_mul]at hl h3 ⊢
 generalize i*sz=a at *
 generalize n*sz=b at *
 have e1:row2.take (a+1*sz)=xs.take a++ys:=by
  rw[h2,hA,Nat.one_mul]
  exact List.take_left' (by simp only[List.length_append,List.length_take];omega)
 rw[Nat.one_mul]at e1
 rw[h3,e1]
 rw[List.take_left' (by simp only[List.length_append,List.length_take,List.length_drop];omega)]
 rw[List.append_assoc]
set_option maxHeartbeats 4000000 in
set_option maxRecDepth 100000 in
theorem Ie(w:World)(g c g2 c2 n i:Nat)(xs ys:List Value)(cur di:Array Value)(hg:w.heap[g]? = some (.cells cur 48 (0,0)))(jf:cur.size=c*5)(jn:cur.toList.take (n*5)=xs)(xz:xs.length=n*5)
  (tK:w.heap[g2]? = some (.cells di 48 (0,0))) (qD:di.size=c2*5) (uN:0<c2) (kU:di.toList.take (1*5)=ys) (Em:ys.length=1*5) (bp:g2≠g) (hi:i<n) (Dd:n≤c) (jm:c<n+1) (hm:n+1≤fV)
  (h1:∀q∈xs,q.oneCell'=true) (h2:∀q∈ys,q.oneCell'=true) :
  Calls Tryz.prog 108 #[.slice (some ⟨g,0,none⟩) n c,.int .i64 i,.slice (some ⟨g2,0,none⟩) 1 c2] w fun en w'=>∃G,en=.returned (.slice (some ⟨w.heap.size,0,none⟩) (n+1) G) ∧
   ∃dm:Array Value,w'.heap[w.heap.size]? = some (.cells dm 48 (0,0))∧dm.size=G*5∧n+1≤G∧G≤maxLen∧dm.toList.take ((n+1)*5)=xs.take (i*5)++(ys++xs.drop (i*5))∧w.grownBy w' (some g):=by
 have ht:Tryz.prog.underlying 22=some (.slice 48):=by kernel_rfl
 have QW:Tryz.prog.underlying 3=some (.int .i64):=by kernel_rfl
 have hz:(Tryz.prog.info? 48).map (·.size)=some 5:=by kernel_rfl
 obtain⟨i0,z0,he⟩:=cK (P:=Tryz.prog) (e:=48) (k:=.pair (.pair (.int .i64) (.int .i64)) (.pair (.sl (.pair (.pair (.int .i64) (.int .i64)) (.int .i64))) (.pair .str (.int .i64)))) (by kernel_rfl)
 have FH:z0.cells.size=5:=he.tn
 have wS:i0.size=5:=he.size
 have DA:=he.bytes
 have Dg:=gL (size:=5) (n:=1) tK kU 0
 have si:=gL (size:=5) (n:=n) hg jn (i*5)
 have Ig:=gL (size:=5) (n:=n) hg jn 0
 have S5:g<w.heap.size:=(Array.getElem?_eq_some_iff.1 hg).1
 have QX:g2<w.heap.size:=(Array.getElem?_eq_some_iff.1 tK).1
 unfold fV at hm
 have j8:(n+1)*i0.bytes≤140737488355328:=Nat.le_trans (Nat.mul_le_mul hm DA) (by decide)
 have hold:(Builtin.firstCells i0.size i (.slice (some ⟨g,0,none⟩) i c)).run Tryz.prog w.drew=.ok (xs.take (i*5)).toArray w.drew:=by
  rw[wS]
  exact run_firstCells_some w.drew 5 i ⟨g,0,none⟩ i c (xs.take (i*5)) (by rw[List.length_take];omega) (fun j v hj=>by
   rw[List.getElem?_take]at hj
   split at hj
   ·exact Ig j v hj
   ·cases hj)
 obtain⟨G,hG⟩:∃G,G=grownCap w (n+1) c 48:=⟨_,rfl⟩
 obtain⟨jo,qE⟩:∃jo:Array Value,jo=(xs.take (i*5)).toArray++Builtin.zeroCells z0.cells (n+1-i)++Builtin.zeroCells z0.cells (G-(n+1)):=⟨_,rfl⟩
 have PJ:i+(n+1-i)=n+1:=by omega
 have S6:∀ty,(Builtin.append_ #[22,3] ty #[.slice (some ⟨g,0,none⟩) i c,.int .i64 ((n:Int)+1-(i:Int))]).run Tryz.prog w=.ok (.slice (some ⟨w.heap.size,0,none⟩) (n+1) G) (w.drew.alloc (.cells jo 48)):=fun ty=>by
  have h:=Lib.run_append_grow_zeros w 22 3 ty 48 i0 z0 .i64 .i64 ht QW he.info he.zero (some ⟨g,0,none⟩) i c (xs.take (i*5)) hold (n+1-i) (by omega) (by omega) (by omega) (by omega)
   (Nat.le_trans (Nat.mul_le_mul_right _ (show n+1-i≤n+1 by omega)) (by omega)) (by rw[PJ];exact growslice_fits jm j8)
  rw[PJ]at h
  rw[show(n:Int)+1-(i:Int)=((n+1-i:Nat):Int) by omega,qE,hG]
  exact h
 have YF:n+1≤G:=by rw[hG];exact grownCap_ge w _ _ _
 have Kk:G≤9223372036854775807:=by
  have:=grownCap_le_maxLen w (n+1) c 48 (by unfold maxLen;omega)
  rw[←hG]at this
  unfold maxLen at this
  omega
 have hRs:jo.size=G*5:=by
  rw[qE]
  simp[Builtin.zeroCells,FH,List.length_take,xz]
  rw[Nat.min_eq_left (by omega)];omega
 have VG:jo.toList.take (i*5)=xs.take (i*5):=by
  rw[qE]
  simp only[Array.toList_append,List.append_assoc]
  exact List.take_left' (by rw[List.length_take];omega)
 obtain⟨W1,oX⟩:∃W1,W1=w.drew.alloc (.cells jo 48):=⟨_,rfl⟩
 have rz:W1.heap[w.heap.size]? = some (.cells jo 48 (0,0)):=by rw[oX];exact(MapKept.heap_alloc w.drew (.cells jo 48)).1
 have te:∀b,b<w.heap.size→W1.heap[b]? = w.heap[b]? := fun b hb=>by rw[oX];exact(Below.heap_alloc w.drew (.cells jo 48) b hb).trans rfl
 have tf:w.grownBy W1 none:=⟨by rw[oX];rfl,by rw[oX];rfl,by rw[oX];rfl,by have:=(Array.getElem?_eq_some_iff.1 rz).1;omega,fun k hk _=>te k hk⟩
 obtain⟨row2,np⟩:∃row2:Array Value,row2=(jo.toList.take (i*5)++ys++jo.toList.drop (i*5+ys.length)).toArray:=⟨_,rfl⟩
 have Lr:row2.size=jo.size:=by rw[np];simp;omega
 have QY:∀(W:World),W.heap=W1.heap→∀ty dc sc,(Builtin.copy_ #[22,22] ty #[.slice (some ⟨w.heap.size,i*5,none⟩) (n+1-i) dc,.slice (some ⟨g2,0,none⟩) 1 sc]).run Tryz.prog W=.ok (goInt 1) (W.setRow w.heap.size row2):=fun W hW ty dc sc=>by
  have:=ct (P:=Tryz.prog) W 22 22 ty 48 5 w.heap.size (i*5) (n+1-i) dc ⟨g2,0,none⟩ 1 sc jo 48 ys ht hz (by rw[hW];exact rz) (by rw[Em];simp only[Nat.min_def];split<;>omega)
   (fun j v hj=>by have:=Dg j v (by simpa using hj);simpa only[World.cell?,cJ,hW,te g2 QX] using this) (by omega) h2
  rw[this,np]
  congr 2
  simp only[Nat.min_def];split<;>omega
 obtain⟨row3,nq⟩:∃row3:Array Value,row3=(row2.toList.take ((i+1)*5)++xs.drop (i*5)++row2.toList.drop ((i+1)*5+(xs.drop (i*5)).length)).toArray:=⟨_,rfl⟩
 have yX:(xs.drop (i*5)).length=(n-i)*5:=by rw[List.length_drop,xz];omega
 have S4:row3.size=jo.size:=by rw[nq];simp;omega
 have QZ:∀(W:World),W.heap=(W1.setRow w.heap.size row2).heap→∀ty dc sc,(Builtin.copy_ #[22,22] ty #[.slice (some ⟨w.heap.size,(i+1)*5,none⟩) (n-i) dc,.slice (some ⟨g,i*5,none⟩) (n-i) sc]).run Tryz.prog W=.ok (goInt (n-i:Nat)) (W.setRow w.heap.size row3):=fun W hW ty dc sc=>by
  have:=ct (P:=Tryz.prog) W 22 22 ty 48 5 w.heap.size ((i+1)*5) (n-i) dc ⟨g,i*5,none⟩ (n-i) sc row2 48 (xs.drop (i*5)) ht hz (by rw[hW];exact setRow_heap W1 w.heap.size jo _ 48 _ rz) (by rw[yX];simp only[Nat.min_def];split<;>omega)
   (fun j v hj=>by have:=si j v hj;simpa only[World.cell?,cJ,hW,_root_.Go.setRow_other W1 w.heap.size g _ (Nat.ne_of_lt S5),te g S5] using this) (by omega) (fun q hq=>h1 q (List.mem_of_mem_drop hq))
  rw[this,nq]
  congr 2
  simp only[Nat.min_def];split<;>omega
 have kV:row3.toList.take ((n+1)*5)=xs.take (i*5)++(ys++xs.drop (i*5)):=xC (sz:=5) (row:=jo.toList) (row2:=row2.toList) (row3:=row3.toList) VG (by simp;omega) xz (by rw[Em]) (by omega) (by rw[np]) (by rw[nq])
 clear nq np qE yX jn kU VG Ig hold hG
 have D7:IntKind.i64.wrap ((i:Int)+1)=(i:Int)+1:=by rw[IntKind.wrap_i64];omega
 have Kj:IntKind.i64.wrap ((n:Int)+1)=(n:Int)+1:=by rw[IntKind.wrap_i64];omega
 have hw3:IntKind.i64.wrap ((n:Int)+1-(i:Int))=(n:Int)+1-(i:Int):=by rw[IntKind.wrap_i64];omega
 have QV:(0:Int)≤(i:Int)+1:=by omega
 have jS:i≤n:=by omega
 have aaQ:((i:Int)+1).toNat=i+1:=by omega
 have hGi:¬(G=i):=by omega
 have aaR:¬(G=i+1):=by omega
 have hci:¬(c=i):=by omega
 have hb3:(i:Int)≤(n:Int):=by omega
 have C3:¬((i:Int)=(n:Int)):=by omega
 have Jl:(c:Int)<(n:Int)+1:=by omega
 rw[←oX]at S6
 clear oX
 have mixed:Tryz.prog.follows .mixedOrders=true:=by kernel_rfl
 go_enter Tryz.func108,Tryz.ntmps108
 go_wp2_with (first
  |(at_builtin;refine Lib.wpList_append_run _ rfl _ _ _ _ rfl _ _ rfl rfl _ _ (S6 _) ?_)
  |(at_builtin;refine wpList_copy_runI _ rfl _ _ 22 22 rfl _ _ rfl rfl (QY _ (by rfl) _ _ _) ?_))
 go_region_law (go_loud (refine step_copy_runI rfl _ _ 22 22 rfl (.slice (some ⟨w.heap.size,(i+1)*5,none⟩) (n-i) (G-(i+1))) (.slice (some ⟨g,i*5,none⟩) (n-i) (c-i)) (by simp[Act.eval,Act.put]) (by simp[Act.eval,Act.put]) (QZ (W1.setRow w.heap.size row2).drew rfl 3 (G-(i+1)) (c-i)) ?_))
 go_wp2
 go_ret
 refine⟨G,rfl,row3,setRow_heap _ w.heap.size row2 _ 48 _ (setRow_heap W1 w.heap.size jo _ 48 _ rz),by omega,YF,Kk,kV,⟨tf.os,tf.tape,tf.output,by have:=tf.size;simpa[World.setRow] using this,fun k hk _=>?_⟩⟩
 rw[_root_.Go.setRow_other _ w.heap.size k _ (Nat.ne_of_lt hk)]
 exact(_root_.Go.setRow_other W1 w.heap.size k _ (Nat.ne_of_lt hk)).trans (te k hk)
theorem Xk:FF Tryz.prog 108 48 5:=fun w v u n i xs ys hv hu hi hm Ny h1 h2=>by
 by_cases he:i=n
 ·subst he
  refine(Ki w v u i xs ys hv hu hm h2).mono fun en w' ⟨v',e1,e2,e3,e4⟩=>⟨v',e1,?_,e3,e4⟩
  have hl:=hv.1
  rw[List.take_of_length_le (by omega),List.drop_eq_nil_of_le (by omega),List.append_nil]
  exact e2
 ·have jS:i<n:=by omega
  rcases hv.2 with⟨h0,_⟩|⟨g,c,cur,rfl,Js,hg,Dd,FI,jf,jn⟩
  ·omega
  rcases hu.2 with⟨h0,_⟩|⟨g2,c2,di,rfl,Ih,tK,_,_,qD,kU⟩
  ·omega
  have j7:ob (.slice (some ⟨g,0,none⟩) n c)=some g:=by simp only[ob];rw[if_neg (by omega)]
  have Q1:ob (.slice (some ⟨g2,0,none⟩) 1 c2)=some g2:=by simp only[ob];rw[if_neg (by omega)]
  have bp:g2≠g:=fun e=>Ny g j7 (by rw[Q1,e])
  by_cases jm:n+1≤c
  ·refine(FG w g c g2 c2 n i xs ys cur di hg jf jn hv.1 tK qD Ih kU hu.1 bp jS jm FI h1 h2).mono fun en w' ⟨e1,dm,e2,e3,e4,e5⟩=>?_
   refine⟨_,e1,⟨?_,.inr ⟨g,c,dm,rfl,Js,e2,jm,FI,by rw[e3,jf],e4⟩⟩,by rw[j7];exact e5,.inl ?_⟩
   ·have hl:=hv.1;have uc:=hu.1
    simp only[List.length_append,List.length_take,List.length_drop];omega
   ·rw[j7];simp only[ob];rw[if_neg (by omega)]
  ·refine(Ie w g c g2 c2 n i xs ys cur di hg jf jn hv.1 tK qD Ih kU hu.1 bp jS Dd (by omega) hm h1 h2).mono fun en w' ⟨G,e1,dm,e2,e3,e4,e5,e6,e7⟩=>?_
   refine⟨_,e1,⟨?_,.inr ⟨w.heap.size,G,dm,rfl,by omega,e2,e4,e5,e3,e6⟩⟩,by rw[j7];exact e7,.inr fun b hb=>?_⟩
   ·have hl:=hv.1;have uc:=hu.1
    simp only[List.length_append,List.length_take,List.length_drop];omega
   ·simp only[ob]at hb;rw[if_neg (by omega)]at hb;cases hb;omega
end Go.Vs
namespace Go.Vs
open Go.Proofs Go.RowKit
def Kl(P:Program)(f:FuncId)(e:TypeId)(size:Nat):Prop :=
 ∀(w:World) (v:Value) (n i j:Nat) (xs:List Value),dG w e size v n xs→i<j→j≤n→n≤fV→(∀q∈xs,q.oneCell'=true) →
  Calls P f #[v,.int .i64 i,.int .i64 j] w fun en w'=>∃v',en=.returned v'∧dG w' e size v' (i+(n-j)) (xs.take (i*size)++xs.drop (j*size))∧w.grownBy w' (ob v)∧ob v'=ob v
theorem iK{P:Program}{ops:Array Oper}{o:Oper}{a:Act}{w:World}{K:Act→World→Prop}{Q:Exit→Act→World→Prop}{E:Prop}
  (hg:o.guard=none) (d x:Operand) (dT sT:TypeId) (Fl:o.op=Op.call { callee:=Callee.builtin Builtin.append,args:=#[d,x],argTypes:=#[dT,sT] })
  (v u:Value) (hd:a.eval d=v) (hx:a.eval x=u) {v':Value} {w':World} (hr:(Builtin.append_ #[dT,sT] o.type #[v,u]).run P w=.ok v' w') (hK:K (a.put o.dst v') w') :
  if Region.wanted o (yielded ops a.tmps)=true then Oper.wp P o a w K Q else E:=by
 have hw:Region.wanted o (yielded ops a.tmps)=true:=by simp[Region.wanted,hg]
 rw[if_pos hw]
 unfold Oper.wp
 simp[execOp,Fl,resolve,invoke,builtin,hd,hx,hr,Result.andThen]
 exact hK
theorem Ii{α:Type}{cur xs cur1 di zs:List α}{i j n sz:Nat}(jn:cur.take (n*sz)=xs)(hl:n*sz≤cur.length)(AW:i≤j)(Oq:j≤n)
  (h1:cur1=cur.take (i*sz)++xs.drop (j*sz)++cur.drop (i*sz+(xs.drop (j*sz)).length)) (h2:di=cur1.take ((i+(n-j))*sz)++zs++cur1.drop ((i+(n-j))*sz+zs.length)) :
  di.take ((i+(n-j))*sz)=xs.take (i*sz)++xs.drop (j*sz):=by
 have ha:i*sz≤j*sz:=Nat.mul_le_mul_right _ AW
 have hb:j*sz≤n*sz:=Nat.mul_le_mul_right _ Oq
 rw[Nat.add_mul,Nat.sub_mul]at h2 ⊢
 have xz:xs.length=n*sz:=by rw[←jn,List.length_take];omega
 generalize i*sz=a at *
 generalize j*sz=b at *
 generalize n*sz=c at *
 have e0:cur.take a=xs.take a:=by rw[←jn,List.take_take];congr 1;omega
 have e1:cur1.take (a+(c-b))=xs.take a++xs.drop b:=by
  rw[h1,e0]
  exact List.take_left' (by simp only[List.length_append,List.length_take,List.length_drop];omega)
 rw[h2,e1,List.append_assoc]
 exact List.take_left' (by simp only[List.length_append,List.length_take,List.length_drop];omega)
set_option maxHeartbeats 4000000 in
set_option maxRecDepth 100000 in
theorem Ij(w:World)(g c n i j X:Nat)(xs:List Value)(cur:Array Value)(hg:w.heap[g]? = some (.cells cur 48 (0,0)))(jf:cur.size=c*5)(jn:cur.toList.take (n*5)=xs)(xz:xs.length=n*5)
  (AW:i<j) (Oq:j≤n) (Dd:n≤c) (hc:c≤maxLen) (hX:if c=j then X=0 else X=j*5)
  (h1:∀q∈xs,q.oneCell'=true) :
  Calls Tryz.prog 109 #[.slice (some ⟨g,0,none⟩) n c,.int .i64 i,.int .i64 j] w fun en w'=>en=.returned (.slice (some ⟨g,0,none⟩) (i+(n-j)) c) ∧
   ∃dm:Array Value,w'.heap[g]? = some (.cells dm 48 (0,0))∧dm.size=cur.size∧dm.toList.take ((i+(n-j))*5)=xs.take (i*5)++xs.drop (j*5)∧w.grownBy w' (some g):=by
 have ht:Tryz.prog.underlying 22=some (.slice 48):=by kernel_rfl
 have hz:(Tryz.prog.info? 48).map (·.size)=some 5:=by kernel_rfl
 obtain⟨zs,wS⟩:∃zs,Au Tryz.prog 48=some zs:=Option.isSome_iff_exists.1 (by kernel_rfl)
 obtain⟨i0,z0,TW,Tp,rfl,yv⟩:=pf wS
 obtain⟨i1,z1,he⟩:=cK (P:=Tryz.prog) (e:=48) (k:=.pair (.pair (.int .i64) (.int .i64)) (.pair (.sl (.pair (.pair (.int .i64) (.int .i64)) (.int .i64))) (.pair .str (.int .i64)))) (by kernel_rfl)
 have ei:i1=i0:=by have:=he.info;rw[TW]at this;cases this;rfl
 subst ei
 have ez:z1=z0:=by have:=he.zero;rw[Tp]at this;cases this;rfl
 subst ez
 have FH:z1.cells.size=5:=he.tn
 clear he wS
 have yX:(xs.drop (j*5)).length=(n-j)*5:=by rw[List.length_drop,xz];omega
 obtain⟨cur1,fD⟩:∃cur1:Array Value,cur1=(cur.toList.take (i*5)++xs.drop (j*5)++cur.toList.drop (i*5+(xs.drop (j*5)).length)).toArray:=⟨_,rfl⟩
 have Gx:cur1.size=cur.size:=by rw[fD];simp;omega
 have Ny:∀ty sc,(Builtin.append_ #[22,22] ty #[.slice (some ⟨g,0,none⟩) i c,.slice (some ⟨g,X,none⟩) (n-j) sc]).run Tryz.prog w.drew=.ok (.slice (some ⟨g,0,none⟩) (i+(n-j)) c) (w.drew.setRow g cur1):=fun ty sc=>by
  by_cases Nz:c=j
  ·have hnj:n=j:=by omega
   have:n-j=0:=by omega
   rw[this]at yX ⊢
   have GN:xs.drop (j*5)=[]:=List.eq_nil_of_length_eq_zero (by omega)
   rw[fH ht TW _ _ _ (by omega) _ _,fD,GN]
   simp only[List.append_nil,List.length_nil,Nat.add_zero,List.take_append_drop,Array.toArray_toList]
   rw[setRow_self w.drew g cur 48 (0,0) hg]
  ·rw[if_neg Nz]at hX
   subst hX
   rw[fD]
   exact oG (P:=Tryz.prog) w.drew 22 ty 48 5 g i c ⟨g,j*5,none⟩ (n-j) sc cur (xs.drop (j*5)) ht hz hg yX (gL (size:=5) (n:=n) (w:=w.drew) hg jn (j*5)) (fun q hq=>h1 q (List.mem_of_mem_drop hq)) (by omega) (by omega)
 obtain⟨di,vZ⟩:∃di:Array Value,di=(cur1.toList.take ((i+(n-j))*5)++(Builtin.zeroCells z1.cells (j-i)).toList++cur1.toList.drop ((i+(n-j))*5+(Builtin.zeroCells z1.cells (j-i)).toList.length)).toArray:=⟨_,rfl⟩
 have VH:(Builtin.zeroCells z1.cells (j-i)).toList.length=(j-i)*5:=by simp[Builtin.zeroCells,FH]
 have Lr:di.size=cur.size:=by rw[vZ];simp[VH];omega
 have uM:∀ty sc,(Builtin.clear_ #[22] ty #[.slice (some ⟨g,(i+(n-j))*5,none⟩) (n-(i+(n-j))) sc]).run Tryz.prog (w.drew.setRow g cur1)=.ok (.tuple #[]) ((w.drew.setRow g cur1).setRow g di):=fun ty sc=>by
  have:=ry (P:=Tryz.prog) (w.drew.setRow g cur1) 22 ty 48 5 g ((i+(n-j))*5) (j-i) sc cur1 i1 z1 ht TW Tp FH yv (setRow_heap w.drew g cur _ 48 _ hg) (by omega) (by omega)
  rw[show n-(i+(n-j))=j-i by omega,this,vZ]
 have kV:di.toList.take ((i+(n-j))*5)=xs.take (i*5)++xs.drop (j*5):=Ii (cur1:=cur1.toList) jn (by simp;omega) (by omega) Oq (by rw[fD]) (by rw[vZ])
 clear fD vZ jn yX
 have h63:c≤9223372036854775807:=by unfold maxLen at hc;omega
 have jS:i≤n:=by omega
 have hic:¬(c=i):=by omega
 have hjc:j≤c:=by omega
 have bp:¬((i:Int)=(j:Int)):=by omega
 have lE:i≤j:=by omega
 have afZ:i≤c:=by omega
 have af0:i+(n-j)≤n:=by omega
 have af1:i+(n-j)≤c:=by omega
 have af2:¬(c=i+(n-j)):=by omega
 have af3:(i:Int)+((n-j:Nat):Int)≤(n:Int):=by omega
 have mixed:Tryz.prog.follows .mixedOrders=true:=by kernel_rfl
 by_cases Nz:c=j
 ·rw[if_pos Nz]at hX
  subst hX
  subst Nz
  obtain rfl:n=c:=by omega
  simp only[Nat.sub_self,Nat.add_zero]at Ny uM kV ⊢
  go_enter Tryz.func109,Tryz.ntmps109
  go_wp2_with fail
  go_region_law (go_loud (refine iK rfl _ _ 22 22 rfl (.slice (some ⟨g,0,none⟩) i n) (.slice (some ⟨g,0,none⟩) 0 0) (by simp[Act.eval,Act.put]) (by simp[Act.eval,Act.put]) (Ny 22 0) ?_))
  go_wp2_with (simp only[uM])
  go_ret
  refine⟨rfl,di,setRow_heap _ g cur1 _ 48 _ (setRow_heap w.drew g cur _ 48 _ hg),Lr,kV,⟨rfl,rfl,rfl,by simp[World.setRow],fun k hk Nx=>?_⟩⟩
  have wG:k≠g:=fun e=>Nx (by rw[e])
  rw[_root_.Go.setRow_other _ g k _ wG,_root_.Go.setRow_other _ g k _ wG];rfl
 ·rw[if_neg Nz]at hX
  subst hX
  go_enter Tryz.func109,Tryz.ntmps109
  go_wp2_with fail
  go_region_law (go_loud (refine iK rfl _ _ 22 22 rfl (.slice (some ⟨g,0,none⟩) i c) (.slice (some ⟨g,j*5,none⟩) (n-j) (c-j)) (by simp[Act.eval,Act.put]) (by simp[Act.eval,Act.put]) (Ny 22 (c-j)) ?_))
  go_wp2_with (simp only[uM])
  go_ret
  refine⟨rfl,di,setRow_heap _ g cur1 _ 48 _ (setRow_heap w.drew g cur _ 48 _ hg),Lr,kV,⟨rfl,rfl,rfl,by simp[World.setRow],fun k hk Nx=>?_⟩⟩
  have wG:k≠g:=fun e=>Nx (by rw[e])
  rw[_root_.Go.setRow_other _ g k _ wG,_root_.Go.setRow_other _ g k _ wG];rfl
theorem Xl:Kl Tryz.prog 109 48 5:=fun w v n i j xs hv AW Oq hm h1=>by
 rcases hv.2 with⟨h0,_⟩|⟨g,c,cur,rfl,Js,hg,Dd,FI,jf,jn⟩
 ·omega
 have j7:ob (.slice (some ⟨g,0,none⟩) n c)=some g:=by simp only[ob];rw[if_neg (by omega)]
 refine(Ij w g c n i j (if c=j then 0 else j*5) xs cur hg jf jn hv.1 AW Oq Dd FI (by split<;>rfl) h1).mono fun en w' ⟨e1,dm,e2,e3,e4,e5⟩=>?_
 refine⟨_,e1,⟨?_,.inr ⟨g,c,dm,rfl,Js,e2,by omega,FI,by rw[e3,jf],e4⟩⟩,by rw[j7];exact e5,?_⟩
 ·have hl:=hv.1
  simp only[List.length_append,List.length_take,List.length_drop];omega
 ·rw[j7];simp only[ob];rw[if_neg (by omega)]
end Go.Vs
namespace Go.Vs
open Go.Proofs
variable {P:Program}
theorem Ce{Z:Nat→Prop}{w:World}{k:K}{xs:List k.T}{vs:List Value}(hv:nI Z w k xs vs)(hl:vs.length=xs.length*k.sz):∀q∈vs,q.oneCell'=true:=fun q hq=>by
 obtain⟨p,hp⟩:=List.getElem?_of_mem hq
 have aM:p<vs.length:=(List.getElem?_eq_some_iff.1 hp).1
 have hs:=k.iP
 have hd:p / k.sz<xs.length:=Nat.div_lt_of_lt_mul (by rw[Nat.mul_comm];omega)
 have hr:=hv (p / k.sz) _ (List.getElem?_eq_getElem hd)
 refine hr.one q ?_
 have hm:=Nat.mod_add_div p k.sz
 have hml:=Nat.mod_lt p hs
 have:((vs.drop (p / k.sz*k.sz)).take k.sz)[p%k.sz]? = some q:=by
  rw[List.getElem?_take,if_pos hml,List.getElem?_drop,Nat.mul_comm,Nat.add_comm,hm,hp]
 exact List.mem_of_getElem? this
theorem En{Z:Nat→Prop}{w:World}{k:K}{xs:List k.T}{vs:List Value}(hv:nI Z w k xs vs)(n:Nat):nI Z w k (xs.take n) (vs.take (n*k.sz)):=fun i x hx=>by
 rw[List.getElem?_take]at hx
 split at hx
 ·rename_i hi
  have:=hv i x hx
  have e:((vs.take (n*k.sz)).drop (i*k.sz)).take k.sz=(vs.drop (i*k.sz)).take k.sz:=by
   rw[List.drop_take,List.take_take]
   congr 1
   have:(i+1)*k.sz≤n*k.sz:=Nat.mul_le_mul_right _ hi
   rw[Nat.add_mul]at this;omega
  rw[e];exact this
 ·cases hx
theorem Eo{Z:Nat→Prop}{w:World}{k:K}{xs:List k.T}{vs:List Value}(hv:nI Z w k xs vs)(n:Nat):nI Z w k (xs.drop n) (vs.drop (n*k.sz)):=fun i x hx=>by
 rw[List.getElem?_drop]at hx
 have:=hv (n+i) x hx
 rw[List.drop_drop,←Nat.add_mul];exact this
theorem uB{f:FuncId}{ty:TypeId}{k:K}(hr:FF P f ty k.sz):iU P f (OL ty k):=by
 intro Z ψ h w B0 O N hh id e vs us g hB bz hN bu mW tZ Fa he
 unfold OL at he
 split at he
 rotate_left
 ·cases he
 rename_i o i j
 split at he
 rotate_left
 ·cases he
 rename_i xs ys si Dg
 split at he
 ·cases he
 rename_i hoj
 simp only[Option.some.injEq,Prod.mk.injEq]at he
 obtain⟨mO,rfl⟩:=he
 have hhg:hh.get=h:=mW _ _ rfl
 have S7:hh.get o=some (.own (.row ty k) xs):=kc si
 have hgj:hh.get j=some (.own (.row ty k) ys):=kc Dg
 simp only[ar,aw]at tZ
 obtain⟨v,_,rfl,⟨_,hv⟩,n,_,rfl,rfl,u,_,rfl,⟨_,hu⟩,rfl⟩:=tZ
 simp only[qN,Bool.and_eq_true,decide_eq_true_eq,aP]at mO
 obtain⟨h0,h1,h2,h3⟩:=mO
 obtain⟨m,rfl⟩:∃m:Nat,i=m:=⟨i.toNat,by omega⟩
 subst hhg
 have hvo:v=ψ o:=hv (by rw[S7];simp)
 have huj:u=ψ j:=hu (by rw[hgj];simp)
 obtain⟨vs,OY,vf⟩:=g.row o (.row ty k) xs S7
 obtain⟨jv,ho2,yr⟩:=g.row j (.row ty k) ys hgj
 simp only[aE,aK]at Fa
 have bT:N id:=hN 0 (by omega)
 have bp:o≠id:=fun e=>Fa.1 (e▸bT)
 rw[h2]at ho2
 subst hvo;subst huj
 refine(hr w _ _ xs.length m vs jv OY ho2 (by omega) (by omega) (fun b hb vj=>hoj (g.apart o j b (by rw[S7];simp) (by rw[hgj];simp) hb vj)) (Ce vf OY.1) (Ce yr (by rw[ho2.1,h2]))).mono fun en w' ⟨v',e1,e2,e3,e4⟩=>?_
 have kk:dh ψ hh.get w w':=dh.grown e3 (fun b e=>⟨o,by rw[S7];simp,e⟩)
 have sm:=kk.same g
 have hlen:(gD xs (m:Int) ys).length=xs.length+1:=by
  simp only[gD,Int.toNat_natCast,List.length_append,List.length_take,List.length_drop];omega
 have htl:(vs.take (m*k.sz)).length=(xs.take m).length*k.sz:=by
  have:m*k.sz≤xs.length*k.sz:=Nat.mul_le_mul_right _ (by omega)
  rw[List.length_take,List.length_take,OY.1,Nat.min_eq_left this,Nat.min_eq_left (by omega)]
 have oo:nI Z w k (gD xs (m:Int) ys) (vs.take (m*k.sz)++(jv++vs.drop (m*k.sz))):=(En vf m).append (yr.append (Eo vf m) (by rw[ho2.1,h2])) htl
 have D8:=qX (N:=N) g hB id o bT S7 bp e3 (v:=v') (ok:=.row ty k) (y:=gD xs m ys)
  ⟨_,by rw[hlen];exact e2,oo.GL sm⟩ e4 (fun i ty cs hb=>aE.imp (p:=fun i=>¬N i) (q:=fun i=>i≠id) (fun a ha e=>ha (by rw[e];exact bT)) (bu i ty cs hb))
 have hhp:Heap.get ((id,Ob.own (.row ty k) (gD xs (m:Int) ys))::hh.del o)=eC (eC hh.get o none) id (some (.own (.row ty k) (gD xs m ys))):=by rw[AS,vd]
 refine⟨v',Z,eC ψ id v',e1,?_,?_⟩
 ·show Next Z ψ hh.get w B0 O N Z (eC ψ id v') (Heap.get ((id,Ob.own (.row ty k) (gD xs (m:Int) ys))::hh.del o)) w'
  rw[hhp];exact D8
 ·simp only[bK.v,aw]
  exact⟨e2.one,fun _=>(bq _ _ _).symm⟩
theorem Cf{f:FuncId}{ty:TypeId}{k:K}(hr:Kl P f ty k.sz):iU P f (Th ty k):=by
 intro Z ψ h w B0 O N hh id e vs us g hB bz hN bu mW tZ Fa he
 unfold Th at he
 split at he
 rotate_left
 ·cases he
 rename_i o i j
 split at he
 rotate_left
 ·cases he
 rename_i xs si
 simp only[Option.some.injEq,Prod.mk.injEq]at he
 obtain⟨mO,rfl⟩:=he
 have hhg:hh.get=h:=mW _ _ rfl
 have S7:hh.get o=some (.own (.row ty k) xs):=kc si
 simp only[ar,aw]at tZ
 obtain⟨v,_,rfl,⟨_,hv⟩,n,_,rfl,rfl,u,_,rfl,rfl,rfl⟩:=tZ
 simp only[jU,Bool.and_eq_true,decide_eq_true_eq,aP]at mO
 obtain⟨h0,h1,h2,h3⟩:=mO
 obtain⟨m,rfl⟩:∃m:Nat,i=m:=⟨i.toNat,by omega⟩
 obtain⟨q,rfl⟩:∃m:Nat,j=m:=⟨j.toNat,by omega⟩
 subst hhg
 have hvo:v=ψ o:=hv (by rw[S7];simp)
 obtain⟨vs,OY,vf⟩:=g.row o (.row ty k) xs S7
 simp only[aE,aK]at Fa
 have bT:N id:=hN 0 (by omega)
 have bp:o≠id:=fun e=>Fa.1 (e▸bT)
 subst hvo
 refine(hr w _ xs.length m q vs OY (by omega) (by omega) (by omega) (Ce vf OY.1)).mono fun en w' ⟨v',e1,e2,e3,e4⟩=>?_
 have kk:dh ψ hh.get w w':=dh.grown e3 (fun b e=>⟨o,by rw[S7];simp,e⟩)
 have sm:=kk.same g
 have hlen:(dx xs (m:Int) q).length=m+(xs.length-q):=by
  simp only[dx,Int.toNat_natCast,List.length_append,List.length_take,List.length_drop];omega
 have htl:(vs.take (m*k.sz)).length=(xs.take m).length*k.sz:=by
  have:m*k.sz≤xs.length*k.sz:=Nat.mul_le_mul_right _ (by omega)
  rw[List.length_take,List.length_take,OY.1,Nat.min_eq_left this,Nat.min_eq_left (by omega)]
 have oo:nI Z w k (dx xs (m:Int) q) (vs.take (m*k.sz)++vs.drop (q*k.sz)):=(En vf m).append (Eo vf q) htl
 have D8:=qX (N:=N) g hB id o bT S7 bp e3 (v:=v') (ok:=.row ty k) (y:=dx xs m q)
  ⟨_,by rw[hlen];exact e2,oo.GL sm⟩ (.inl e4) (fun i ty cs hb=>aE.imp (p:=fun i=>¬N i) (q:=fun i=>i≠id) (fun a ha e=>ha (by rw[e];exact bT)) (bu i ty cs hb))
 have hhp:Heap.get ((id,Ob.own (.row ty k) (dx xs (m:Int) q))::hh.del o)=eC (eC hh.get o none) id (some (.own (.row ty k) (dx xs m q))):=by rw[AS,vd]
 refine⟨v',Z,eC ψ id v',e1,?_,?_⟩
 ·show Next Z ψ hh.get w B0 O N Z (eC ψ id v') (Heap.get ((id,Ob.own (.row ty k) (dx xs (m:Int) q))::hh.del o)) w'
  rw[hhp];exact D8
 ·simp only[bK.v,aw]
  exact⟨e2.one,fun _=>(bq _ _ _).symm⟩
end Go.Vs
namespace Go.Vs
open Go.Proofs Go.RowKit
set_option maxHeartbeats 4000000 in
set_option maxRecDepth 100000 in
theorem Km(w:World)(v u:Value)(n:Nat)(xs ys:List Value)(hv:dG w 56 4 v n xs)(hu:dG w 56 4 u 1 ys)(hm:n+1≤fV)(h1:∀q∈ys,q.oneCell'=true) :
  Calls Tryz.prog 130 #[v,.int .i64 n,u] w fun en w'=>∃v',en=.returned v'∧dG w' 56 4 v' (n+1) (xs++ys)∧w.grownBy w' (ob v)∧(ob v'=ob v∨∀b,ob v'=some b→w.heap.size≤b):=by
 have ht:Tryz.prog.underlying 23=some (.slice 56):=by kernel_rfl
 obtain⟨i0,z0,he⟩:=cK (P:=Tryz.prog) (e:=56) (k:=.pair (.pair (.int .i64) (.int .i64)) (.pair .str (.int .i64))) (by kernel_rfl)
 have wR:MF w 4 u 1 ys:=by
  refine⟨hu.1,h1,.inr ?_⟩
  rcases hu.2 with⟨h0,_⟩|⟨g,cap,cur,rfl,_,hg,_,_,hc,jn⟩
  ·cases h0
  ·refine⟨_,_,rfl,fun j q hj=>?_⟩
   rw[cz,Nat.zero_add]
   rw[←jn,List.getElem?_take]at hj
   split at hj
   ·simp[World.cell?,hg];simpa using hj
   ·cases hj
 obtain⟨v',w',dy,h4,h5,h6⟩:=dM (P:=Tryz.prog) (ty:=23) ht he hv wR hm
 obtain⟨A,c,rfl⟩:=hv.slice
 have Dd:n≤c:=by
  rcases hv.2 with⟨h0,A,e⟩|⟨g,cap,cur,e,hc,h2,h3,_⟩
  ·omega
  ·cases e;exact h3
 obtain⟨B,cu,rfl⟩:=hu.slice
 have aaM:n≤1073741824:=by unfold fV at hm;omega
 go_enter Tryz.func130,Tryz.ntmps130
 go_wp2_with (at_builtin;refine Lib.wpList_append_run _ rfl _ _ _ _ rfl _ _ rfl rfl _ _ dy ?_)
 all_goals go_ret
 all_goals first|exact⟨_,rfl,h4,h5,h6⟩|(subst_vars;exact⟨_,rfl,h4,h5,h6⟩)
set_option maxHeartbeats 4000000 in
set_option maxRecDepth 100000 in
theorem FJ(w:World)(g c g2 c2 n i:Nat)(xs ys:List Value)(cur di:Array Value)(hg:w.heap[g]? = some (.cells cur 56 (0,0)))(jf:cur.size=c*4)(jn:cur.toList.take (n*4)=xs)(xz:xs.length=n*4)
  (tK:w.heap[g2]? = some (.cells di 56 (0,0))) (qD:di.size=c2*4) (uN:0<c2) (kU:di.toList.take (1*4)=ys) (Em:ys.length=1*4) (bp:g2≠g) (hi:i<n) (jm:n+1≤c) (hc:c≤maxLen)
  (h1:∀q∈xs,q.oneCell'=true) (h2:∀q∈ys,q.oneCell'=true) :
  Calls Tryz.prog 130 #[.slice (some ⟨g,0,none⟩) n c,.int .i64 i,.slice (some ⟨g2,0,none⟩) 1 c2] w fun en w'=>en=.returned (.slice (some ⟨g,0,none⟩) (n+1) c) ∧
   ∃dm:Array Value,w'.heap[g]? = some (.cells dm 56 (0,0))∧dm.size=cur.size∧dm.toList.take ((n+1)*4)=xs.take (i*4)++(ys++xs.drop (i*4))∧w.grownBy w' (some g):=by
 have ht:Tryz.prog.underlying 23=some (.slice 56):=by kernel_rfl
 have hz:(Tryz.prog.info? 56).map (·.size)=some 4:=by kernel_rfl
 have wS:∀w,(Go.sizeOf 56).run Tryz.prog w=.ok 4 w:=fun w=>by
  cases hq:Tryz.prog.info? 56 with
  |none=>rw[hq]at hz;cases hz
  |some i=>rw[hq]at hz;simp at hz;simp[sizeOf,typeInfo,hq,hz]
 have SZ:∀a2 lb cb,(callFunc 147 #[.slice (some ⟨g2,0,none⟩) 1 c2,.slice (some ⟨g,a2,none⟩) lb cb]).run Tryz.prog w=.ok (.value (.bool false)) w:=fun a2 lb cb=>by
  rw[run_callFunc_extern Tryz.func147 (by kernel_rfl) (by kernel_rfl) (by kernel_rfl) (e:=Extern.SlicesOverlaps.overlaps #[23,23] #[4]) (by kernel_rfl),
   Lib.run_overlaps_apart w 23 4 56 ht 4 wS ⟨g2,0,none⟩ ⟨g,a2,none⟩ 1 c2 lb cb bp 56 56 di.size cur.size (by simp[World.shape?,tK]) (by simp[World.shape?,hg]) (by omega) (by simp[World.frozen?,tK]) (by simp[World.frozen?,tK])]
  rfl
 have Dg:=gL (size:=4) (n:=1) tK kU 0
 have si:=gL (size:=4) (n:=n) hg jn (i*4)
 have h63:c≤9223372036854775807:=by unfold maxLen at hc;omega
 have hn5:n*4≤cur.size:=by omega
 obtain⟨cur1,fD⟩:∃cur1:Array Value,cur1=(cur.toList.take ((i+1)*4)++xs.drop (i*4)++cur.toList.drop ((i+1)*4+(xs.drop (i*4)).length)).toArray:=⟨_,rfl⟩
 have yX:(xs.drop (i*4)).length=(n-i)*4:=by rw[List.length_drop,xz];omega
 have QT:∀(W:World),W.heap=w.heap→∀ty dc sc,(Builtin.copy_ #[23,23] ty #[.slice (some ⟨g,(i+1)*4,none⟩) (n-i) dc,.slice (some ⟨g,i*4,none⟩) (n+1-i) sc]).run Tryz.prog W=.ok (goInt (n-i:Nat)) (W.setRow g cur1):=fun W hW ty dc sc=>by
  have:=ct (P:=Tryz.prog) W 23 23 ty 56 4 g ((i+1)*4) (n-i) dc ⟨g,i*4,none⟩ (n+1-i) sc cur 56 (xs.drop (i*4)) ht hz (by rw[hW];exact hg) (by rw[yX];simp only[Nat.min_def];split<;>omega)
   (fun j v hj=>by have:=si j v hj;simpa only[World.cell?,hW] using this) (by omega) (fun q hq=>h1 q (List.mem_of_mem_drop hq))
  rw[this,fD]
  congr 2
  simp only[Nat.min_def];split<;>omega
 have Gx:cur1.size=cur.size:=by rw[fD];simp;omega
 obtain⟨cur3,nm⟩:∃cur3:Array Value,cur3=(cur1.toList.take (i*4)++ys++cur1.toList.drop (i*4+ys.length)).toArray:=⟨_,rfl⟩
 have QU:∀(W:World),W.heap[g]? = some (.cells cur1 56 (0,0))→W.heap[g2]? = w.heap[g2]?→∀ty dc sc,(Builtin.copy_ #[23,23] ty #[.slice (some ⟨g,i*4,none⟩) (n+1-i) dc,.slice (some ⟨g2,0,none⟩) 1 sc]).run Tryz.prog W=.ok (goInt 1) (W.setRow g cur3):=fun W hW hW2 ty dc sc=>by
  have:=ct (P:=Tryz.prog) W 23 23 ty 56 4 g (i*4) (n+1-i) dc ⟨g2,0,none⟩ 1 sc cur1 56 ys ht hz hW (by rw[Em];simp only[Nat.min_def];split<;>omega)
   (fun j v hj=>by have:=Dg j v (by simpa using hj);simpa only[World.cell?,cJ,hW2] using this) (by omega) h2
  rw[this,nm]
  congr 2
  simp only[Nat.min_def];split<;>omega
 have D7:IntKind.i64.wrap ((i:Int)+1)=(i:Int)+1:=by rw[IntKind.wrap_i64];omega
 have Kj:IntKind.i64.wrap ((n:Int)+1)=(n:Int)+1:=by rw[IntKind.wrap_i64];omega
 have QV:(0:Int)≤(i:Int)+1:=by omega
 have jS:i≤n:=by omega
 have QW:((i:Int)+1).toNat=i+1:=by omega
 have vj:¬(c=i+1):=by omega
 have hb3:(i:Int)≤(n:Int)+1:=by omega
 have hb4:¬(c=i):=by omega
 have C3:¬((i:Int)=(n:Int)):=by omega
 have Jl:¬((c:Int)<(n:Int)+1):=by omega
 have S4:cur3.size=cur.size:=by rw[nm];simp;omega
 have kV:cur3.toList.take ((n+1)*4)=xs.take (i*4)++(ys++xs.drop (i*4)):=Cd (sz:=4) (cur1:=cur1.toList) (cur3:=cur3.toList) jn (by simp;omega) (by rw[Em]) jS (by rw[fD]) (by rw[nm])
 clear nm fD yX jn kU
 have Ic:=QU (w.drew.setRow g cur1) (setRow_heap w.drew g cur _ 56 _ hg) (_root_.Go.setRow_other w.drew g g2 _ bp)
 have mixed:Tryz.prog.follows .mixedOrders=true:=by kernel_rfl
 go_enter Tryz.func130,Tryz.ntmps130
 go_wp2_with (simp only[SZ])
 go_region_law (go_loud (refine step_copy_runI rfl _ _ 23 23 rfl (.slice (some ⟨g,(i+1)*4,none⟩) (n-i) (c-(i+1))) (.slice (some ⟨g,i*4,none⟩) (n+1-i) (c-i)) (by simp[Act.eval,Act.put]) (by simp[Act.eval,Act.put]) (QT w.drew rfl 3 (c-(i+1)) (c-i)) ?_))
 go_wp2_with (simp only[Ic])
 go_ret
 refine⟨rfl,cur3,setRow_heap _ g cur1 _ 56 _ (setRow_heap w.drew g cur _ 56 _ hg),S4,kV,⟨rfl,rfl,rfl,by simp[World.setRow],fun k hk Nx=>?_⟩⟩
 have wG:k≠g:=fun e=>Nx (by rw[e])
 rw[_root_.Go.setRow_other _ g k _ wG,_root_.Go.setRow_other _ g k _ wG];rfl
set_option maxHeartbeats 4000000 in
set_option maxRecDepth 100000 in
theorem Ik(w:World)(g c g2 c2 n i:Nat)(xs ys:List Value)(cur di:Array Value)(hg:w.heap[g]? = some (.cells cur 56 (0,0)))(jf:cur.size=c*4)(jn:cur.toList.take (n*4)=xs)(xz:xs.length=n*4)
  (tK:w.heap[g2]? = some (.cells di 56 (0,0))) (qD:di.size=c2*4) (uN:0<c2) (kU:di.toList.take (1*4)=ys) (Em:ys.length=1*4) (bp:g2≠g) (hi:i<n) (Dd:n≤c) (jm:c<n+1) (hm:n+1≤fV)
  (h1:∀q∈xs,q.oneCell'=true) (h2:∀q∈ys,q.oneCell'=true) :
  Calls Tryz.prog 130 #[.slice (some ⟨g,0,none⟩) n c,.int .i64 i,.slice (some ⟨g2,0,none⟩) 1 c2] w fun en w'=>∃G,en=.returned (.slice (some ⟨w.heap.size,0,none⟩) (n+1) G) ∧
   ∃dm:Array Value,w'.heap[w.heap.size]? = some (.cells dm 56 (0,0))∧dm.size=G*4∧n+1≤G∧G≤maxLen∧dm.toList.take ((n+1)*4)=xs.take (i*4)++(ys++xs.drop (i*4))∧w.grownBy w' (some g):=by
 have ht:Tryz.prog.underlying 23=some (.slice 56):=by kernel_rfl
 have QW:Tryz.prog.underlying 3=some (.int .i64):=by kernel_rfl
 have hz:(Tryz.prog.info? 56).map (·.size)=some 4:=by kernel_rfl
 obtain⟨i0,z0,he⟩:=cK (P:=Tryz.prog) (e:=56) (k:=.pair (.pair (.int .i64) (.int .i64)) (.pair .str (.int .i64))) (by kernel_rfl)
 have FH:z0.cells.size=4:=he.tn
 have wS:i0.size=4:=he.size
 have DA:=he.bytes
 have Dg:=gL (size:=4) (n:=1) tK kU 0
 have si:=gL (size:=4) (n:=n) hg jn (i*4)
 have Ig:=gL (size:=4) (n:=n) hg jn 0
 have S5:g<w.heap.size:=(Array.getElem?_eq_some_iff.1 hg).1
 have QX:g2<w.heap.size:=(Array.getElem?_eq_some_iff.1 tK).1
 unfold fV at hm
 have j8:(n+1)*i0.bytes≤140737488355328:=Nat.le_trans (Nat.mul_le_mul hm DA) (by decide)
 have hold:(Builtin.firstCells i0.size i (.slice (some ⟨g,0,none⟩) i c)).run Tryz.prog w.drew=.ok (xs.take (i*4)).toArray w.drew:=by
  rw[wS]
  exact run_firstCells_some w.drew 4 i ⟨g,0,none⟩ i c (xs.take (i*4)) (by rw[List.length_take];omega) (fun j v hj=>by
   rw[List.getElem?_take]at hj
   split at hj
   ·exact Ig j v hj
   ·cases hj)
 obtain⟨G,hG⟩:∃G,G=grownCap w (n+1) c 56:=⟨_,rfl⟩
 obtain⟨jo,qE⟩:∃jo:Array Value,jo=(xs.take (i*4)).toArray++Builtin.zeroCells z0.cells (n+1-i)++Builtin.zeroCells z0.cells (G-(n+1)):=⟨_,rfl⟩
 have PJ:i+(n+1-i)=n+1:=by omega
 have S6:∀ty,(Builtin.append_ #[23,3] ty #[.slice (some ⟨g,0,none⟩) i c,.int .i64 ((n:Int)+1-(i:Int))]).run Tryz.prog w=.ok (.slice (some ⟨w.heap.size,0,none⟩) (n+1) G) (w.drew.alloc (.cells jo 56)):=fun ty=>by
  have h:=Lib.run_append_grow_zeros w 23 3 ty 56 i0 z0 .i64 .i64 ht QW he.info he.zero (some ⟨g,0,none⟩) i c (xs.take (i*4)) hold (n+1-i) (by omega) (by omega) (by omega) (by omega)
   (Nat.le_trans (Nat.mul_le_mul_right _ (show n+1-i≤n+1 by omega)) (by omega)) (by rw[PJ];exact growslice_fits jm j8)
  rw[PJ]at h
  rw[show(n:Int)+1-(i:Int)=((n+1-i:Nat):Int) by omega,qE,hG]
  exact h
 have YF:n+1≤G:=by rw[hG];exact grownCap_ge w _ _ _
 have Kk:G≤9223372036854775807:=by
  have:=grownCap_le_maxLen w (n+1) c 56 (by unfold maxLen;omega)
  rw[←hG]at this
  unfold maxLen at this
  omega
 have hRs:jo.size=G*4:=by
  rw[qE]
  simp[Builtin.zeroCells,FH,List.length_take,xz]
  rw[Nat.min_eq_left (by omega)];omega
 have VG:jo.toList.take (i*4)=xs.take (i*4):=by
  rw[qE]
  simp only[Array.toList_append,List.append_assoc]
  exact List.take_left' (by rw[List.length_take];omega)
 obtain⟨W1,oX⟩:∃W1,W1=w.drew.alloc (.cells jo 56):=⟨_,rfl⟩
 have rz:W1.heap[w.heap.size]? = some (.cells jo 56 (0,0)):=by rw[oX];exact(MapKept.heap_alloc w.drew (.cells jo 56)).1
 have te:∀b,b<w.heap.size→W1.heap[b]? = w.heap[b]? := fun b hb=>by rw[oX];exact(Below.heap_alloc w.drew (.cells jo 56) b hb).trans rfl
 have tf:w.grownBy W1 none:=⟨by rw[oX];rfl,by rw[oX];rfl,by rw[oX];rfl,by have:=(Array.getElem?_eq_some_iff.1 rz).1;omega,fun k hk _=>te k hk⟩
 obtain⟨row2,np⟩:∃row2:Array Value,row2=(jo.toList.take (i*4)++ys++jo.toList.drop (i*4+ys.length)).toArray:=⟨_,rfl⟩
 have Lr:row2.size=jo.size:=by rw[np];simp;omega
 have QY:∀(W:World),W.heap=W1.heap→∀ty dc sc,(Builtin.copy_ #[23,23] ty #[.slice (some ⟨w.heap.size,i*4,none⟩) (n+1-i) dc,.slice (some ⟨g2,0,none⟩) 1 sc]).run Tryz.prog W=.ok (goInt 1) (W.setRow w.heap.size row2):=fun W hW ty dc sc=>by
  have:=ct (P:=Tryz.prog) W 23 23 ty 56 4 w.heap.size (i*4) (n+1-i) dc ⟨g2,0,none⟩ 1 sc jo 56 ys ht hz (by rw[hW];exact rz) (by rw[Em];simp only[Nat.min_def];split<;>omega)
   (fun j v hj=>by have:=Dg j v (by simpa using hj);simpa only[World.cell?,cJ,hW,te g2 QX] using this) (by omega) h2
  rw[this,np]
  congr 2
  simp only[Nat.min_def];split<;>omega
 obtain⟨row3,nq⟩:∃row3:Array Value,row3=(row2.toList.take ((i+1)*4)++xs.drop (i*4)++row2.toList.drop ((i+1)*4+(xs.drop (i*4)).length)).toArray:=⟨_,rfl⟩
 have yX:(xs.drop (i*4)).length=(n-i)*4:=by rw[List.length_drop,xz];omega
 have S4:row3.size=jo.size:=by rw[nq];simp;omega
 have QZ:∀(W:World),W.heap=(W1.setRow w.heap.size row2).heap→∀ty dc sc,(Builtin.copy_ #[23,23] ty #[.slice (some ⟨w.heap.size,(i+1)*4,none⟩) (n-i) dc,.slice (some ⟨g,i*4,none⟩) (n-i) sc]).run Tryz.prog W=.ok (goInt (n-i:Nat)) (W.setRow w.heap.size row3):=fun W hW ty dc sc=>by
  have:=ct (P:=Tryz.prog) W 23 23 ty 56 4 w.heap.size ((i+1)*4) (n-i) dc ⟨g,i*4,none⟩ (n-i) sc row2 56 (xs.drop (i*4)) ht hz (by rw[hW];exact setRow_heap W1 w.heap.size jo _ 56 _ rz) (by rw[yX];simp only[Nat.min_def];split<;>omega)
   (fun j v hj=>by have:=si j v hj;simpa only[World.cell?,cJ,hW,_root_.Go.setRow_other W1 w.heap.size g _ (Nat.ne_of_lt S5),te g S5] using this) (by omega) (fun q hq=>h1 q (List.mem_of_mem_drop hq))
  rw[this,nq]
  congr 2
  simp only[Nat.min_def];split<;>omega
 have kV:row3.toList.take ((n+1)*4)=xs.take (i*4)++(ys++xs.drop (i*4)):=xC (sz:=4) (row:=jo.toList) (row2:=row2.toList) (row3:=row3.toList) VG (by simp;omega) xz (by rw[Em]) (by omega) (by rw[np]) (by rw[nq])
 clear nq np qE yX jn kU VG Ig hold hG
 have D7:IntKind.i64.wrap ((i:Int)+1)=(i:Int)+1:=by rw[IntKind.wrap_i64];omega
 have Kj:IntKind.i64.wrap ((n:Int)+1)=(n:Int)+1:=by rw[IntKind.wrap_i64];omega
 have hw3:IntKind.i64.wrap ((n:Int)+1-(i:Int))=(n:Int)+1-(i:Int):=by rw[IntKind.wrap_i64];omega
 have QV:(0:Int)≤(i:Int)+1:=by omega
 have jS:i≤n:=by omega
 have aaQ:((i:Int)+1).toNat=i+1:=by omega
 have hGi:¬(G=i):=by omega
 have aaR:¬(G=i+1):=by omega
 have hci:¬(c=i):=by omega
 have hb3:(i:Int)≤(n:Int):=by omega
 have C3:¬((i:Int)=(n:Int)):=by omega
 have Jl:(c:Int)<(n:Int)+1:=by omega
 rw[←oX]at S6
 clear oX
 have mixed:Tryz.prog.follows .mixedOrders=true:=by kernel_rfl
 go_enter Tryz.func130,Tryz.ntmps130
 go_wp2_with (first
  |(at_builtin;refine Lib.wpList_append_run _ rfl _ _ _ _ rfl _ _ rfl rfl _ _ (S6 _) ?_)
  |(at_builtin;refine wpList_copy_runI _ rfl _ _ 23 23 rfl _ _ rfl rfl (QY _ (by rfl) _ _ _) ?_))
 go_region_law (go_loud (refine step_copy_runI rfl _ _ 23 23 rfl (.slice (some ⟨w.heap.size,(i+1)*4,none⟩) (n-i) (G-(i+1))) (.slice (some ⟨g,i*4,none⟩) (n-i) (c-i)) (by simp[Act.eval,Act.put]) (by simp[Act.eval,Act.put]) (QZ (W1.setRow w.heap.size row2).drew rfl 3 (G-(i+1)) (c-i)) ?_))
 go_wp2
 go_ret
 refine⟨G,rfl,row3,setRow_heap _ w.heap.size row2 _ 56 _ (setRow_heap W1 w.heap.size jo _ 56 _ rz),by omega,YF,Kk,kV,⟨tf.os,tf.tape,tf.output,by have:=tf.size;simpa[World.setRow] using this,fun k hk _=>?_⟩⟩
 rw[_root_.Go.setRow_other _ w.heap.size k _ (Nat.ne_of_lt hk)]
 exact(_root_.Go.setRow_other W1 w.heap.size k _ (Nat.ne_of_lt hk)).trans (te k hk)
theorem Xm:FF Tryz.prog 130 56 4:=fun w v u n i xs ys hv hu hi hm Ny h1 h2=>by
 by_cases he:i=n
 ·subst he
  refine(Km w v u i xs ys hv hu hm h2).mono fun en w' ⟨v',e1,e2,e3,e4⟩=>⟨v',e1,?_,e3,e4⟩
  have hl:=hv.1
  rw[List.take_of_length_le (by omega),List.drop_eq_nil_of_le (by omega),List.append_nil]
  exact e2
 ·have jS:i<n:=by omega
  rcases hv.2 with⟨h0,_⟩|⟨g,c,cur,rfl,Js,hg,Dd,FI,jf,jn⟩
  ·omega
  rcases hu.2 with⟨h0,_⟩|⟨g2,c2,di,rfl,Ih,tK,_,_,qD,kU⟩
  ·omega
  have j7:ob (.slice (some ⟨g,0,none⟩) n c)=some g:=by simp only[ob];rw[if_neg (by omega)]
  have Q1:ob (.slice (some ⟨g2,0,none⟩) 1 c2)=some g2:=by simp only[ob];rw[if_neg (by omega)]
  have bp:g2≠g:=fun e=>Ny g j7 (by rw[Q1,e])
  by_cases jm:n+1≤c
  ·refine(FJ w g c g2 c2 n i xs ys cur di hg jf jn hv.1 tK qD Ih kU hu.1 bp jS jm FI h1 h2).mono fun en w' ⟨e1,dm,e2,e3,e4,e5⟩=>?_
   refine⟨_,e1,⟨?_,.inr ⟨g,c,dm,rfl,Js,e2,jm,FI,by rw[e3,jf],e4⟩⟩,by rw[j7];exact e5,.inl ?_⟩
   ·have hl:=hv.1;have uc:=hu.1
    simp only[List.length_append,List.length_take,List.length_drop];omega
   ·rw[j7];simp only[ob];rw[if_neg (by omega)]
  ·refine(Ik w g c g2 c2 n i xs ys cur di hg jf jn hv.1 tK qD Ih kU hu.1 bp jS Dd (by omega) hm h1 h2).mono fun en w' ⟨G,e1,dm,e2,e3,e4,e5,e6,e7⟩=>?_
   refine⟨_,e1,⟨?_,.inr ⟨w.heap.size,G,dm,rfl,by omega,e2,e4,e5,e3,e6⟩⟩,by rw[j7];exact e7,.inr fun b hb=>?_⟩
   ·have hl:=hv.1;have uc:=hu.1
    simp only[List.length_append,List.length_take,List.length_drop];omega
   ·simp only[ob]at hb;rw[if_neg (by omega)]at hb;cases hb;omega
set_option maxHeartbeats 4000000 in
set_option maxRecDepth 100000 in
theorem Il(w:World)(g c n i j X:Nat)(xs:List Value)(cur:Array Value)(hg:w.heap[g]? = some (.cells cur 56 (0,0)))(jf:cur.size=c*4)(jn:cur.toList.take (n*4)=xs)(xz:xs.length=n*4)
  (AW:i<j) (Oq:j≤n) (Dd:n≤c) (hc:c≤maxLen) (hX:if c=j then X=0 else X=j*4)
  (h1:∀q∈xs,q.oneCell'=true) :
  Calls Tryz.prog 120 #[.slice (some ⟨g,0,none⟩) n c,.int .i64 i,.int .i64 j] w fun en w'=>en=.returned (.slice (some ⟨g,0,none⟩) (i+(n-j)) c) ∧
   ∃dm:Array Value,w'.heap[g]? = some (.cells dm 56 (0,0))∧dm.size=cur.size∧dm.toList.take ((i+(n-j))*4)=xs.take (i*4)++xs.drop (j*4)∧w.grownBy w' (some g):=by
 have ht:Tryz.prog.underlying 23=some (.slice 56):=by kernel_rfl
 have hz:(Tryz.prog.info? 56).map (·.size)=some 4:=by kernel_rfl
 obtain⟨zs,wS⟩:∃zs,Au Tryz.prog 56=some zs:=Option.isSome_iff_exists.1 (by kernel_rfl)
 obtain⟨i0,z0,TW,Tp,rfl,yv⟩:=pf wS
 obtain⟨i1,z1,he⟩:=cK (P:=Tryz.prog) (e:=56) (k:=.pair (.pair (.int .i64) (.int .i64)) (.pair .str (.int .i64))) (by kernel_rfl)
 have ei:i1=i0:=by have:=he.info;rw[TW]at this;cases this;rfl
 subst ei
 have ez:z1=z0:=by have:=he.zero;rw[Tp]at this;cases this;rfl
 subst ez
 have FH:z1.cells.size=4:=he.tn
 clear he wS
 have yX:(xs.drop (j*4)).length=(n-j)*4:=by rw[List.length_drop,xz];omega
 obtain⟨cur1,fD⟩:∃cur1:Array Value,cur1=(cur.toList.take (i*4)++xs.drop (j*4)++cur.toList.drop (i*4+(xs.drop (j*4)).length)).toArray:=⟨_,rfl⟩
 have Gx:cur1.size=cur.size:=by rw[fD];simp;omega
 have Ny:∀ty sc,(Builtin.append_ #[23,23] ty #[.slice (some ⟨g,0,none⟩) i c,.slice (some ⟨g,X,none⟩) (n-j) sc]).run Tryz.prog w.drew=.ok (.slice (some ⟨g,0,none⟩) (i+(n-j)) c) (w.drew.setRow g cur1):=fun ty sc=>by
  by_cases Nz:c=j
  ·have hnj:n=j:=by omega
   have:n-j=0:=by omega
   rw[this]at yX ⊢
   have GN:xs.drop (j*4)=[]:=List.eq_nil_of_length_eq_zero (by omega)
   rw[fH ht TW _ _ _ (by omega) _ _,fD,GN]
   simp only[List.append_nil,List.length_nil,Nat.add_zero,List.take_append_drop,Array.toArray_toList]
   rw[setRow_self w.drew g cur 56 (0,0) hg]
  ·rw[if_neg Nz]at hX
   subst hX
   rw[fD]
   exact oG (P:=Tryz.prog) w.drew 23 ty 56 4 g i c ⟨g,j*4,none⟩ (n-j) sc cur (xs.drop (j*4)) ht hz hg yX (gL (size:=4) (n:=n) (w:=w.drew) hg jn (j*4)) (fun q hq=>h1 q (List.mem_of_mem_drop hq)) (by omega) (by omega)
 obtain⟨di,vZ⟩:∃di:Array Value,di=(cur1.toList.take ((i+(n-j))*4)++(Builtin.zeroCells z1.cells (j-i)).toList++cur1.toList.drop ((i+(n-j))*4+(Builtin.zeroCells z1.cells (j-i)).toList.length)).toArray:=⟨_,rfl⟩
 have VH:(Builtin.zeroCells z1.cells (j-i)).toList.length=(j-i)*4:=by simp[Builtin.zeroCells,FH]
 have Lr:di.size=cur.size:=by rw[vZ];simp[VH];omega
 have uM:∀ty sc,(Builtin.clear_ #[23] ty #[.slice (some ⟨g,(i+(n-j))*4,none⟩) (n-(i+(n-j))) sc]).run Tryz.prog (w.drew.setRow g cur1)=.ok (.tuple #[]) ((w.drew.setRow g cur1).setRow g di):=fun ty sc=>by
  have:=ry (P:=Tryz.prog) (w.drew.setRow g cur1) 23 ty 56 4 g ((i+(n-j))*4) (j-i) sc cur1 i1 z1 ht TW Tp FH yv (setRow_heap w.drew g cur _ 56 _ hg) (by omega) (by omega)
  rw[show n-(i+(n-j))=j-i by omega,this,vZ]
 have kV:di.toList.take ((i+(n-j))*4)=xs.take (i*4)++xs.drop (j*4):=Ii (cur1:=cur1.toList) jn (by simp;omega) (by omega) Oq (by rw[fD]) (by rw[vZ])
 clear fD vZ jn yX
 have h63:c≤9223372036854775807:=by unfold maxLen at hc;omega
 have jS:i≤n:=by omega
 have hic:¬(c=i):=by omega
 have hjc:j≤c:=by omega
 have bp:¬((i:Int)=(j:Int)):=by omega
 have lE:i≤j:=by omega
 have afZ:i≤c:=by omega
 have af0:i+(n-j)≤n:=by omega
 have af1:i+(n-j)≤c:=by omega
 have af2:¬(c=i+(n-j)):=by omega
 have af3:(i:Int)+((n-j:Nat):Int)≤(n:Int):=by omega
 have mixed:Tryz.prog.follows .mixedOrders=true:=by kernel_rfl
 by_cases Nz:c=j
 ·rw[if_pos Nz]at hX
  subst hX
  subst Nz
  obtain rfl:n=c:=by omega
  simp only[Nat.sub_self,Nat.add_zero]at Ny uM kV ⊢
  go_enter Tryz.func120,Tryz.ntmps120
  go_wp2_with fail
  go_region_law (go_loud (refine iK rfl _ _ 23 23 rfl (.slice (some ⟨g,0,none⟩) i n) (.slice (some ⟨g,0,none⟩) 0 0) (by simp[Act.eval,Act.put]) (by simp[Act.eval,Act.put]) (Ny 23 0) ?_))
  go_wp2_with (simp only[uM])
  go_ret
  refine⟨rfl,di,setRow_heap _ g cur1 _ 56 _ (setRow_heap w.drew g cur _ 56 _ hg),Lr,kV,⟨rfl,rfl,rfl,by simp[World.setRow],fun k hk Nx=>?_⟩⟩
  have wG:k≠g:=fun e=>Nx (by rw[e])
  rw[_root_.Go.setRow_other _ g k _ wG,_root_.Go.setRow_other _ g k _ wG];rfl
 ·rw[if_neg Nz]at hX
  subst hX
  go_enter Tryz.func120,Tryz.ntmps120
  go_wp2_with fail
  go_region_law (go_loud (refine iK rfl _ _ 23 23 rfl (.slice (some ⟨g,0,none⟩) i c) (.slice (some ⟨g,j*4,none⟩) (n-j) (c-j)) (by simp[Act.eval,Act.put]) (by simp[Act.eval,Act.put]) (Ny 23 (c-j)) ?_))
  go_wp2_with (simp only[uM])
  go_ret
  refine⟨rfl,di,setRow_heap _ g cur1 _ 56 _ (setRow_heap w.drew g cur _ 56 _ hg),Lr,kV,⟨rfl,rfl,rfl,by simp[World.setRow],fun k hk Nx=>?_⟩⟩
  have wG:k≠g:=fun e=>Nx (by rw[e])
  rw[_root_.Go.setRow_other _ g k _ wG,_root_.Go.setRow_other _ g k _ wG];rfl
theorem Xn:Kl Tryz.prog 120 56 4:=fun w v n i j xs hv AW Oq hm h1=>by
 rcases hv.2 with⟨h0,_⟩|⟨g,c,cur,rfl,Js,hg,Dd,FI,jf,jn⟩
 ·omega
 have j7:ob (.slice (some ⟨g,0,none⟩) n c)=some g:=by simp only[ob];rw[if_neg (by omega)]
 refine(Il w g c n i j (if c=j then 0 else j*4) xs cur hg jf jn hv.1 AW Oq Dd FI (by split<;>rfl) h1).mono fun en w' ⟨e1,dm,e2,e3,e4,e5⟩=>?_
 refine⟨_,e1,⟨?_,.inr ⟨g,c,dm,rfl,Js,e2,by omega,FI,by rw[e3,jf],e4⟩⟩,by rw[j7];exact e5,?_⟩
 ·have hl:=hv.1
  simp only[List.length_append,List.length_take,List.length_drop];omega
 ·rw[j7];simp only[ob];rw[if_neg (by omega)]
end Go.Vs
namespace Go.Vs
open Go.Proofs Go.RowKit
set_option maxHeartbeats 4000000 in
set_option maxRecDepth 100000 in
theorem Kn(w:World)(v u:Value)(n:Nat)(xs ys:List Value)(hv:dG w 103 6 v n xs)(hu:dG w 103 6 u 1 ys)(hm:n+1≤fV)(h1:∀q∈ys,q.oneCell'=true) :
  Calls Tryz.prog 156 #[v,.int .i64 n,u] w fun en w'=>∃v',en=.returned v'∧dG w' 103 6 v' (n+1) (xs++ys)∧w.grownBy w' (ob v)∧(ob v'=ob v∨∀b,ob v'=some b→w.heap.size≤b):=by
 have ht:Tryz.prog.underlying 26=some (.slice 103):=by kernel_rfl
 obtain⟨i0,z0,he⟩:=cK (P:=Tryz.prog) (e:=103) (k:=.pair (.pair (.pair (.int .i64) (.int .i64)) (.int .i64)) (.pair (.pair (.int .i64) (.int .i64)) (.int .i64))) (by kernel_rfl)
 have wR:MF w 6 u 1 ys:=by
  refine⟨hu.1,h1,.inr ?_⟩
  rcases hu.2 with⟨h0,_⟩|⟨g,cap,cur,rfl,_,hg,_,_,hc,jn⟩
  ·cases h0
  ·refine⟨_,_,rfl,fun j q hj=>?_⟩
   rw[cz,Nat.zero_add]
   rw[←jn,List.getElem?_take]at hj
   split at hj
   ·simp[World.cell?,hg];simpa using hj
   ·cases hj
 obtain⟨v',w',dy,h4,h5,h6⟩:=dM (P:=Tryz.prog) (ty:=26) ht he hv wR hm
 obtain⟨A,c,rfl⟩:=hv.slice
 have Dd:n≤c:=by
  rcases hv.2 with⟨h0,A,e⟩|⟨g,cap,cur,e,hc,h2,h3,_⟩
  ·omega
  ·cases e;exact h3
 obtain⟨B,cu,rfl⟩:=hu.slice
 have aaM:n≤1073741824:=by unfold fV at hm;omega
 go_enter Tryz.func156,Tryz.ntmps156
 go_wp2_with (at_builtin;refine Lib.wpList_append_run _ rfl _ _ _ _ rfl _ _ rfl rfl _ _ dy ?_)
 all_goals go_ret
 all_goals first|exact⟨_,rfl,h4,h5,h6⟩|(subst_vars;exact⟨_,rfl,h4,h5,h6⟩)
set_option maxHeartbeats 4000000 in
set_option maxRecDepth 100000 in
theorem FK(w:World)(g c g2 c2 n i:Nat)(xs ys:List Value)(cur di:Array Value)(hg:w.heap[g]? = some (.cells cur 103 (0,0)))(jf:cur.size=c*6)(jn:cur.toList.take (n*6)=xs)(xz:xs.length=n*6)
  (tK:w.heap[g2]? = some (.cells di 103 (0,0))) (qD:di.size=c2*6) (uN:0<c2) (kU:di.toList.take (1*6)=ys) (Em:ys.length=1*6) (bp:g2≠g) (hi:i<n) (jm:n+1≤c) (hc:c≤maxLen)
  (h1:∀q∈xs,q.oneCell'=true) (h2:∀q∈ys,q.oneCell'=true) :
  Calls Tryz.prog 156 #[.slice (some ⟨g,0,none⟩) n c,.int .i64 i,.slice (some ⟨g2,0,none⟩) 1 c2] w fun en w'=>en=.returned (.slice (some ⟨g,0,none⟩) (n+1) c) ∧
   ∃dm:Array Value,w'.heap[g]? = some (.cells dm 103 (0,0))∧dm.size=cur.size∧dm.toList.take ((n+1)*6)=xs.take (i*6)++(ys++xs.drop (i*6))∧w.grownBy w' (some g):=by
 have ht:Tryz.prog.underlying 26=some (.slice 103):=by kernel_rfl
 have hz:(Tryz.prog.info? 103).map (·.size)=some 6:=by kernel_rfl
 have wS:∀w,(Go.sizeOf 103).run Tryz.prog w=.ok 6 w:=fun w=>by
  cases hq:Tryz.prog.info? 103 with
  |none=>rw[hq]at hz;cases hz
  |some i=>rw[hq]at hz;simp at hz;simp[sizeOf,typeInfo,hq,hz]
 have SZ:∀a2 lb cb,(callFunc 168 #[.slice (some ⟨g2,0,none⟩) 1 c2,.slice (some ⟨g,a2,none⟩) lb cb]).run Tryz.prog w=.ok (.value (.bool false)) w:=fun a2 lb cb=>by
  rw[run_callFunc_extern Tryz.func168 (by kernel_rfl) (by kernel_rfl) (by kernel_rfl) (e:=Extern.SlicesOverlaps.overlaps #[26,26] #[4]) (by kernel_rfl),
   Lib.run_overlaps_apart w 26 4 103 ht 6 wS ⟨g2,0,none⟩ ⟨g,a2,none⟩ 1 c2 lb cb bp 103 103 di.size cur.size (by simp[World.shape?,tK]) (by simp[World.shape?,hg]) (by omega) (by simp[World.frozen?,tK]) (by simp[World.frozen?,tK])]
  rfl
 have Dg:=gL (size:=6) (n:=1) tK kU 0
 have si:=gL (size:=6) (n:=n) hg jn (i*6)
 have h63:c≤9223372036854775807:=by unfold maxLen at hc;omega
 have hn5:n*6≤cur.size:=by omega
 obtain⟨cur1,fD⟩:∃cur1:Array Value,cur1=(cur.toList.take ((i+1)*6)++xs.drop (i*6)++cur.toList.drop ((i+1)*6+(xs.drop (i*6)).length)).toArray:=⟨_,rfl⟩
 have yX:(xs.drop (i*6)).length=(n-i)*6:=by rw[List.length_drop,xz];omega
 have QT:∀(W:World),W.heap=w.heap→∀ty dc sc,(Builtin.copy_ #[26,26] ty #[.slice (some ⟨g,(i+1)*6,none⟩) (n-i) dc,.slice (some ⟨g,i*6,none⟩) (n+1-i) sc]).run Tryz.prog W=.ok (goInt (n-i:Nat)) (W.setRow g cur1):=fun W hW ty dc sc=>by
  have:=ct (P:=Tryz.prog) W 26 26 ty 103 6 g ((i+1)*6) (n-i) dc ⟨g,i*6,none⟩ (n+1-i) sc cur 103 (xs.drop (i*6)) ht hz (by rw[hW];exact hg) (by rw[yX];simp only[Nat.min_def];split<;>omega)
   (fun j v hj=>by have:=si j v hj;simpa only[World.cell?,hW] using this) (by omega) (fun q hq=>h1 q (List.mem_of_mem_drop hq))
  rw[this,fD]
  congr 2
  simp only[Nat.min_def];split<;>omega
 have Gx:cur1.size=cur.size:=by rw[fD];simp;omega
 obtain⟨cur3,nm⟩:∃cur3:Array Value,cur3=(cur1.toList.take (i*6)++ys++cur1.toList.drop (i*6+ys.length)).toArray:=⟨_,rfl⟩
 have QU:∀(W:World),W.heap[g]? = some (.cells cur1 103 (0,0))→W.heap[g2]? = w.heap[g2]?→∀ty dc sc,(Builtin.copy_ #[26,26] ty #[.slice (some ⟨g,i*6,none⟩) (n+1-i) dc,.slice (some ⟨g2,0,none⟩) 1 sc]).run Tryz.prog W=.ok (goInt 1) (W.setRow g cur3):=fun W hW hW2 ty dc sc=>by
  have:=ct (P:=Tryz.prog) W 26 26 ty 103 6 g (i*6) (n+1-i) dc ⟨g2,0,none⟩ 1 sc cur1 103 ys ht hz hW (by rw[Em];simp only[Nat.min_def];split<;>omega)
   (fun j v hj=>by have:=Dg j v (by simpa using hj);simpa only[World.cell?,cJ,hW2] using this) (by omega) h2
  rw[this,nm]
  congr 2
  simp only[Nat.min_def];split<;>omega
 have D7:IntKind.i64.wrap ((i:Int)+1)=(i:Int)+1:=by rw[IntKind.wrap_i64];omega
 have Kj:IntKind.i64.wrap ((n:Int)+1)=(n:Int)+1:=by rw[IntKind.wrap_i64];omega
 have QV:(0:Int)≤(i:Int)+1:=by omega
 have jS:i≤n:=by omega
 have QW:((i:Int)+1).toNat=i+1:=by omega
 have vj:¬(c=i+1):=by omega
 have hb3:(i:Int)≤(n:Int)+1:=by omega
 have hb4:¬(c=i):=by omega
 have C3:¬((i:Int)=(n:Int)):=by omega
 have Jl:¬((c:Int)<(n:Int)+1):=by omega
 have S4:cur3.size=cur.size:=by rw[nm];simp;omega
 have kV:cur3.toList.take ((n+1)*6)=xs.take (i*6)++(ys++xs.drop (i*6)):=Cd (sz:=6) (cur1:=cur1.toList) (cur3:=cur3.toList) jn (by simp;omega) (by rw[Em]) jS (by rw[fD]) (by rw[nm])
 clear nm fD yX jn kU
 have Ic:=QU (w.drew.setRow g cur1) (setRow_heap w.drew g cur _ 103 _ hg) (_root_.Go.setRow_other w.drew g g2 _ bp)
 have mixed:Tryz.prog.follows .mixedOrders=true:=by kernel_rfl
 go_enter Tryz.func156,Tryz.ntmps156
 go_wp2_with (simp only[SZ])
 go_region_law (go_loud (refine step_copy_runI rfl _ _ 26 26 rfl (.slice (some ⟨g,(i+1)*6,none⟩) (n-i) (c-(i+1))) (.slice (some ⟨g,i*6,none⟩) (n+1-i) (c-i)) (by simp[Act.eval,Act.put]) (by simp[Act.eval,Act.put]) (QT w.drew rfl 3 (c-(i+1)) (c-i)) ?_))
 go_wp2_with (simp only[Ic])
 go_ret
 refine⟨rfl,cur3,setRow_heap _ g cur1 _ 103 _ (setRow_heap w.drew g cur _ 103 _ hg),S4,kV,⟨rfl,rfl,rfl,by simp[World.setRow],fun k hk Nx=>?_⟩⟩
 have wG:k≠g:=fun e=>Nx (by rw[e])
 rw[_root_.Go.setRow_other _ g k _ wG,_root_.Go.setRow_other _ g k _ wG];rfl
set_option maxHeartbeats 4000000 in
set_option maxRecDepth 100000 in
theorem Im(w:World)(g c g2 c2 n i:Nat)(xs ys:List Value)(cur di:Array Value)(hg:w.heap[g]? = some (.cells cur 103 (0,0)))(jf:cur.size=c*6)(jn:cur.toList.take (n*6)=xs)(xz:xs.length=n*6)
  (tK:w.heap[g2]? = some (.cells di 103 (0,0))) (qD:di.size=c2*6) (uN:0<c2) (kU:di.toList.take (1*6)=ys) (Em:ys.length=1*6) (bp:g2≠g) (hi:i<n) (Dd:n≤c) (jm:c<n+1) (hm:n+1≤fV)
  (h1:∀q∈xs,q.oneCell'=true) (h2:∀q∈ys,q.oneCell'=true) :
  Calls Tryz.prog 156 #[.slice (some ⟨g,0,none⟩) n c,.int .i64 i,.slice (some ⟨g2,0,none⟩) 1 c2] w fun en w'=>∃G,en=.returned (.slice (some ⟨w.heap.size,0,none⟩) (n+1) G) ∧
   ∃dm:Array Value,w'.heap[w.heap.size]? = some (.cells dm 103 (0,0))∧dm.size=G*6∧n+1≤G∧G≤maxLen∧dm.toList.take ((n+1)*6)=xs.take (i*6)++(ys++xs.drop (i*6))∧w.grownBy w' (some g):=by
 have ht:Tryz.prog.underlying 26=some (.slice 103):=by kernel_rfl
 have QW:Tryz.prog.underlying 3=some (.int .i64):=by kernel_rfl
 have hz:(Tryz.prog.info? 103).map (·.size)=some 6:=by kernel_rfl
 obtain⟨i0,z0,he⟩:=cK (P:=Tryz.prog) (e:=103) (k:=.pair (.pair (.pair (.int .i64) (.int .i64)) (.int .i64)) (.pair (.pair (.int .i64) (.int .i64)) (.int .i64))) (by kernel_rfl)
 have FH:z0.cells.size=6:=he.tn
 have wS:i0.size=6:=he.size
 have DA:=he.bytes
 have Dg:=gL (size:=6) (n:=1) tK kU 0
 have si:=gL (size:=6) (n:=n) hg jn (i*6)
 have Ig:=gL (size:=6) (n:=n) hg jn 0
 have S5:g<w.heap.size:=(Array.getElem?_eq_some_iff.1 hg).1
 have QX:g2<w.heap.size:=(Array.getElem?_eq_some_iff.1 tK).1
 unfold fV at hm
 have j8:(n+1)*i0.bytes≤140737488355328:=Nat.le_trans (Nat.mul_le_mul hm DA) (by decide)
 have hold:(Builtin.firstCells i0.size i (.slice (some ⟨g,0,none⟩) i c)).run Tryz.prog w.drew=.ok (xs.take (i*6)).toArray w.drew:=by
  rw[wS]
  exact run_firstCells_some w.drew 6 i ⟨g,0,none⟩ i c (xs.take (i*6)) (by rw[List.length_take];omega) (fun j v hj=>by
   rw[List.getElem?_take]at hj
   split at hj
   ·exact Ig j v hj
   ·cases hj)
 obtain⟨G,hG⟩:∃G,G=grownCap w (n+1) c 103:=⟨_,rfl⟩
 obtain⟨jo,qE⟩:∃jo:Array Value,jo=(xs.take (i*6)).toArray++Builtin.zeroCells z0.cells (n+1-i)++Builtin.zeroCells z0.cells (G-(n+1)):=⟨_,rfl⟩
 have PJ:i+(n+1-i)=n+1:=by omega
 have S6:∀ty,(Builtin.append_ #[26,3] ty #[.slice (some ⟨g,0,none⟩) i c,.int .i64 ((n:Int)+1-(i:Int))]).run Tryz.prog w=.ok (.slice (some ⟨w.heap.size,0,none⟩) (n+1) G) (w.drew.alloc (.cells jo 103)):=fun ty=>by
  have h:=Lib.run_append_grow_zeros w 26 3 ty 103 i0 z0 .i64 .i64 ht QW he.info he.zero (some ⟨g,0,none⟩) i c (xs.take (i*6)) hold (n+1-i) (by omega) (by omega) (by omega) (by omega)
   (Nat.le_trans (Nat.mul_le_mul_right _ (show n+1-i≤n+1 by omega)) (by omega)) (by rw[PJ];exact growslice_fits jm j8)
  rw[PJ]at h
  rw[show(n:Int)+1-(i:Int)=((n+1-i:Nat):Int) by omega,qE,hG]
  exact h
 have YF:n+1≤G:=by rw[hG];exact grownCap_ge w _ _ _
 have Kk:G≤9223372036854775807:=by
  have:=grownCap_le_maxLen w (n+1) c 103 (by unfold maxLen;omega)
  rw[←hG]at this
  unfold maxLen at this
  omega
 have hRs:jo.size=G*6:=by
  rw[qE]
  simp[Builtin.zeroCells,FH,List.length_take,xz]
  rw[Nat.min_eq_left (by omega)];omega
 have VG:jo.toList.take (i*6)=xs.take (i*6):=by
  rw[qE]
  simp only[Array.toList_append,List.append_assoc]
  exact List.take_left' (by rw[List.length_take];omega)
 obtain⟨W1,oX⟩:∃W1,W1=w.drew.alloc (.cells jo 103):=⟨_,rfl⟩
 have rz:W1.heap[w.heap.size]? = some (.cells jo 103 (0,0)):=by rw[oX];exact(MapKept.heap_alloc w.drew (.cells jo 103)).1
 have te:∀b,b<w.heap.size→W1.heap[b]? = w.heap[b]? := fun b hb=>by rw[oX];exact(Below.heap_alloc w.drew (.cells jo 103) b hb).trans rfl
 have tf:w.grownBy W1 none:=⟨by rw[oX];rfl,by rw[oX];rfl,by rw[oX];rfl,by have:=(Array.getElem?_eq_some_iff.1 rz).1;omega,fun k hk _=>te k hk⟩
 obtain⟨row2,np⟩:∃row2:Array Value,row2=(jo.toList.take (i*6)++ys++jo.toList.drop (i*6+ys.length)).toArray:=⟨_,rfl⟩
 have Lr:row2.size=jo.size:=by rw[np];simp;omega
 have QY:∀(W:World),W.heap=W1.heap→∀ty dc sc,(Builtin.copy_ #[26,26] ty #[.slice (some ⟨w.heap.size,i*6,none⟩) (n+1-i) dc,.slice (some ⟨g2,0,none⟩) 1 sc]).run Tryz.prog W=.ok (goInt 1) (W.setRow w.heap.size row2):=fun W hW ty dc sc=>by
  have:=ct (P:=Tryz.prog) W 26 26 ty 103 6 w.heap.size (i*6) (n+1-i) dc ⟨g2,0,none⟩ 1 sc jo 103 ys ht hz (by rw[hW];exact rz) (by rw[Em];simp only[Nat.min_def];split<;>omega)
   (fun j v hj=>by have:=Dg j v (by simpa using hj);simpa only[World.cell?,cJ,hW,te g2 QX] using this) (by omega) h2
  rw[this,np]
  congr 2
  simp only[Nat.min_def];split<;>omega
 obtain⟨row3,nq⟩:∃row3:Array Value,row3=(row2.toList.take ((i+1)*6)++xs.drop (i*6)++row2.toList.drop ((i+1)*6+(xs.drop (i*6)).length)).toArray:=⟨_,rfl⟩
 have yX:(xs.drop (i*6)).length=(n-i)*6:=by rw[List.length_drop,xz];omega
 have S4:row3.size=jo.size:=by rw[nq];simp;omega
 have QZ:∀(W:World),W.heap=(W1.setRow w.heap.size row2).heap→∀ty dc sc,(Builtin.copy_ #[26,26] ty #[.slice (some ⟨w.heap.size,(i+1)*6,none⟩) (n-i) dc,.slice (some ⟨g,i*6,none⟩) (n-i) sc]).run Tryz.prog W=.ok (goInt (n-i:Nat)) (W.setRow w.heap.size row3):=fun W hW ty dc sc=>by
  have:=ct (P:=Tryz.prog) W 26 26 ty 103 6 w.heap.size ((i+1)*6) (n-i) dc ⟨g,i*6,none⟩ (n-i) sc row2 103 (xs.drop (i*6)) ht hz (by rw[hW];exact setRow_heap W1 w.heap.size jo _ 103 _ rz) (by rw[yX];simp only[Nat.min_def];split<;>omega)
   (fun j v hj=>by have:=si j v hj;simpa only[World.cell?,cJ,hW,_root_.Go.setRow_other W1 w.heap.size g _ (Nat.ne_of_lt S5),te g S5] using this) (by omega) (fun q hq=>h1 q (List.mem_of_mem_drop hq))
  rw[this,nq]
  congr 2
  simp only[Nat.min_def];split<;>omega
 have kV:row3.toList.take ((n+1)*6)=xs.take (i*6)++(ys++xs.drop (i*6)):=xC (sz:=6) (row:=jo.toList) (row2:=row2.toList) (row3:=row3.toList) VG (by simp;omega) xz (by rw[Em]) (by omega) (by rw[np]) (by rw[nq])
 clear nq np qE yX jn kU VG Ig hold hG
 have D7:IntKind.i64.wrap ((i:Int)+1)=(i:Int)+1:=by rw[IntKind.wrap_i64];omega
 have Kj:IntKind.i64.wrap ((n:Int)+1)=(n:Int)+1:=by rw[IntKind.wrap_i64];omega
 have hw3:IntKind.i64.wrap ((n:Int)+1-(i:Int))=(n:Int)+1-(i:Int):=by rw[IntKind.wrap_i64];omega
 have QV:(0:Int)≤(i:Int)+1:=by omega
 have jS:i≤n:=by omega
 have aaQ:((i:Int)+1).toNat=i+1:=by omega
 have hGi:¬(G=i):=by omega
 have aaR:¬(G=i+1):=by omega
 have hci:¬(c=i):=by omega
 have hb3:(i:Int)≤(n:Int):=by omega
 have C3:¬((i:Int)=(n:Int)):=by omega
 have Jl:(c:Int)<(n:Int)+1:=by omega
 rw[←oX]at S6
 clear oX
 have mixed:Tryz.prog.follows .mixedOrders=true:=by kernel_rfl
 go_enter Tryz.func156,Tryz.ntmps156
 go_wp2_with (first
  |(at_builtin;refine Lib.wpList_append_run _ rfl _ _ _ _ rfl _ _ rfl rfl _ _ (S6 _) ?_)
  |(at_builtin;refine wpList_copy_runI _ rfl _ _ 26 26 rfl _ _ rfl rfl (QY _ (by rfl) _ _ _) ?_))
 go_region_law (go_loud (refine step_copy_runI rfl _ _ 26 26 rfl (.slice (some ⟨w.heap.size,(i+1)*6,none⟩) (n-i) (G-(i+1))) (.slice (some ⟨g,i*6,none⟩) (n-i) (c-i)) (by simp[Act.eval,Act.put]) (by simp[Act.eval,Act.put]) (QZ (W1.setRow w.heap.size row2).drew rfl 3 (G-(i+1)) (c-i)) ?_))
 go_wp2
 go_ret
 refine⟨G,rfl,row3,setRow_heap _ w.heap.size row2 _ 103 _ (setRow_heap W1 w.heap.size jo _ 103 _ rz),by omega,YF,Kk,kV,⟨tf.os,tf.tape,tf.output,by have:=tf.size;simpa[World.setRow] using this,fun k hk _=>?_⟩⟩
 rw[_root_.Go.setRow_other _ w.heap.size k _ (Nat.ne_of_lt hk)]
 exact(_root_.Go.setRow_other W1 w.heap.size k _ (Nat.ne_of_lt hk)).trans (te k hk)
theorem Xo:FF Tryz.prog 156 103 6:=fun w v u n i xs ys hv hu hi hm Ny h1 h2=>by
 by_cases he:i=n
 ·subst he
  refine(Kn w v u i xs ys hv hu hm h2).mono fun en w' ⟨v',e1,e2,e3,e4⟩=>⟨v',e1,?_,e3,e4⟩
  have hl:=hv.1
  rw[List.take_of_length_le (by omega),List.drop_eq_nil_of_le (by omega),List.append_nil]
  exact e2
 ·have jS:i<n:=by omega
  rcases hv.2 with⟨h0,_⟩|⟨g,c,cur,rfl,Js,hg,Dd,FI,jf,jn⟩
  ·omega
  rcases hu.2 with⟨h0,_⟩|⟨g2,c2,di,rfl,Ih,tK,_,_,qD,kU⟩
  ·omega
  have j7:ob (.slice (some ⟨g,0,none⟩) n c)=some g:=by simp only[ob];rw[if_neg (by omega)]
  have Q1:ob (.slice (some ⟨g2,0,none⟩) 1 c2)=some g2:=by simp only[ob];rw[if_neg (by omega)]
  have bp:g2≠g:=fun e=>Ny g j7 (by rw[Q1,e])
  by_cases jm:n+1≤c
  ·refine(FK w g c g2 c2 n i xs ys cur di hg jf jn hv.1 tK qD Ih kU hu.1 bp jS jm FI h1 h2).mono fun en w' ⟨e1,dm,e2,e3,e4,e5⟩=>?_
   refine⟨_,e1,⟨?_,.inr ⟨g,c,dm,rfl,Js,e2,jm,FI,by rw[e3,jf],e4⟩⟩,by rw[j7];exact e5,.inl ?_⟩
   ·have hl:=hv.1;have uc:=hu.1
    simp only[List.length_append,List.length_take,List.length_drop];omega
   ·rw[j7];simp only[ob];rw[if_neg (by omega)]
  ·refine(Im w g c g2 c2 n i xs ys cur di hg jf jn hv.1 tK qD Ih kU hu.1 bp jS Dd (by omega) hm h1 h2).mono fun en w' ⟨G,e1,dm,e2,e3,e4,e5,e6,e7⟩=>?_
   refine⟨_,e1,⟨?_,.inr ⟨w.heap.size,G,dm,rfl,by omega,e2,e4,e5,e3,e6⟩⟩,by rw[j7];exact e7,.inr fun b hb=>?_⟩
   ·have hl:=hv.1;have uc:=hu.1
    simp only[List.length_append,List.length_take,List.length_drop];omega
   ·simp only[ob]at hb;rw[if_neg (by omega)]at hb;cases hb;omega
end Go.Vs
namespace Go.Vs
open Go.Proofs Go.RowKit
def LN(P:Program)(f:FuncId)(e:TypeId)(size:Nat):Prop :=
 ∀(w:World) (n:Nat),n≤fV→Calls P f #[.slice none 0 0,.int .i64 n] w fun en w'=>∃v',en=.returned v'∧dG w' e size v' 0 []∧w.grownBy w' none∧∀b,ob v'=some b→w.heap.size≤b
set_option maxHeartbeats 4000000 in
set_option maxRecDepth 100000 in
theorem TX:LN Tryz.prog 158 32 3:=fun w n hm=>by
 have ht:Tryz.prog.underlying 46=some (.slice 32):=by kernel_rfl
 have QW:Tryz.prog.underlying 3=some (.int .i64):=by kernel_rfl
 obtain⟨i0,z0,he⟩:=cK (P:=Tryz.prog) (e:=32) (k:=.pair (.pair (.int .i64) (.int .i64)) (.int .i64)) (by kernel_rfl)
 have FH:z0.cells.size=3:=he.tn
 have wS:i0.size=3:=he.size
 have DA:=he.bytes
 unfold fV at hm
 by_cases hn:n=0
 ·subst hn
  have j7:ob (.slice none 0 0)=none:=rfl
  go_enter Tryz.func158,Tryz.ntmps158
  go_wp2
  go_ret
  exact⟨_,rfl,⟨by simp,.inl ⟨rfl,none,rfl⟩⟩,World.grownBy.refl w _,fun b hb=>by simp[ob]at hb⟩
 ·have j8:n*i0.bytes≤281474976710656:=Nat.le_trans (Nat.mul_le_mul hm DA) (by decide)
  obtain⟨G,hG⟩:∃G,G=grownCap w n 0 32:=⟨_,rfl⟩
  obtain⟨jo,qE⟩:∃jo,jo=Builtin.zeroCells z0.cells n++Builtin.zeroCells z0.cells (G-n):=⟨_,rfl⟩
  obtain⟨W1,oX⟩:∃W1,W1=w.drew.alloc (.cells jo 32):=⟨_,rfl⟩
  have S6:∀ty,(Builtin.append_ #[46,3] ty #[.slice none 0 0,.int .i64 n]).run Tryz.prog w=.ok (.slice (some ⟨w.heap.size,0,none⟩) n G) W1:=fun ty=>by
   rw[oX,qE,hG]
   exact Lib.run_append_nil_zeros w 46 3 ty 32 i0 z0 .i64 .i64 ht QW he.info he.zero n (by omega) (by omega) (by omega) j8
  have YF:n≤G:=by rw[hG];exact grownCap_ge w _ _ _
  have Kk:G≤9223372036854775807:=by
   have:=grownCap_le_maxLen w n 0 32 (by unfold maxLen;omega)
   rw[←hG]at this
   unfold maxLen at this
   omega
  have hRs:jo.size=G*3:=by
   rw[qE]
   simp[Builtin.zeroCells,FH]
   omega
  have rz:W1.heap[w.heap.size]? = some (.cells jo 32 (0,0)):=by rw[oX];exact(MapKept.heap_alloc w.drew (.cells jo 32)).1
  have te:∀b,b<w.heap.size→W1.heap[b]? = w.heap[b]? := fun b hb=>by rw[oX];exact(Below.heap_alloc w.drew (.cells jo 32) b hb).trans rfl
  have tf:w.grownBy W1 none:=⟨by rw[oX];rfl,by rw[oX];rfl,by rw[oX];rfl,by have:=(Array.getElem?_eq_some_iff.1 rz).1;omega,fun k hk _=>te k hk⟩
  clear qE oX hG
  have hn0:¬((n:Int)<0):=by omega
  have Zr:0<(n:Int):=by omega
  have hn2:IntKind.i64.wrap (n:Int)=n:=by rw[IntKind.wrap_i64];omega
  have hG0:¬(G=0):=by omega
  go_enter Tryz.func158,Tryz.ntmps158
  go_wp2_with (at_builtin;refine Lib.wpList_append_run _ rfl _ _ _ _ rfl _ _ rfl rfl _ _ (S6 _) ?_)
  go_ret
  refine⟨.slice (some ⟨w.heap.size,0,none⟩) 0 G,rfl,⟨by simp,.inr ⟨w.heap.size,G,jo,rfl,by omega,rz,by omega,Kk,hRs,by simp⟩⟩,tf,fun b hb=>?_⟩
  simp only[ob]at hb;rw[if_neg (by omega)]at hb;cases hb;omega
theorem Io{P:Program}{f:FuncId}{ty:TypeId}{k:K}(hr:LN P f ty k.sz):iU P f (OM ty k):=by
 intro Z ψ h w B0 O N hh id e vs us g hB bz hN bu mW tZ Fa he
 unfold OM at he
 split at he
 rotate_left
 ·cases he
 rename_i n
 simp only[Option.some.injEq,Prod.mk.injEq]at he
 obtain⟨mO,rfl⟩:=he
 simp only[AA,Bool.and_eq_true,decide_eq_true_eq]at mO
 obtain⟨h0,h1⟩:=mO
 obtain⟨m,rfl⟩:∃m:Nat,n=m:=⟨n.toNat,by omega⟩
 simp only[ar,aw]at tZ
 obtain⟨v,_,rfl,rfl,u,_,rfl,rfl,rfl⟩:=tZ
 have bT:N id:=hN 0 (by omega)
 refine(hr w m (by omega)).mono fun en w' ⟨v',e1,e2,e3,e4⟩=>?_
 have kk:dh ψ h w w':=dh.grown e3 (fun b e=>by cases e)
 have D8:=qW (N:=N) g hB id ty bT (k:=k) (xs:=[]) (vs:=[]) kk (fun b hb=>e3.block b (g.bX hb) (by simp)) e2 (fun i x hx=>by simp at hx) e4 (fun i ty cs hb=>aE.imp (p:=fun i=>¬N i) (q:=fun i=>i≠id) (fun a ha e=>ha (by rw[e];exact bT)) (bu i ty cs hb))
 refine⟨v',Z,eC ψ id v',e1,?_,?_⟩
 ·have hhp:(bK.new (.bO id) [(id,Ob.own (.row ty k) [])]).hp h=eC h id (some (.own (.row ty k) [])):=iS id _ h
  rw[hhp];exact D8
 ·simp only[bK.v,aw]
  exact⟨e2.one,fun _=>(bq _ _ _).symm⟩
end Go.Vs
namespace Go.Vs
variable {P:Program}
def zB(P:Program)(g:TypeId→K→Bool):List Field→Nat→K→Bool
 |[],_,_=>false
 |[f],off,k=>(f.name != "_")&&(decide (f.offset=off)&&(decide (P.cellsOf f.type=k.sz)&&g f.type k))
 |f::f'::r,off,.pair a b=>(f.name != "_")&&(decide (f.offset=off)&&(decide (P.cellsOf f.type=a.sz)&&(g f.type a&&zB P g (f'::r) (off+a.sz) b)))
 |_,_,_=>false
def Q2(P:Program):Nat→TypeId→K→Bool
 |0,_,_=>false
 |d+1,t,k =>
  match P.underlying t,k with
  |some (.int a),.int b=>decide (a=b)
  |some .bool,.bool=>true
  |some .string,.str=>true
  |some (.struct fs),.pair a b => !P.stoodInHeld t&&zB P (Q2 P d) fs.toList 0 (.pair a b)
  |_,_=>false
def VK(w:World)(Z:Nat→Prop):(k:K)→k.T→Value→Prop
 |.pair a b,x,v=>∃cs:Array Value,v=.agg cs∧aH Z w (.pair a b) x cs.toList
 |.one k,x,v=>False
 |k,x,v=>aH Z w k x [v]
theorem Af{Z:Nat→Prop}{w:World}{d:Nat}{t:TypeId}{k:K}(hk:Q2 P d t k=true)(hc:P.cellsOf t=k.sz){cs:Array Value}{off:Nat}{x:k.T}(hr:aH Z w k x ((cs.toList.drop off).take k.sz)) :
  ∃v,(part t cs off).run P w=.ok v w∧VK w Z k x v:=by
 cases d with
 |zero=>simp[Q2]at hk
 |succ d =>
  have plain:k.sz=1→(P.underlying t).map Jv=some false→∃v,(part t cs off).run P w=.ok v w∧aH Z w k x [v]:=fun h1 h2=>by
   rw[h1]at hr
   have hl:=hr.len
   rw[h1,List.length_take,List.length_drop,Array.length_toList]at hl
   have aM:off<cs.size:=by omega
   refine⟨cs[off],?_,?_⟩
   ·simp[part,gE h2,aM]
   ·have:(cs.toList.drop off).take 1=[cs[off]]:=by
     rw[List.drop_eq_getElem_cons (by simpa using aM)];simp
    rwa [this]at hr
  unfold Q2 at hk
  split at hk
  ·rename_i a b hu
   exact plain rfl (by rw[hu];rfl)
  ·rename_i hu
   exact plain rfl (by rw[hu];rfl)
  ·rename_i hu
   exact plain rfl (by rw[hu];rfl)
  ·rename_i fs a b hu
   obtain⟨i,hi⟩:=tl hu
   refine⟨.agg (cs.extract off (off+P.cellsOf t)),?_,_,rfl,?_⟩
   ·have h2:(P.underlying t).map Jv=some true:=by rw[hu];rfl
    simp[part,gE h2,dE hi]
   ·rw[Array.toList_extract,hc]
    simpa[List.extract] using hr
  ·cases hk
def jq(em:Bool)(d:Nat)(cs:Array Value):List Field→Sem Unit
 |[]=>pure ()
 |f::fs =>
  if f.name≠ "_" then do
   let a ←part f.type cs f.offset
   Instr.checkKey em d f.type a
   jq em d cs fs
  else jq em d cs fs
theorem tg(em:Bool)(w:World)(d:Nat)(t:TypeId)(cs:Array Value)(fs:Array Field)(ht:P.underlying t=some (.struct fs)) :
  (Instr.checkKey em (d+1) t (.agg cs)).run P w=(jq em d cs fs.toList).run P w:=by
 simp only[Instr.checkKey,Sem.run_bind,run_underlying ht,Result.andThen_ok]
 rw[←Array.forIn_toList]
 generalize fs.toList=l
 clear ht
 induction l generalizing w with
 |nil=>simp[jq]
 |cons f fs ih =>
  simp only[List.forIn_cons,jq,Sem.run_bind,Sem.run_ite]
  split
  ·generalize (part f.type cs f.offset).run P w=r1
   cases r1 with
   |ok a w1 =>
    simp only[Result.andThen_ok]
    generalize (Instr.checkKey em d f.type a).run P w1=r2
    cases r2 with
    |ok b w2 =>
     simp only[Result.andThen_ok,Sem.run_pure]
     exact ih w2
    |halt x w2=>simp[Result.andThen]
   |halt x w1=>simp[Result.andThen]
  ·simp only[Sem.run_pure,Result.andThen_ok]
   exact ih w
theorem Ip{Z:Nat→Prop}{D d:Nat}(em:Bool)(hg:∀t k,Q2 P d t k=true→∀(w:World) (x y:k.T) (u v:Value),VK w Z k x u→VK w Z k y v→(Op.equalIn (D+d) t u v).run P w=.ok (rT k x y) w∧(Instr.checkKey em (D+d) t u).run P w=.ok () w)(w:World)(xs ys:Array Value) :
  ∀(fs:List Field) (off:Nat) (k:K),zB P (Q2 P d) fs off k=true→∀(x y:k.T),aH Z w k x ((xs.toList.drop off).take k.sz)→aH Z w k y ((ys.toList.drop off).take k.sz) →
   (Op.eqFields (D+d) xs ys fs).run P w=.ok (rT k x y) w∧(jq em (D+d) xs fs).run P w=.ok () w
 |[],_,_,h,_,_,_,_=>by simp[zB]at h
 |[f],off,k,h,x,y,hx,hy=>by
  have h':f.name≠ "_"∧f.offset=off∧P.cellsOf f.type=k.sz∧Q2 P d f.type k=true:=by
   cases k<;>simpa[zB] using h
  obtain⟨h0,h1,h2,h3⟩:=h'
  subst h1
  obtain⟨u,hu,TY⟩:=Af h3 h2 hx
  obtain⟨v,hv,AT⟩:=Af h3 h2 hy
  obtain⟨e1,e2⟩:=hg _ _ h3 w x y u v TY AT
  constructor
  ·simp only[Op.eqFields,if_pos h0,Sem.run_bind,hu,hv,e1,Result.andThen_ok]
   cases rT k x y<;>simp
  ·simp[jq,h0,hu,e2]
 |f::f'::r,off,.pair a b,h,x,y,hx,hy=>by
  simp only[zB,Bool.and_eq_true,decide_eq_true_eq,bne_iff_ne,ne_eq]at h
  obtain⟨h0,h1,h2,h3,h4⟩:=h
  subst h1
  simp only[aH,K.sz]at hx hy
  obtain⟨us,ws,ex,Q3,hx2⟩:=hx
  obtain⟨jv,ws',ey,VI,VJ⟩:=hy
  have sp:∀(zs:Array Value) (us ws:List Value),us.length=a.sz→ws.length=b.sz→(zs.toList.drop f.offset).take (a.sz+b.sz)=us++ws→us=(zs.toList.drop f.offset).take a.sz∧ws=(zs.toList.drop (f.offset+a.sz)).take b.sz:=fun zs us ws l1 l2 e=>by
   rw[List.take_add,]at e
   have hl:((zs.toList.drop f.offset).take a.sz).length=us.length:=by
    have:=congrArg List.length e
    simp only[List.length_append,List.length_take,List.length_drop]at this ⊢
    omega
   obtain⟨e1,e2⟩:=List.append_inj e hl
   exact⟨e1.symm,by rw[←e2,List.drop_drop]⟩
  obtain⟨rfl,rfl⟩:=sp xs us ws Q3.len hx2.len ex
  obtain⟨rfl,rfl⟩:=sp ys jv ws' VI.len VJ.len ey
  obtain⟨u,hu,TY⟩:=Af h3 h2 Q3
  obtain⟨v,hv,AT⟩:=Af h3 h2 VI
  obtain⟨e1,e2⟩:=hg _ _ h3 w x.1 y.1 u v TY AT
  obtain⟨e3,e4⟩:=Ip em hg w xs ys (f'::r) (f.offset+a.sz) b h4 x.2 y.2 hx2 VJ
  constructor
  ·rw[Op.eqFields,if_pos h0]
   simp only[Sem.run_bind,hu,hv,e1,Result.andThen_ok,Sem.run_ite,e3,rT]
   cases rT a x.1 y.1<;>simp
  ·rw[jq,if_pos h0]
   simp only[Sem.run_bind,hu,e2,Result.andThen_ok]
   exact e4
 |f::f'::r,off,.int _,h,_,_,_,_=>by simp[zB]at h
 |f::f'::r,off,.bool,h,_,_,_,_=>by simp[zB]at h
 |f::f'::r,off,.str,h,_,_,_,_=>by simp[zB]at h
 |f::f'::r,off,.sl _,h,_,_,_,_=>by simp[zB]at h
 |f::f'::r,off,.one _,h,_,_,_,_=>by simp[zB]at h
 |f::f'::r,off,.mp _ _,h,_,_,_,_=>by simp[zB]at h
theorem LO{Z:Nat→Prop}(D:Nat)(em:Bool):∀(d:Nat) (t:TypeId) (k:K),Q2 P d t k=true→∀(w:World) (x y:k.T) (u v:Value),VK w Z k x u→VK w Z k y v →
  (Op.equalIn (D+d) t u v).run P w=.ok (rT k x y) w∧(Instr.checkKey em (D+d) t u).run P w=.ok () w
 |0,_,_,h,_,_,_,_,_,_,_=>by simp[Q2]at h
 |d+1,t,k,h,w,x,y,u,v,hu,hv=>by
  rw[←Nat.add_assoc]
  unfold Q2 at h
  split at h
  ·rename_i a b ht
   simp only[decide_eq_true_eq]at h;subst h
   simp only[VK,aH,List.cons.injEq,and_true]at hu hv
   subst hu;subst hv
   exact⟨run_equalIn_int w _ _ _ _ _ _ ht,by simp[Instr.checkKey,run_underlying ht]⟩
  ·rename_i ht
   simp only[VK,aH,List.cons.injEq,and_true]at hu hv
   subst hu;subst hv
   exact⟨run_equalIn_bool' w _ _ _ _ ht,by simp[Instr.checkKey,run_underlying ht]⟩
  ·rename_i ht
   simp only[VK,aH,List.cons.injEq,and_true]at hu hv
   subst hu;subst hv
   exact⟨(run_equalIn_string w _ _ _ _ ht).trans (congrArg (fun b=>Result.ok b w) (beq_toListBytes (show ByteArray from x) (show ByteArray from y)).symm),by simp[Instr.checkKey,run_underlying ht]⟩
  ·rename_i fs a b ht
   simp only[Bool.and_eq_true,Bool.not_eq_true']at h
   obtain⟨hs,hf⟩:=h
   obtain⟨xs,rfl,hx⟩:=hu
   obtain⟨ys,rfl,hy⟩:=hv
   have TZ:P.fieldsOf t=fs:=by simp[Program.fieldsOf,ht]
   have xz:=hx.len
   have Em:=hy.len
   obtain⟨e1,e2⟩:=Ip (D:=D) (Z:=Z) em (fun t k hk w x y u v hu hv=>LO D em d t k hk w x y u v hu hv) w xs ys fs.toList 0 (.pair a b) hf x y
    (by rw[List.drop_zero,List.take_of_length_le (by omega)];exact hx) (by rw[List.drop_zero,List.take_of_length_le (by omega)];exact hy)
   constructor
   ·rw[run_equalIn_struct w (D+d) t xs ys (by rw[TZ];exact ht) hs,TZ];exact e1
   ·rw[tg em w (D+d) t xs fs ht];exact e2
  ·cases h
theorem NA{d:Nat}{t:TypeId}{a b:K}(hd:d≤10000)(hk:Q2 P d t (.pair a b)=true)(hg:P.eqGuardType P.depth t=false):mb P t (.pair a b):=fun Z w x y xs ys hx hy=>by
 have e:10000-d+d=10000:=by omega
 have key:=fun em=>LO (Z:=Z) (10000-d) em d t (.pair a b) hk w x y (.agg xs) (.agg ys) ⟨xs,rfl,hx⟩ ⟨ys,rfl,hy⟩
 rw[e]at key
 exact⟨(key true).1,fun op p q=>run_eqGuard_agg w op t p q xs ys hg,fun em=>(key em).2⟩
end Go.Vs
namespace Go.Vs
open Go.Proofs
theorem Q4{f:FuncId}{g:aL}(h:Sg f=some g):(f,g)∈sgs:=by
 unfold Sg at h
 obtain⟨p,hp,rfl⟩:=Option.map_eq_some_iff.1 h
 have h1:=List.mem_of_find?_eq_some hp
 have h2:=List.find?_some hp
 have:p.1=f:=by simpa using h2
 subst this
 exact h1
theorem lG:∀f g,Sg f=some g→jE Tryz.prog (f%1000):=fun f g h=>by
 have hm:=Q4 h
 have key:(sgs.all fun p=>match Tryz.prog.funcs[p.1%1000]? with|some fn => !(fn.name== "runtime.NumGoroutine")&&fn.body.isSome|none=>false)=true:=by kernel_rfl
 have:=List.all_eq_true.1 key _ hm
 simp only at this
 split at this
 ·rename_i fn hf
  simp only[Bool.and_eq_true,Bool.not_eq_true']at this
  exact⟨fn,hf,this.1,this.2⟩
 ·cases this
theorem sK:Tryz.prog.follows .mixedOrders=true:=by kernel_rfl
theorem Cg:∀t k,Eqs t=some k→mb Tryz.prog t k:=fun t k h=>by
 unfold Eqs at h
 obtain⟨p,hp,rfl⟩:=Option.map_eq_some_iff.1 h
 have h1:=List.mem_of_find?_eq_some hp
 have h2:=List.find?_some hp
 have e:p.1=t:=by simpa using h2
 subst e
 simp only[eqs,List.mem_cons,List.not_mem_nil,or_false]at h1
 rcases h1 with rfl|rfl|rfl|rfl|rfl|rfl
 all_goals exact NA (d:=5) (by omega) (by kernel_rfl) (by kernel_rfl)
end Go.Vs
set_option maxRecDepth 1000000
set_option maxHeartbeats 0
namespace Go.Vs
open Go.Proofs
def T0:aL:={ ps:=[.own],bs:=[.own (.row 48 eO)],rs:=[.own (.row 48 eO)] }
def T1:aL:={ ps:=[.own],bs:=[.own (.row 56 fM)],rs:=[.own (.row 56 fM)] }
def lH:aL:={ ps:=[.agg 2],bs:=[.own (.row 48 eO),.own (.row 56 fM)],rs:=[.agg [.own (.row 48 eO),.own (.row 56 fM)]] }
def sL(ty:TypeId)(k:K)(h:Heap)(id:Nat):List AV→Option (Bool×bK)
 |[.bO a]=>match eg h (.row ty k) (.bO a) with
  |some xs=>some (aP 0 xs.length,.new (.bO (id+128)) [(id+128,.own (.row ty k) xs)])
  |_=>none
 |_=>none
def af8:aL:={ ps:=[],bs:=[],rs:=[],x:=some (sL 48 eO) }
def af9:aL:={ ps:=[],bs:=[],rs:=[],x:=some (sL 56 fM) }
def Xp:List (Nat×aL):=[(500079,T0),(500080,T1)]
def VL(f:FuncId):Option aL:=(Xp.find? (fun p=>p.1==f)).map (fun p=>p.2)
def Xq:List (Nat×aL):=[(81,zy),(500060,lH),(500079,af8),(500080,af9)]
def S8(f:FuncId):Option aL:=(Xq.find? (fun p=>p.1==f)).map (fun p=>p.2)
def Iq:Shape:=⟨[(14,.int .i64),(15,.int .i64)],[(.slot 2,20000,.box 25 [.own (.row 48 eO),.own (.row 56 fM)]),(.slot 3,20001,.box 25 [.own (.row 48 eO),.own (.row 56 fM)])],[(6,1000,(.row 48 (.pair (.pair (.int .i64) (.int .i64)) (.pair (.sl (.pair (.pair (.int .i64) (.int .i64)) (.int .i64))) (.pair .str (.int .i64)))))),(9,1020,(.row 56 (.pair (.pair (.int .i64) (.int .i64)) (.pair .str (.int .i64)))))],[]⟩
def An0(f:FuncId)(key:Nat):Option Shape:=none
def Xr(f:FuncId)(key:Nat):Option Shape:=if f=500060 then(if key=3 then some Iq else none) else none
noncomputable def Q5(SG:FuncId→Option aL)(AN:FuncId→Nat→Option Shape)(f:FuncId)(g:aL)(fn:Func)(F:FT)(J:JT g)(x:g.A):Option g.B:=aC Tryz.prog Eqs SG F fn.ntmps (AN f) J (qU Tryz.prog g fn) fuel [.code (fn.body.getD .skip)] (entry g x)
noncomputable def Xs(SG:FuncId→Option aL)(AN:FuncId→Nat→Option Shape)(f j:Nat)(g:aL)(fn:Func)(sh:Shape)(F:FT)(J:JT g)(x:sh.T):Option g.B:=aC Tryz.prog Eqs SG F fn.ntmps (AN f) J (qU Tryz.prog g fn) fuel (round (aY Tryz.prog (f%1000) j)) (au sh x)
theorem aaV(F:FT)(J:JT T0)(x:(Unit×((List ag)×Unit))):Q5 VL An0 500079 T0 Tryz.f79 F J x =
  cond (List.isEmpty x.2.1)
   (ta 2 fun(j1:Nat) =>
   cond ((j1==0)==true)
    (some ((([]:List ag),()),x.2))
    (cond (aP (List.length ([]:List ag)) (List.length x.2.1))
     (some (((([]:List ag)++x.2.1),()),x.2))
     (none)))
   (cond (aP (List.length ([]:List ag)) (List.length x.2.1))
    (some (((([]:List ag)++x.2.1),()),x.2))
    (none)):=by kernel_rfl
theorem aaW(F:FT)(J:JT T1)(x:(Unit×((List ah)×Unit))):Q5 VL An0 500080 T1 Tryz.f80 F J x =
  cond (List.isEmpty x.2.1)
   (ta 2 fun(j1:Nat) =>
   cond ((j1==0)==true)
    (some ((([]:List ah),()),x.2))
    (cond (aP (List.length ([]:List ah)) (List.length x.2.1))
     (some (((([]:List ah)++x.2.1),()),x.2))
     (none)))
   (cond (aP (List.length ([]:List ah)) (List.length x.2.1))
    (some (((([]:List ah)++x.2.1),()),x.2))
    (none)):=by kernel_rfl
theorem aaX(F:FT)(J:JT zy)(x:(((List ab)×Unit)×Unit)):Q5 S8 Xr 81 zy Tryz.f81 F J x =
  cond (List.isEmpty x.1.1)
   (ta 2 fun(j1:Nat) =>
   cond ((j1==0)==true)
    (some ((([]:List ab),()),()))
    (cond (aP (List.length ([]:List ab)) (List.length x.1.1))
     (some (((([]:List ab)++x.1.1),()),()))
     (none)))
   (cond (aP (List.length ([]:List ab)) (List.length x.1.1))
    (some (((([]:List ab)++x.1.1),()),()))
    (none)):=by kernel_rfl
theorem aaY(F:FT)(J:JT lH)(x:(Unit×((List ag)×((List ah)×Unit)))):Q5 S8 Xr 500060 lH Tryz.f60 F J x =
  cond (aP 0 (List.length x.2.1))
   (cond (aP 0 (List.length x.2.2.1))
    (J Iq (aY Tryz.prog 60 0) (((((List.length x.2.1):Nat):Int),((0:Int),())),(((([]:List ag),(([]:List ah),())),((x.2.1,x.2.2),())),(x.2.1,x.2.2))))
    (none))
   (none):=by kernel_rfl
theorem LP(F:FT)(J:JT lH)(x:((Int×(Int×Unit))×((((List ag)×((List ah)×Unit))×(((List ag)×((List ah)×Unit))×Unit))×((List ag)×((List ah)×Unit))))):Xs S8 Xr 500060 0 lH Tryz.f60 Iq F J x =
  cond (decide (x.1.2.1<x.1.1))
   (cond ((decide ((0:Int)≤x.1.2.1))&&(decide (x.1.2.1<(((List.length x.2.1.2.1.1):Nat):Int))))
    (((x.2.1.2.1.1)[(Int.toNat x.1.2.1)]?).bind fun(y1:ag) =>
    (F 81 zy ((y1.2.1,()),())).bind fun(y2:(((List ab)×Unit)×Unit)) =>
    cond ((decide ((0:Int)≤x.1.2.1))&&(decide (x.1.2.1<(((List.length x.2.1.2.1.1):Nat):Int))))
     (((x.2.1.2.1.1)[(Int.toNat x.1.2.1)]?).bind fun(y3:ag) =>
     J Iq (aY Tryz.prog 60 0) ((x.1.1,((IntKind.wrap .i64 (x.1.2.1+(1:Int))),())),(((x.2.1.1.1,x.2.1.1.2),(((List.set x.2.1.2.1.1 (Int.toNat x.1.2.1) (y3.1,(y2.1.1,y3.2.2))),x.2.1.2.1.2),())),(x.2.2.1,x.2.2.2))))
     (none))
    (none))
   (some (((x.2.1.2.1.1,x.2.1.2.1.2),()),(x.2.2.1,x.2.2.2))):=by kernel_rfl
end Go.Vs
namespace Go.Vs
open Go.Proofs
variable {P:Program}
theorem tL{f:FuncId}{ty:TypeId}{k:K}(hf:f%1000=f)(hc:∀(xs:List k.T),aP 0 xs.length=true→D0 P f ⟨[.own],[.own (.row ty k)],[.own (.row ty k)],none⟩ ((),(xs,())) ((xs,()),(xs,()))):iU P f (sL ty k):=by
 intro Z ψ h w B0 O N hh id e vs us g hB bz hN bu mW tZ Fa he
 unfold sL at he
 split at he
 rotate_left
 ·cases he
 rename_i a
 split at he
 rotate_left
 ·cases he
 rename_i xs si
 simp only[Option.some.injEq,Prod.mk.injEq]at he
 obtain⟨mO,rfl⟩:=he
 have ha:h a=some (.own (.row ty k) xs):=bz _ _ (kc si)
 have Ko:h a≠none:=by rw[ha];simp
 simp only[ar,aw]at tZ
 obtain⟨v1,_,rfl,⟨_,vf⟩,rfl⟩:=tZ
 have vf:=vf Ko
 subst vf
 simp only[aE,aK]at Fa
 have YG:N (id+128):=hN 128 (by omega)
 have na:¬N a:=Fa.1
 have a0:a≠id+128:=fun e=>na (e▸YG)
 let ψ0:Nat→Value:=fun i=>if i=1000 then ψ a else ψ i
 have p0:ψ0 1000=ψ a:=if_pos rfl
 let g0:aL:=⟨[.own],[.own (.row ty k)],[.own (.row ty k)],none⟩
 have jS:pN g0 ((),(xs,()))=Heap.get [(1000,.own (.row ty k) xs)]:=rfl
 have i0:pN g0 ((),(xs,())) 1000=some (.own (.row ty k) xs):=rfl
 have iN:∀i,pN g0 ((),(xs,())) i≠none→i=1000:=fun i hi=>by
  by_cases e0:i=1000
  ·exact e0
  rw[jS]at hi
  simp[Heap.get,Ne.symm e0]at hi
 have T2:∀q,Own ψ0 (pN g0 ((),(xs,()))) q→ob (ψ a)=some q:=fun q ⟨i,h1,h2⟩=>by
  have:=iN i h1
  subst this
  rw[←p0];exact h2
 have oh:∀q,Own ψ0 (pN g0 ((),(xs,()))) q→Own ψ h q:=fun q hq=>⟨a,Ko,T2 q hq⟩
 have G0:Good Z ψ0 (pN g0 ((),(xs,()))) w w.heap.size (Own ψ0 (pN g0 ((),(xs,())))):=by
  refine⟨fun i ty cs k=>?_,fun i ok x k=>?_,fun i q h1 h2=>⟨fun hz=>?_,.inr ⟨i,h1,h2⟩⟩,fun i j q h1 h2 h3 h4=>?_,g.j5⟩
  ·have:=iN i (by rw[k];simp)
   subst this
   rw[i0]at k;cases k
  ·have:=iN i (by rw[k];simp)
   subst this
   rw[i0]at k;cases k;rw[p0];exact g.row a _ _ ha
  ·have:=iN i h1
   subst this
   rw[p0]at h2;exact(g.live a q Ko h2).1 hz
  ·rw[iN i h1,iN j h2]
 have c0:(ψ a).cells=#[ψ a]∧(ψ a).oneCell'=true:=(g.row a _ _ ha).one
 have R0:ar Z ψ0 (pN g0 ((),(xs,()))) w (Ff g0 ((),(xs,()))) [ψ a]:=by
  show ar Z ψ0 (pN g0 ((),(xs,()))) w [.bO 1000] [ψ a]
  simp only[ar,aw]
  exact⟨ψ a,[],rfl,⟨c0,fun _=>p0.symm⟩,rfl⟩
 have VM:=hc xs mO Z ψ0 w [ψ a] G0 R0
 rw[hf]at VM
 refine VM.mono fun en w' ⟨V,Z',ψ',e1,zs,zf,kp,gd,bT,hr⟩=>?_
 have q0:ψ' 1000=ψ a:=(bT 1000 (by show 1000∈[1000];simp)).trans p0
 have o0:(ke g0 ((xs,()),(xs,()))).get 1000=some (.own (.row ty k) xs):=rfl
 have o2:(ke g0 ((xs,()),(xs,()))).get 3000=some (.own (.row ty k) xs):=rfl
 have gd:Good Z' ψ' (ke g0 ((xs,()),(xs,()))).get w' w.heap.size (Own ψ0 (pN g0 ((),(xs,())))):=gd
 have hr:aw Z' ψ' (ke g0 ((xs,()),(xs,()))).get w' (.bO 3000) V:=hr
 generalize (ke g0 ((xs,()),(xs,()))).get=out at *
 have keep:dh ψ h w w':=⟨kp.os,kp.tape,kp.output,kp.size,fun q hq hn=>kp.block q hq fun ho=>hn (oh q ho)⟩
 have sm:cG Z w w':=keep.same g
 have cY:∀i q,i≠a→h i≠none→ob (ψ i)=some q→w'.heap[q]? = w.heap[q]? := fun i q k1 h1 h2 =>
  kp.block q (g.bX ⟨i,h1,h2⟩) fun ho=>k1 (g.apart i a q h1 Ko h2 (T2 q ho))
 let eF:Nat→Value:=fun i=>if i=id+128 then ψ' 3000 else ψ i
 let H:Hp:=(bK.new (.bO (id+128)) [(id+128,.own (.row ty k) xs)]).hp h
 have s0:eF (id+128)=ψ' 3000:=if_pos rfl
 have sn:∀i,i≠id+128→eF i=ψ i:=fun i k1=>if_neg k1
 have H0:H (id+128)=some (.own (.row ty k) xs):=by show(bK.hp h _) _=_;simp[bK.hp,Heap.get]
 have Hn:∀i,i≠id+128→H i=h i:=fun i k1=>by show(bK.hp h _) _=_;simp[bK.hp,Heap.get,Ne.symm k1]
 have two:∀q,ob (ψ' 3000)=some q→¬Z' q∧(w.heap.size≤q∨ob (ψ a)=some q):=fun q h2=>by
  obtain⟨h3,h4⟩:=gd.live 3000 q (by rw[o2];simp) h2
  exact⟨h3,h4.imp (fun h=>h) (T2 q)⟩
 have one:∀q,ob (ψ a)=some q→¬Z' q:=fun q h2=>(gd.live 1000 q (by rw[o0];simp) (by rw[q0];exact h2)).1
 have T3:∀q,ob (ψ' 3000)=some q→ob (ψ a)=some q→False:=fun q h2 h3=>by
  have:=gd.apart 3000 1000 q (by rw[o2];simp) (by rw[o0];simp) h2 (by rw[q0];exact h3)
  omega
 have fresh:∀q,ob (ψ' 3000)=some q→w.heap.size≤q:=fun q h2=>(two q h2).2.resolve_right (T3 q h2)
 have ids:∀i,H i≠none→(h i≠none∧eF i=ψ i)∨N i:=fun i hi=>by
  by_cases k1:i=id+128
  ·exact .inr (k1▸YG)
  ·rw[Hn i k1]at hi
   exact .inl ⟨hi,sn i k1⟩
 have live:∀i q,i≠id+128→h i≠none→ob (ψ i)=some q→¬Z' q:=fun i q k1 h1 h2 hz=>by
  by_cases k3:i=a
  ·subst k3;exact one q h2 hz
  rcases zf q hz with k|k|k
  ·exact(g.live i q h1 h2).1 k
  ·exact k3 (g.apart i a q h1 Ko h2 (T2 q k))
  ·have:=g.bX ⟨i,h1,h2⟩;omega
 refine⟨V,Z',eF,e1,⟨zs,fun q hq=>(zf q hq).imp (fun h=>h) fun k=>k.imp (oh q) fun h=>h,keep,ids,⟨fun i zj cs k=>?_,fun i ok x k=>?_,fun i q h1 h2=>?_,fun i j q h1 h2 h3 h4=>?_,gd.j5⟩⟩,?_⟩
 ·have k1:i≠id+128:=fun e=>by rw[e]at k;have k:H (id+128)=some (.box zj cs):=k;rw[H0]at k;cases k
  have k3:i≠a:=fun e=>by rw[e]at k;have k:H a=some (.box zj cs):=k;rw[(Hn a a0).trans ha]at k;cases k
  have qy:h i=some (.box zj cs):=(Hn i k1).symm.trans k
  obtain⟨gg,vs,f1,f2,f3,f4⟩:=g.box i zj cs qy
  exact⟨gg,vs,(sn i k1).trans f1,(cY i gg k3 (by rw[qy];simp) (by rw[f1];rfl)).trans f2,f3.move zs sm (fun j hj bp=>(ids j bp).resolve_right hj) (bu i zj cs qy),f4⟩
 ·by_cases k1:i=id+128
  ·subst k1
   have k:H (id+128)=some (.own ok x):=k
   rw[H0]at k;cases k
   rw[s0];exact gd.row 3000 _ _ o2
  have qy:h i=some (.own ok x):=(Hn i k1).symm.trans k
  rw[sn i k1]
  by_cases k3:i=a
  ·subst k3
   rw[ha]at qy;cases qy
   rw[←q0];exact gd.row 1000 _ _ o0
  exact(g.row i ok x qy).kept zs sm fun q hq=>cY i q k3 (by rw[qy];simp) hq
 ·by_cases k1:i=id+128
  ·subst k1
   have h2:ob (eF (id+128))=some q:=h2
   rw[s0]at h2
   exact⟨(two q h2).1,.inl (Nat.le_trans hB (fresh q h2))⟩
  ·have h1:h i≠none:=by rw[←Hn i k1];exact h1
   rw[sn i k1]at h2
   exact⟨live i q k1 h1 h2,(g.live i q h1 h2).2⟩
 ·have lt:∀j,j≠id+128→H j≠none→ob (eF j)=some q→q<w.heap.size:=fun j k1 k2 k3=>by
   rw[Hn j k1]at k2
   rw[sn j k1]at k3
   exact g.bX ⟨j,k2,k3⟩
  by_cases k1:i=id+128<;>by_cases k2:j=id+128
  ·exact k1.trans k2.symm
  ·subst k1
   have h3:ob (eF (id+128))=some q:=h3
   rw[s0]at h3
   have:=fresh q h3
   have:=lt j k2 h2 h4
   omega
  ·subst k2
   have h4:ob (eF (id+128))=some q:=h4
   rw[s0]at h4
   have:=fresh q h4
   have:=lt i k1 h1 h3
   omega
  ·rw[sn i k1]at h3
   rw[sn j k2]at h4
   exact g.apart i j q (by rw[←Hn i k1];exact h1) (by rw[←Hn j k2];exact h2) h3 h4
 ·simp only[aw]at hr
  show aw Z' eF H w' (.bO (id+128)) V
  simp only[aw]
  exact⟨hr.1,fun _=>(hr.2 (by rw[o2];simp)).trans s0.symm⟩
end Go.Vs
namespace Go.Vs
open Go.Proofs
variable {P:Program}
theorem FL(hc:∀(xs:List eO.T) (ys:List fM.T),pT xs ys=true→D0 P 60 lH ((),(xs,(ys,()))) (((xs,(ys,())),()),(xs,(ys,())))):iU P 60 Fw:=by
 intro Z ψ h w B0 O N hh id e vs us g hB bz hN bu mW tZ Fa he
 unfold Fw at he
 split at he
 rotate_left
 ·cases he
 rename_i a b
 split at he
 rotate_left
 ·cases he
 rename_i xs ys si Dg
 split at he
 ·cases he
 rename_i yW
 simp only[Option.some.injEq,Prod.mk.injEq]at he
 obtain⟨mO,rfl⟩:=he
 have ha:h a=some (.own (.row 48 eO) xs):=bz _ _ (kc si)
 have hb:h b=some (.own (.row 56 fM) ys):=bz _ _ (kc Dg)
 have Ko:h a≠none:=by rw[ha];simp
 have DA:h b≠none:=by rw[hb];simp
 simp only[ar,aw]at tZ
 obtain⟨v,_,rfl,⟨cs,rfl,v1,_,MH,⟨_,vf⟩,v2,_,rfl,⟨_,yr⟩,rfl⟩,rfl⟩:=tZ
 have vf:=vf Ko
 have yr:=yr DA
 subst vf yr
 simp only[aE,aK]at Fa
 have YG:N (id+128):=hN 128 (by omega)
 have nR1:N (id+129):=hN 129 (by omega)
 have na:¬N a:=Fa.1.1
 have nb:¬N b:=Fa.1.2.1
 have a0:a≠id+128:=fun e=>na (e▸YG)
 have a1:a≠id+129:=fun e=>na (e▸nR1)
 have b0:b≠id+128:=fun e=>nb (e▸YG)
 have b1:b≠id+129:=fun e=>nb (e▸nR1)
 let ψ0:Nat→Value:=fun i=>if i=1000 then ψ a else if i=1020 then ψ b else ψ i
 have p0:ψ0 1000=ψ a:=if_pos rfl
 have p1:ψ0 1020=ψ b:=(if_neg (by decide)).trans (if_pos rfl)
 have jS:pN lH ((),(xs,(ys,())))=Heap.get [(1000,.own (.row 48 eO) xs),(1020,.own (.row 56 fM) ys)]:=rfl
 have i0:pN lH ((),(xs,(ys,()))) 1000=some (.own (.row 48 eO) xs):=rfl
 have i1:pN lH ((),(xs,(ys,()))) 1020=some (.own (.row 56 fM) ys):=rfl
 have iN:∀i,pN lH ((),(xs,(ys,()))) i≠none→i=1000∨i=1020:=fun i hi=>by
  by_cases e0:i=1000
  ·exact .inl e0
  by_cases e1:i=1020
  ·exact .inr e1
  rw[jS]at hi
  simp[Heap.get,Ne.symm e0,Ne.symm e1]at hi
 have T2:∀q,Own ψ0 (pN lH ((),(xs,(ys,())))) q→ob (ψ a)=some q∨ob (ψ b)=some q:=fun q ⟨i,h1,h2⟩=>by
  rcases iN i h1 with rfl|rfl
  ·exact .inl (by rw[←p0];exact h2)
  ·exact .inr (by rw[←p1];exact h2)
 have oh:∀q,Own ψ0 (pN lH ((),(xs,(ys,())))) q→Own ψ h q:=fun q hq=>(T2 q hq).elim (fun k=>⟨a,Ko,k⟩) fun k=>⟨b,DA,k⟩
 have G0:Good Z ψ0 (pN lH ((),(xs,(ys,())))) w w.heap.size (Own ψ0 (pN lH ((),(xs,(ys,()))))):=by
  refine⟨fun i ty cs k=>?_,fun i ok x k=>?_,fun i q h1 h2=>⟨fun hz=>?_,.inr ⟨i,h1,h2⟩⟩,fun i j q h1 h2 h3 h4=>?_,g.j5⟩
  ·rcases iN i (by rw[k];simp) with rfl|rfl
   ·rw[i0]at k;cases k
   ·rw[i1]at k;cases k
  ·rcases iN i (by rw[k];simp) with rfl|rfl
   ·rw[i0]at k;cases k;rw[p0];exact g.row a _ _ ha
   ·rw[i1]at k;cases k;rw[p1];exact g.row b _ _ hb
  ·rcases iN i h1 with rfl|rfl
   ·rw[p0]at h2;exact(g.live a q Ko h2).1 hz
   ·rw[p1]at h2;exact(g.live b q DA h2).1 hz
  ·rcases iN i h1 with rfl|rfl<;>rcases iN j h2 with rfl|rfl
   ·rfl
   ·rw[p0]at h3;rw[p1]at h4;exact absurd (g.apart a b q Ko DA h3 h4) yW
   ·rw[p1]at h3;rw[p0]at h4;exact absurd (g.apart a b q Ko DA h4 h3) yW
   ·rfl
 have c0:(ψ a).cells=#[ψ a]∧(ψ a).oneCell'=true:=(g.row a _ _ ha).one
 have c1:(ψ b).cells=#[ψ b]∧(ψ b).oneCell'=true:=(g.row b _ _ hb).one
 have R0:ar Z ψ0 (pN lH ((),(xs,(ys,())))) w (Ff lH ((),(xs,(ys,())))) [.agg cs]:=by
  show ar Z ψ0 (pN lH ((),(xs,(ys,())))) w [.agg [.bO 1000,.bO 1020]] [.agg cs]
  simp only[ar,aw]
  exact⟨.agg cs,[],rfl,⟨cs,rfl,ψ a,[ψ b],MH,⟨c0,fun _=>p0.symm⟩,ψ b,[],rfl,⟨c1,fun _=>p1.symm⟩,rfl⟩,rfl⟩
 refine(hc xs ys mO Z ψ0 w [.agg cs] G0 R0).mono fun en w' ⟨V,Z',ψ',e1,zs,zf,kp,gd,bT,hr⟩=>?_
 have q0:ψ' 1000=ψ a:=(bT 1000 (by show 1000∈[1000,1020];simp)).trans p0
 have q1:ψ' 1020=ψ b:=(bT 1020 (by show 1020∈[1000,1020];simp)).trans p1
 have o0:(ke lH (((xs,(ys,())),()),(xs,(ys,())))).get 1000=some (.own (.row 48 eO) xs):=rfl
 have o1:(ke lH (((xs,(ys,())),()),(xs,(ys,())))).get 1020=some (.own (.row 56 fM) ys):=rfl
 have o2:(ke lH (((xs,(ys,())),()),(xs,(ys,())))).get 3000=some (.own (.row 48 eO) xs):=rfl
 have o3:(ke lH (((xs,(ys,())),()),(xs,(ys,())))).get 3001=some (.own (.row 56 fM) ys):=rfl
 generalize (ke lH (((xs,(ys,())),()),(xs,(ys,())))).get=out at *
 have keep:dh ψ h w w':=⟨kp.os,kp.tape,kp.output,kp.size,fun q hq hn=>kp.block q hq fun ho=>hn (oh q ho)⟩
 have sm:cG Z w w':=keep.same g
 have cY:∀i q,i≠a→i≠b→h i≠none→ob (ψ i)=some q→w'.heap[q]? = w.heap[q]? := fun i q k1 k2 h1 h2 =>
  kp.block q (g.bX ⟨i,h1,h2⟩) fun ho=>(T2 q ho).elim (fun k=>k1 (g.apart i a q h1 Ko h2 k)) fun k=>k2 (g.apart i b q h1 DA h2 k)
 let κ:Nat→Nat:=fun i=>if i=id+128 then 3000 else if i=id+129 then 3001 else if i=a then 1000 else 1020
 let Ta:Nat→Prop:=fun i=>i=id+128∨i=id+129∨i=a∨i=b
 let eF:Nat→Value:=fun i=>if i=id+128 then ψ' 3000 else if i=id+129 then ψ' 3001 else ψ i
 let H:Hp:=(bK.new (.agg [.bO (id+128),.bO (id+129)]) [(id+128,.own (.row 48 eO) xs),(id+129,.own (.row 56 fM) ys)]).hp h
 have s0:eF (id+128)=ψ' 3000:=if_pos rfl
 have s1:eF (id+129)=ψ' 3001:=(if_neg (by omega)).trans (if_pos rfl)
 have sn:∀i,i≠id+128→i≠id+129→eF i=ψ i:=fun i k1 k2=>(if_neg k1).trans (if_neg k2)
 have H0:H (id+128)=some (.own (.row 48 eO) xs):=by show(bK.hp h _) _=_;simp[bK.hp,Heap.get]
 have H1:H (id+129)=some (.own (.row 56 fM) ys):=by show(bK.hp h _) _=_;simp[bK.hp,Heap.get]
 have Hn:∀i,i≠id+128→i≠id+129→H i=h i:=fun i k1 k2=>by show(bK.hp h _) _=_;simp[bK.hp,Heap.get,Ne.symm k1,Ne.symm k2]
 have Ha:H a=some (.own (.row 48 eO) xs):=(Hn a a0 a1).trans ha
 have Hb:H b=some (.own (.row 56 fM) ys):=(Hn b b0 b1).trans hb
 have kap:∀i,Ta i→out (κ i)≠none∧ψ' (κ i)=eF i:=fun i hi=>by
  rcases hi with rfl|rfl|rfl|rfl
  ·have:κ (id+128)=3000:=if_pos rfl
   rw[this,o2,s0];exact⟨by simp,rfl⟩
  ·have:κ (id+129)=3001:=(if_neg (by omega)).trans (if_pos rfl)
   rw[this,o3,s1];exact⟨by simp,rfl⟩
  ·have:κ i=1000:=(if_neg a0).trans ((if_neg a1).trans (if_pos rfl))
   rw[this,o0,q0,sn i a0 a1];exact⟨by simp,rfl⟩
  ·have:κ i=1020:=(if_neg b0).trans ((if_neg b1).trans (if_neg (fun k=>yW k.symm)))
   rw[this,o1,q1,sn i b0 b1];exact⟨by simp,rfl⟩
 have agc:∀i j,Ta i→Ta j→κ i=κ j→i=j:=fun i j hi hj hk=>by
  have v1:κ (id+128)=3000:=if_pos rfl
  have v2:κ (id+129)=3001:=(if_neg (by omega)).trans (if_pos rfl)
  have v3:κ a=1000:=(if_neg a0).trans ((if_neg a1).trans (if_pos rfl))
  have v4:κ b=1020:=(if_neg b0).trans ((if_neg b1).trans (if_neg (fun k=>yW k.symm)))
  rcases hi with rfl|rfl|rfl|rfl<;>rcases hj with rfl|rfl|rfl|rfl<;>first|rfl|(rw[v1]at hk;first|(rw[v2]at hk;cases hk)|(rw[v3]at hk;cases hk)|(rw[v4]at hk;cases hk))|(rw[v2]at hk;first|(rw[v1]at hk;cases hk)|(rw[v3]at hk;cases hk)|(rw[v4]at hk;cases hk))|(rw[v3,v4]at hk;cases hk)|(rw[v4,v3]at hk;cases hk)
 have back:∀i q,Ta i→ob (eF i)=some q→¬Z' q∧(w.heap.size≤q∨ob (ψ a)=some q∨ob (ψ b)=some q):=fun i q hi h2=>by
  obtain⟨k1,k2⟩:=kap i hi
  rw[←k2]at h2
  obtain⟨h3,h4⟩:=gd.live (κ i) q k1 h2
  exact⟨h3,h4.imp (fun h=>h) (T2 q)⟩
 have rest:∀i,¬Ta i→i≠id+128∧i≠id+129∧i≠a∧i≠b:=fun i hi=>⟨fun k=>hi (.inl k),fun k=>hi (.inr (.inl k)),fun k=>hi (.inr (.inr (.inl k))),fun k=>hi (.inr (.inr (.inr k)))⟩
 have mixed:∀i j q,Ta i→¬Ta j→h j≠none→ob (eF i)=some q→ob (ψ j)=some q→False:=fun i j q hi hj h2 h3 h4=>by
  obtain⟨_,_,k3,k4⟩:=rest j hj
  rcases (back i q hi h3).2 with k|k|k
  ·have:=g.bX ⟨j,h2,h4⟩;omega
  ·exact k3 (g.apart j a q h2 Ko h4 k)
  ·exact k4 (g.apart j b q h2 DA h4 k)
 have ids:∀i,H i≠none→(h i≠none∧eF i=ψ i)∨N i:=fun i hi=>by
  by_cases k1:i=id+128
  ·exact .inr (k1▸YG)
  by_cases k2:i=id+129
  ·exact .inr (k2▸nR1)
  ·rw[Hn i k1 k2]at hi
   exact .inl ⟨hi,sn i k1 k2⟩
 refine⟨V,Z',eF,e1,⟨zs,fun q hq=>(zf q hq).imp (fun h=>h) fun k=>k.imp (oh q) fun h=>h,keep,ids,⟨fun i ty cs k=>?_,fun i ok x k=>?_,fun i q h1 h2=>?_,fun i j q h1 h2 h3 h4=>?_,gd.j5⟩⟩,?_⟩
 ·have k1:i≠id+128:=fun e=>by rw[e]at k;have k:H (id+128)=some (.box ty cs):=k;rw[H0]at k;cases k
  have k2:i≠id+129:=fun e=>by rw[e]at k;have k:H (id+129)=some (.box ty cs):=k;rw[H1]at k;cases k
  have k3:i≠a:=fun e=>by rw[e]at k;have k:H a=some (.box ty cs):=k;rw[Ha]at k;cases k
  have k4:i≠b:=fun e=>by rw[e]at k;have k:H b=some (.box ty cs):=k;rw[Hb]at k;cases k
  have qy:h i=some (.box ty cs):=(Hn i k1 k2).symm.trans k
  obtain⟨gg,vs,f1,f2,f3,f4⟩:=g.box i ty cs qy
  exact⟨gg,vs,(sn i k1 k2).trans f1,(cY i gg k3 k4 (by rw[qy];simp) (by rw[f1];rfl)).trans f2,f3.move zs sm (fun j hj bp=>(ids j bp).resolve_right hj) (bu i ty cs qy),f4⟩
 ·by_cases k1:i=id+128
  ·subst k1
   have k:H (id+128)=some (.own ok x):=k
   rw[H0]at k;cases k
   rw[s0];exact gd.row 3000 _ _ o2
  by_cases k2:i=id+129
  ·subst k2
   have k:H (id+129)=some (.own ok x):=k
   rw[H1]at k;cases k
   rw[s1];exact gd.row 3001 _ _ o3
  have qy:h i=some (.own ok x):=(Hn i k1 k2).symm.trans k
  rw[sn i k1 k2]
  by_cases k3:i=a
  ·subst k3
   rw[ha]at qy;cases qy
   rw[←q0];exact gd.row 1000 _ _ o0
  by_cases k4:i=b
  ·subst k4
   rw[hb]at qy;cases qy
   rw[←q1];exact gd.row 1020 _ _ o1
  exact(g.row i ok x qy).kept zs sm fun q hq=>cY i q k3 k4 (by rw[qy];simp) hq
 ·by_cases h4:Ta i
  ·obtain⟨k1,k2⟩:=back i q h4 h2
   refine⟨k1,?_⟩
   rcases k2 with k|k|k
   ·exact .inl (Nat.le_trans hB k)
   ·exact(g.live a q Ko k).2
   ·exact(g.live b q DA k).2
  ·obtain⟨r1,r2,r3,r4⟩:=rest i h4
   have h1:h i≠none:=by rw[←Hn i r1 r2];exact h1
   rw[sn i r1 r2]at h2
   refine⟨fun hz=>?_,(g.live i q h1 h2).2⟩
   rcases zf q hz with k|k|k
   ·exact(g.live i q h1 h2).1 k
   ·rcases T2 q k with k|k
    ·exact r3 (g.apart i a q h1 Ko h2 k)
    ·exact r4 (g.apart i b q h1 DA h2 k)
   ·have:=g.bX ⟨i,h1,h2⟩;omega
 ·by_cases hi:Ta i<;>by_cases hj:Ta j
  ·obtain⟨k1,k2⟩:=kap i hi
   obtain⟨k3,k4⟩:=kap j hj
   rw[←k2]at h3
   rw[←k4]at h4
   exact agc i j hi hj (gd.apart _ _ q k1 k3 h3 h4)
  ·obtain⟨r1,r2,r3,r4⟩:=rest j hj
   rw[sn j r1 r2]at h4
   exact(mixed i j q hi hj (by rw[←Hn j r1 r2];exact h2) h3 h4).elim
  ·obtain⟨r1,r2,r3,r4⟩:=rest i hi
   rw[sn i r1 r2]at h3
   exact(mixed j i q hj hi (by rw[←Hn i r1 r2];exact h1) h4 h3).elim
  ·obtain⟨r1,r2,_,_⟩:=rest i hi
   obtain⟨t1,t2,_,_⟩:=rest j hj
   rw[sn i r1 r2]at h3
   rw[sn j t1 t2]at h4
   exact g.apart i j q (by rw[←Hn i r1 r2];exact h1) (by rw[←Hn j t1 t2];exact h2) h3 h4
 ·have hr:aw Z' ψ' out w' (.agg [.bO 3000,.bO 3001]) V:=hr
  simp only[aw,ar]at hr
  obtain⟨vs,rfl,u1,_,tZ,⟨d1,d2⟩,u2,_,rfl,⟨d3,d4⟩,rfl⟩:=hr
  show aw Z' eF H w' (.agg [.bO (id+128),.bO (id+129)]) (.agg vs)
  simp only[aw,ar]
  exact⟨vs,rfl,u1,[u2],tZ,⟨d1,fun _=>(d2 (by rw[o2];simp)).trans s0.symm⟩,u2,[],rfl,⟨d3,fun _=>(d4 (by rw[o3];simp)).trans s1.symm⟩,rfl⟩
end Go.Vs
namespace Go.Vs
open Go.Proofs
abbrev T4:(f:FuncId)→(g:aL)→Option (g.A→Option g.B):=fun _ _=>none
section
variable (SG:FuncId→Option aL) (AN:FuncId→Nat→Option Shape)
noncomputable abbrev T5:FT:=Fix Tryz.prog Eqs SG AN T4
noncomputable abbrev LXG(f:FuncId)(g:aL)(fn:Func):JT g:=Lp Tryz.prog Eqs SG AN T4 f g fn
end
theorem FM{SG:FuncId→Option aL}{AN:FuncId→Nat→Option Shape}{f:FuncId}{g:aL}{fn:Func}{x:g.A}{y:g.B}(hb:body Tryz.prog (f%1000)=some (fn,fn.body.getD .skip))(hc:(decide (g.ps.length≤fn.ntmps)&&decide (g.bs.length≤8))=true)
  (h:Q5 SG AN f g fn (T5 SG AN) (LXG SG AN f g fn) x=some y):T5 SG AN f g x=some y:=Lt rfl hb hc h
theorem Q6{SG:FuncId→Option aL}{AN:FuncId→Nat→Option Shape}{f j:Nat}{g:aL}{fn:Func}{sh:Shape}{x:sh.T}{y:g.B}(hs:(match aY Tryz.prog (f%1000) j with | .inLoop _::_=>true|_=>false)=true)
  (h:Xs SG AN f j g fn sh (T5 SG AN) (LXG SG AN f g fn) x=some y):LXG SG AN f g fn sh (aY Tryz.prog (f%1000) j) x=some y:=by
 unfold Xs at h
 generalize aY Tryz.prog (f%1000) j=s at hs h ⊢
 split at hs
 ·exact PU h
 ·cases hs
theorem Q7{α β:Type}{o:Option α}{f:α→Option β}{a:α}{r:Option β}(h:o=some a)(k:f a=r):o.bind f=r:=by rw[h];exact k
theorem Ch{α:Type}{c:Bool}{x y r:α}(h:c=true)(k:x=r):cond c x y=r:=by subst h;exact k
theorem T6{α:Type}{c:Bool}{x y r:α}(h:c=false)(k:y=r):cond c x y=r:=by subst h;exact k
theorem Q8{R:Type}{f:Nat→Option R}{r:R}(h0:f 0=some r)(h1:f 1=some r):ta 2 f=some r :=
 nh (by omega) fun j hj=>by
  rcases j with _|_|j
  ·exact h0
  ·exact h1
  ·omega
theorem aaZ(xs:List ag)(h:aP 0 xs.length=true):T5 VL An0 500079 T0 ((),(xs,()))=some ((xs,()),(xs,())):=by
 refine FM (fn:=Tryz.f79) (by kernel_rfl) (by kernel_rfl) ((aaV _ _ _).trans ?_)
 cases xs with
 |nil=>exact Ch rfl (Q8 rfl rfl)
 |cons x r=>exact T6 rfl (Ch h rfl)
theorem aa0(xs:List ah)(h:aP 0 xs.length=true):T5 VL An0 500080 T1 ((),(xs,()))=some ((xs,()),(xs,())):=by
 refine FM (fn:=Tryz.f80) (by kernel_rfl) (by kernel_rfl) ((aaW _ _ _).trans ?_)
 cases xs with
 |nil=>exact Ch rfl (Q8 rfl rfl)
 |cons x r=>exact T6 rfl (Ch h rfl)
theorem LQ{f:FuncId}{g:aL}(h:VL f=some g):(f,g)∈Xp:=by
 unfold VL at h
 obtain⟨p,hp,rfl⟩:=Option.map_eq_some_iff.1 h
 have h1:=List.mem_of_find?_eq_some hp
 have h2:=List.find?_some hp
 have:p.1=f:=by simpa using h2
 subst this
 exact h1
theorem LR{f:FuncId}{g:aL}(h:S8 f=some g):(f,g)∈Xq:=by
 unfold S8 at h
 obtain⟨p,hp,rfl⟩:=Option.map_eq_some_iff.1 h
 have h1:=List.mem_of_find?_eq_some hp
 have h2:=List.find?_some hp
 have:p.1=f:=by simpa using h2
 subst this
 exact h1
noncomputable def Kp(l:List (Nat×aL)):Bool:=l.all fun p=>match Tryz.prog.funcs[p.1%1000]? with|some fn => !(fn.name== "runtime.NumGoroutine")&&fn.body.isSome|none=>false
theorem Ag{l:List (Nat×aL)}(key:Kp l=true){f:FuncId}{g:aL}(hm:(f,g)∈l):jE Tryz.prog (f%1000):=by
 have:=List.all_eq_true.1 key _ hm
 simp only at this
 split at this
 ·rename_i fn hf
  simp only[Bool.and_eq_true,Bool.not_eq_true']at this
  exact⟨fn,hf,this.1,this.2⟩
 ·cases this
theorem aa1{f:FuncId}{g:aL}{x:g.A}{y:g.B}(hs:VL f=some g)(h:T5 VL An0 f g x=some y):D0 Tryz.prog f g x y :=
 Ab (fun f g u hf hu=>by
  have hm:=LQ hf
  simp only[Xp,List.mem_cons,List.not_mem_nil,or_false,Prod.mk.injEq]at hm
  rcases hm with⟨_,rfl⟩|⟨_,rfl⟩<;>cases hu) Cg (fun f g hf=>Ag (by kernel_rfl) (LQ hf)) sK (fun f g u x y _ hu _=>by cases hu) hs h
theorem T7:iU Tryz.prog 79 (sL 48 eO):=tL rfl fun xs h=>by
 have:=aa1 (by kernel_rfl) (aaZ xs h)
 exact this
theorem T8:iU Tryz.prog 80 (sL 56 fM):=tL rfl fun xs h=>by
 have:=aa1 (by kernel_rfl) (aa0 xs h)
 exact this
theorem aa2(l:List ab)(hl:l.length≤50000000):T5 S8 Xr 81 zy ((l,()),())=some ((l,()),()):=by
 refine FM (fn:=Tryz.f81) (by kernel_rfl) (by kernel_rfl) ((aaX _ _ _).trans ?_)
 cases l with
 |nil=>exact Ch rfl (Q8 rfl rfl)
 |cons x r=>exact T6 rfl (Ch (decide_eq_true (show 0+(x::r).length≤1073741824 by omega)) rfl)
theorem Q9{i n:Nat}(h:i<n)(hn:n≤50000000):IntKind.wrap .i64 ((i:Int)+1)=((i+1:Nat):Int):=by
 unfold IntKind.wrap
 simp only[IntKind.bits,IntKind.signed]
 simp
 split<;>omega
theorem aa3(xs:List ag)(ys:List ah)(h:pT xs ys=true):T5 S8 Xr 500060 lH ((),(xs,(ys,())))=some (((xs,(ys,())),()),(xs,(ys,()))):=by
 unfold pT at h
 simp only[Bool.and_eq_true,decide_eq_true_eq,List.all_eq_true]at h
 obtain⟨hx,hy,hr⟩:=h
 refine FM (fn:=Tryz.f60) (by kernel_rfl) (by kernel_rfl) ((aaY _ _ _).trans ?_)
 refine Ch (decide_eq_true (show 0+xs.length≤1073741824 by omega)) (Ch (decide_eq_true (show 0+ys.length≤1073741824 by omega)) ?_)
 have loop:∀(n i:Nat) (out:List ag),i+n=xs.length→out=xs→LXG S8 Xr 500060 lH Tryz.f60 Iq (aY Tryz.prog 60 0) ((((xs.length:Nat):Int),((i:Int),())),(((([]:List ag),(([]:List ah),())),((out,(ys,())),())),(xs,(ys,()))))=some (((xs,(ys,())),()),(xs,(ys,()))):=by
  intro n
  induction n with
  |zero =>
   intro i out hi ho
   subst ho
   refine Q6 (j:=0) (by kernel_rfl) ((LP _ _ _).trans ?_)
   exact T6 (decide_eq_false (show ¬((i:Int)<((out.length:Nat):Int)) by omega)) rfl
  |succ n ih =>
   intro i out hi ho
   have aM:i<xs.length:=by omega
   have Q3:out[i]? = some xs[i]:=by rw[ho];exact List.getElem?_eq_getElem aM
   have VN:out.length=xs.length:=by rw[ho]
   have c1:(decide ((0:Int)≤(i:Int))&&decide ((i:Int)<((out.length:Nat):Int)))=true:=by
    rw[decide_eq_true (show(0:Int)≤(i:Int) by omega),decide_eq_true (show(i:Int)<((out.length:Nat):Int) by omega)];rfl
   refine Q6 (j:=0) (by kernel_rfl) ((LP _ _ _).trans ?_)
   refine Ch (decide_eq_true (show((i:Int)<((xs.length:Nat):Int)) by omega)) (Ch c1 (Q7 Q3 ?_))
   refine Q7 (aa2 xs[i].2.1 (hr _ (List.getElem_mem aM))) ?_
   refine Ch c1 (Q7 Q3 ?_)
   have hs:out.set i (xs[i].1,(xs[i].2.1,xs[i].2.2))=xs:=by
    subst ho;exact List.set_getElem_self aM
   have:=ih (i+1) (out.set i (xs[i].1,(xs[i].2.1,xs[i].2.2))) (by omega) hs
   rw[←Q9 aM hx]at this
   exact this
 exact loop xs.length 0 xs (by omega) rfl
theorem agd{f:FuncId}{g:aL}{x:g.A}{y:g.B}(hs:S8 f=some g)(h:T5 S8 Xr f g x=some y):D0 Tryz.prog f g x y :=
 Ab (fun f g u hf hu=>by
  have hm:=LR hf
  simp only[Xq,List.mem_cons,List.not_mem_nil,or_false,Prod.mk.injEq]at hm
  rcases hm with⟨_,rfl⟩|⟨_,rfl⟩|⟨rfl,rfl⟩|⟨rfl,rfl⟩
  ·cases hu
  ·cases hu
  ·cases hu;intro Z ψ h w B0 O N hh id e vs us;exact T7
  ·cases hu;intro Z ψ h w B0 O N hh id e vs us;exact T8) Cg (fun f g hf=>Ag (by kernel_rfl) (LR hf)) sK (fun f g u x y _ hu _=>by cases hu) hs h
theorem NB:iU Tryz.prog 60 Fw:=FL fun xs ys h=>by
 have:=agd (by kernel_rfl) (aa3 xs ys h)
 exact this
end Go.Vs
namespace Go.Vs
open Go.Proofs
theorem Ra:∀f g u,Sg f=some g→g.x=some u→iU Tryz.prog (f%1000) u:=fun f g u h hu=>by
 have hm:=Q4 h
 have key:(sgs.all fun p=>p.2.x.isNone || (p.1==108 || (p.1==130 || (p.1==156 || (p.1==109 || (p.1==120 || (p.1==158 || p.1==500060)))))))=true:=by kernel_rfl
 have:=List.all_eq_true.1 key _ hm
 simp only[hu,Option.isNone_some,Bool.false_or,Bool.or_eq_true,beq_iff_eq]at this
 rcases this with rfl|rfl|rfl|rfl|rfl|rfl|rfl
 ·have e:Sg 108=some Vu:=by kernel_rfl
  rw[e]at h;cases h;cases hu;intro Z ψ h w B0 O N hh id e vs us;exact uB (k:=eO) Xk
 ·have e:Sg 130=some Vx:=by kernel_rfl
  rw[e]at h;cases h;cases hu;intro Z ψ h w B0 O N hh id e vs us;exact uB (k:=fM) Xm
 ·have e:Sg 156=some Vy:=by kernel_rfl
  rw[e]at h;cases h;cases hu;intro Z ψ h w B0 O N hh id e vs us;exact uB (k:=dA) Xo
 ·have e:Sg 109=some Vv:=by kernel_rfl
  rw[e]at h;cases h;cases hu;intro Z ψ h w B0 O N hh id e vs us;exact Cf (k:=eO) Xl
 ·have e:Sg 120=some Vw:=by kernel_rfl
  rw[e]at h;cases h;cases hu;intro Z ψ h w B0 O N hh id e vs us;exact Cf (k:=fM) Xn
 ·have e:Sg 158=some Vz:=by kernel_rfl
  rw[e]at h;cases h;cases hu;intro Z ψ h w B0 O N hh id e vs us;exact Io (k:=bw) TX
 ·have e:Sg 500060=some Ib:=by kernel_rfl
  rw[e]at h;cases h;cases hu;intro Z ψ h w B0 O N hh id e vs us;exact NB
end Go.Vs
