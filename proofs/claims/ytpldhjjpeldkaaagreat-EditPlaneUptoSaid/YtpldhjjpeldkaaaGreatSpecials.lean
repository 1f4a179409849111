/- slices.Insert, slices.Delete, slices.Grow and slices.Clone at rows of one's own; what is asked of the program as a whole. -/
import Derived.Test.YtpldhjjpeldkaaaGreatEngineA
import Derived.Laws.CopyRow
import Derived.Lib.AppendZerosOnto
import Derived.Lib.Overlaps
import Derived.Test.YtpldhjjpeldkaaaGreatProg
import Derived.WalkKit
import Derived.Lib.Walk
import Derived.Shelf.Spec.SlicesInsert
import Derived.Laws.NewBlocks
import Derived.Test.YtpldhjjpeldkaaaGreatEngineC
import Derived.Test.YtpldhjjpeldkaaaGreatEngineB
import Derived.Laws.StructEq
import Derived.Test.YtpldhjjpeldkaaaGreatEngineD
import Derived.KernelRfl
namespace Go.Vs
variable {P:Program} {w:World}
theorem b8(w:World)(dT sT ty elem:TypeId)(sz g o Vn aeh:Nat)(a:Addr)(Vo aei:Nat)(cur:Array Value)(t:TypeId)(cs:List Value)
  (hu:P.underlying dT=some (.slice elem)) (hs:(P.info? elem).map (·.size)=some sz)
  (hg:w.heap[g]? = some (.cells cur t (0,0))) (hn:cs.length=Nat.min Vo Vn * sz)
  (vt:∀(j:Nat) v,cs[j]? = some v→w.cell? (a.add j)=some v) (RD:o+cs.length≤cur.size) (h1:∀v∈cs,v.oneCell'=true) :
  (Builtin.copy_ #[dT,sT] ty #[.slice (some ⟨g,o,none⟩) Vn aeh,.slice (some a) Vo aei]).run P w =
   .ok (goInt (Nat.min Vo Vn)) (w.setRow g (cur.toList.take o++cs++cur.toList.drop (o+cs.length)).toArray):=by
 have hl:=run_loadCells_list (P:=P) w a cs vt
 have tP:=run_storeCells_at P g o t cs 0 cur w hg (by simpa using RD) h1
 cases hq:P.info? elem with
 | none=>simp [hq] at hs
 | some i =>
  have hi:i.size=sz:=by simpa [hq] using hs
  simp only [Nat.add_zero] at tP
  simp [Builtin.copy_,run_underlying hu,Builtin.lenOf,Builtin.firstCells,sizeOf,typeInfo,hq,hi,←hn,hl,tP]
theorem nF(w:World)(t ty e:TypeId)(sz g n c:Nat)(a:Addr)(m mc:Nat)(cur:Array Value)(news:List Value)(ht:P.underlying t=some (.slice e))(hs:(P.info? e).map (·.size)=some sz)
  (hg:w.heap[g]? = some (.cells cur e (0,0))) (hl:news.length=m * sz) (vt:∀(j:Nat) v,news[j]? = some v→w.cell? (a.add j)=some v) (h1:∀v∈news,v.oneCell'=true) (iA:n+m≤c) (ir:c * sz≤cur.size) :
  (Builtin.append_ #[t,t] ty #[.slice (some ⟨g,0,none⟩) n c,.slice (some a) m mc]).run P w=.ok (.slice (some ⟨g,0,none⟩) (n+m) c) (w.setRow g (cur.toList.take (n * sz)++news++cur.toList.drop (n * sz+news.length)).toArray):=by
 have hle:n * sz+m * sz≤c * sz:=by rw [←Nat.add_mul];exact Nat.mul_le_mul_right _ iA
 have Zh:=run_loadCells_list (P:=P) w a news vt
 have tP:=run_storeCells_at P g (n * sz) e news 0 cur w hg (by omega) h1
 simp only [Nat.add_zero] at tP
 have ha:(⟨g,0,none⟩:Addr).add (n * sz)=⟨g,n * sz,none⟩:=by rw [ck,Nat.zero_add]
 cases hq:P.info? e with
 | none=>simp [hq] at hs
 | some i =>
  have hi:i.size=sz:=by simpa [hq] using hs
  simp [Builtin.append_,run_underlying ht,Builtin.lenOf,Builtin.firstCells,sizeOf,typeInfo,hq,hi,←hl,Zh,iA,ha,tP]
theorem qw(w:World)(t ty e:TypeId)(sz g o k c:Nat)(cur:Array Value)(i:TypeInfo)(z:Value)(ht:P.underlying t=some (.slice e))(hi:P.info? e=some i)(hz:i.zero=some z)(vu:z.cells.size=sz)(h1:∀v∈z.cells.toList,v.oneCell'=true)
  (hg:w.heap[g]? = some (.cells cur e (0,0))) (hk:0<k) (RD:o+k * sz≤cur.size) :
  (Builtin.clear_ #[t] ty #[.slice (some ⟨g,o,none⟩) k c]).run P w=.ok (.tuple #[]) (w.setRow g (cur.toList.take o++(Builtin.zeroCells z.cells k).toList++cur.toList.drop (o+(Builtin.zeroCells z.cells k).toList.length)).toArray):=by
 have hl:(Builtin.zeroCells z.cells k).toList.length=k * sz:=by simp [Builtin.zeroCells,vu]
 have D3:∀v∈(Builtin.zeroCells z.cells k).toList,v.oneCell'=true:=fun v hv=>by
  simp only [Builtin.zeroCells,Array.toList_map,List.mem_map] at hv
  obtain ⟨q,hq,rfl⟩:=hv
  have hq':q<k * z.cells.size:=by simpa using hq
  have hp:0<z.cells.size:=by
   rcases Nat.eq_zero_or_pos z.cells.size with h | h
   ·rw [h,Nat.mul_zero] at hq';omega
   ·exact h
  have aE:q % z.cells.size<z.cells.size:=Nat.mod_lt _ hp
  rw [getElem!_pos z.cells _ aE]
  exact h1 _ (by simp)
 have tP:=run_storeCells_at P g o e (Builtin.zeroCells z.cells k).toList 0 cur w hg (by omega) D3
 simp only [Nat.add_zero] at tP
 obtain ⟨m,rfl⟩:∃m,k=m+1:=⟨k - 1,by omega⟩
 simp [Builtin.clear_,run_underlying ht,zeroValue,typeInfo,hi,hz,tP]
end Go.Vs
set_option linter.unusedVariables false
set_option linter.unusedSimpArgs false
namespace Go.Vs
open Go.Proofs Go.RowKit
def EH(P:Program)(f:FuncId)(e:TypeId)(size:Nat):Prop :=
 ∀(w:World) (v u:Value) (n i:Nat) (xs ys:List Value),du w e size v n xs→du w e size u 1 ys→i≤n→n+1≤fm→(∀b,ob v=some b→ob u≠some b) →
  (∀q∈xs,q.oneCell'=true)→(∀q∈ys,q.oneCell'=true) →
  Calls P f #[v,.int .i64 i,u] w fun en w'=>∃v',en=.returned v'∧du w' e size v' (n+1) (xs.take (i * size)++(ys++xs.drop (i * size)))∧w.grownBy w' (ob v)∧(ob v'=ob v∨∀b,ob v'=some b→w.heap.size≤b)
set_option maxHeartbeats 4000000 in
set_option maxRecDepth 100000 in
theorem I7(w:World)(v u:Value)(n:Nat)(xs ys:List Value)(hv:du w 48 5 v n xs)(hu:du w 48 5 u 1 ys)(hm:n+1≤fm)(h1:∀q∈ys,q.oneCell'=true) :
  Calls Tryz.prog 108 #[v,.int .i64 n,u] w fun en w'=>∃v',en=.returned v'∧du w' 48 5 v' (n+1) (xs++ys)∧w.grownBy w' (ob v)∧(ob v'=ob v∨∀b,ob v'=some b→w.heap.size≤b):=by
 have ht:Tryz.prog.underlying 22=some (.slice 48):=by kernel_rfl
 obtain ⟨i0,z0,he⟩:=cw (P:=Tryz.prog) (e:=48) (k:=.pair (.pair (.int .i64) (.int .i64)) (.pair (.sl (.pair (.pair (.int .i64) (.int .i64)) (.int .i64))) (.pair .str (.int .i64)))) (by kernel_rfl)
 have vt:Lr w 5 u 1 ys:=by
  refine ⟨hu.1,h1,.inr ?_⟩
  rcases hu.2 with ⟨h0,_⟩ | ⟨g,cap,cur,rfl,_,hg,_,_,hc,iB⟩
  ·cases h0
  ·refine ⟨_,_,rfl,fun j q hj => ?_⟩
   rw [ck,Nat.zero_add]
   rw [←iB,List.getElem?_take] at hj
   split at hj
   ·simp [World.cell?,hg];simpa using hj
   ·cases hj
 obtain ⟨v',w',dh,h4,h5,h6⟩:=dz (P:=Tryz.prog) (ty:=22) ht he hv vt hm
 obtain ⟨A,c,rfl⟩:=hv.slice
 have Ca:n≤c:=by
  rcases hv.2 with ⟨h0,A,e⟩ | ⟨g,cap,cur,e,hc,h2,h3,_⟩
  ·omega
  ·cases e;exact h3
 obtain ⟨B,cu,rfl⟩:=hu.slice
 have Zi:n≤1073741824:=by unfold fm at hm;omega
 go_enter Tryz.func108,Tryz.ntmps108
 go_wp2_with (at_builtin;refine Lib.wpList_append_run _ rfl _ _ _ _ rfl _ _ rfl rfl _ _ dh ?_)
 all_goals go_ret
 all_goals first | exact ⟨_,rfl,h4,h5,h6⟩ | (subst_vars;exact ⟨_,rfl,h4,h5,h6⟩)
theorem Ba{α:Type}{cur xs ys cur1 cur3:List α}{i n sz:Nat}(iB:cur.take (n * sz)=xs)(hl:(n+1) * sz≤cur.length)(hy:ys.length=sz)(hi:i≤n)
  (h1:cur1=cur.take ((i+1) * sz)++xs.drop (i * sz)++cur.drop ((i+1) * sz+(xs.drop (i * sz)).length)) (h3:cur3=cur1.take (i * sz)++ys++cur1.drop (i * sz+ys.length)) :
  cur3.take ((n+1) * sz)=xs.take (i * sz)++(ys++xs.drop (i * sz)):=by
 have nW:i * sz≤n * sz:=Nat.mul_le_mul_right _ hi
 rw [Nat.add_mul,Nat.one_mul] at hl h1 ⊢
 have wh:xs.length=n * sz:=by rw [←iB,List.length_take];omega
 generalize i * sz=a at *
 generalize n * sz=b at *
 have e1:cur1.take a=xs.take a:=by
  rw [h1,List.append_assoc,List.take_append_of_le_length (by rw [List.length_take];omega),List.take_take,←iB,List.take_take]
  congr 1;omega
 have e2:cur1.drop (a+ys.length)=xs.drop a++cur.drop (a+1 * sz+(xs.drop a).length):=by
  rw [h1,List.append_assoc,Nat.one_mul,hy]
  exact List.drop_left' (by rw [List.length_take];omega)
 rw [h3,e1,e2,←List.append_assoc,←List.append_assoc]
 rw [List.take_left' (by simp only [List.length_append,List.length_take,List.length_drop];omega)]
theorem fR{w:World}{e size:Nat}{g n:Nat}{cur:Array Value}{xs:List Value}(hg:w.heap[g]? = some (.cells cur e (0,0)))(iB:cur.toList.take (n * size)=xs)(o:Nat):∀(j:Nat) q,(xs.drop o)[j]? = some q→w.cell? ((⟨g,o,none⟩:Addr).add j)=some q:=fun j q hj=>by
 rw [ck]
 rw [List.getElem?_drop,←iB,List.getElem?_take] at hj
 split at hj
 ·simp [World.cell?,hg];simpa using hj
 ·cases hj
set_option maxHeartbeats 4000000 in
set_option maxRecDepth 100000 in
theorem EI(w:World)(g c g2 c2 n i:Nat)(xs ys:List Value)(cur cW:Array Value)(hg:w.heap[g]? = some (.cells cur 48 (0,0)))(ir:cur.size=c * 5)(iB:cur.toList.take (n * 5)=xs)(wh:xs.length=n * 5)
  (su:w.heap[g2]? = some (.cells cW 48 (0,0))) (pK:cW.size=c2 * 5) (vd:0<c2) (kc:cW.toList.take (1 * 5)=ys) (De:ys.length=1 * 5) (bc:g2≠g) (hi:i<n) (iA:n+1≤c) (hc:c≤maxLen)
  (h1:∀q∈xs,q.oneCell'=true) (h2:∀q∈ys,q.oneCell'=true) :
  Calls Tryz.prog 108 #[.slice (some ⟨g,0,none⟩) n c,.int .i64 i,.slice (some ⟨g2,0,none⟩) 1 c2] w fun en w'=>en=.returned (.slice (some ⟨g,0,none⟩) (n+1) c) ∧
   ∃cY:Array Value,w'.heap[g]? = some (.cells cY 48 (0,0))∧cY.size=cur.size∧cY.toList.take ((n+1) * 5)=xs.take (i * 5)++(ys++xs.drop (i * 5))∧w.grownBy w' (some g):=by
 have ht:Tryz.prog.underlying 22=some (.slice 48):=by kernel_rfl
 have hz:(Tryz.prog.info? 48).map (·.size)=some 5:=by kernel_rfl
 have vu:∀w,(Go.sizeOf 48).run Tryz.prog w=.ok 5 w:=fun w=>by
  cases hq:Tryz.prog.info? 48 with
  | none=>rw [hq] at hz;cases hz
  | some i=>rw [hq] at hz;simp at hz;simp [sizeOf,typeInfo,hq,hz]
 have Re:∀a2 lb cb,(callFunc 128 #[.slice (some ⟨g2,0,none⟩) 1 c2,.slice (some ⟨g,a2,none⟩) lb cb]).run Tryz.prog w=.ok (.value (.bool false)) w:=fun a2 lb cb=>by
  rw [run_callFunc_extern Tryz.func128 (by kernel_rfl) (by kernel_rfl) (by kernel_rfl) (e:=Extern.SlicesOverlaps.overlaps #[22,22] #[4]) (by kernel_rfl),
   Lib.run_overlaps_apart w 22 4 48 ht 5 vu ⟨g2,0,none⟩ ⟨g,a2,none⟩ 1 c2 lb cb bc 48 48 cW.size cur.size (by simp [World.shape?,su]) (by simp [World.shape?,hg]) (by omega) (by simp [World.frozen?,su]) (by simp [World.frozen?,su])]
  rfl
 have Cd:=fR (size:=5) (n:=1) su kc 0
 have qT:=fR (size:=5) (n:=n) hg iB (i * 5)
 have h63:c≤9223372036854775807:=by unfold maxLen at hc;omega
 have hn5:n * 5≤cur.size:=by omega
 obtain ⟨cur1,eL⟩:∃cur1:Array Value,cur1=(cur.toList.take ((i+1) * 5)++xs.drop (i * 5)++cur.toList.drop ((i+1) * 5+(xs.drop (i * 5)).length)).toArray:=⟨_,rfl⟩
 have xL:(xs.drop (i * 5)).length=(n - i) * 5:=by rw [List.length_drop,wh];omega
 have Pr:∀(W:World),W.heap=w.heap→∀ty dc sc,(Builtin.copy_ #[22,22] ty #[.slice (some ⟨g,(i+1) * 5,none⟩) (n - i) dc,.slice (some ⟨g,i * 5,none⟩) (n+1 - i) sc]).run Tryz.prog W=.ok (goInt (n - i:Nat)) (W.setRow g cur1):=fun W hW ty dc sc=>by
  have:=b8 (P:=Tryz.prog) W 22 22 ty 48 5 g ((i+1) * 5) (n - i) dc ⟨g,i * 5,none⟩ (n+1 - i) sc cur 48 (xs.drop (i * 5)) ht hz (by rw [hW];exact hg) (by rw [xL];simp only [Nat.min_def];split<;>omega)
   (fun j v hj=>by have:=qT j v hj;simpa only [World.cell?,hW] using this) (by omega) (fun q hq=>h1 q (List.mem_of_mem_drop hq))
  rw [this,eL]
  congr 2
  simp only [Nat.min_def];split<;>omega
 have Em:cur1.size=cur.size:=by rw [eL];simp;omega
 obtain ⟨cur3,mo⟩:∃cur3:Array Value,cur3=(cur1.toList.take (i * 5)++ys++cur1.toList.drop (i * 5+ys.length)).toArray:=⟨_,rfl⟩
 have Ps:∀(W:World),W.heap[g]? = some (.cells cur1 48 (0,0))→W.heap[g2]? = w.heap[g2]?→∀ty dc sc,(Builtin.copy_ #[22,22] ty #[.slice (some ⟨g,i * 5,none⟩) (n+1 - i) dc,.slice (some ⟨g2,0,none⟩) 1 sc]).run Tryz.prog W=.ok (goInt 1) (W.setRow g cur3):=fun W hW Zj ty dc sc=>by
  have:=b8 (P:=Tryz.prog) W 22 22 ty 48 5 g (i * 5) (n+1 - i) dc ⟨g2,0,none⟩ 1 sc cur1 48 ys ht hz hW (by rw [De];simp only [Nat.min_def];split<;>omega)
   (fun j v hj=>by have:=Cd j v (by simpa using hj);simpa only [World.cell?,ct,Zj] using this) (by omega) h2
  rw [this,mo]
  congr 2
  simp only [Nat.min_def];split<;>omega
 have IP:IntKind.i64.wrap ((i:Int)+1)=(i:Int)+1:=by rw [IntKind.wrap_i64];omega
 have I8:IntKind.i64.wrap ((n:Int)+1)=(n:Int)+1:=by rw [IntKind.wrap_i64];omega
 have Mg:(0:Int)≤(i:Int)+1:=by omega
 have lO:i≤n:=by omega
 have Rf:((i:Int)+1).toNat=i+1:=by omega
 have vB:¬(c=i+1):=by omega
 have TX:(i:Int)≤(n:Int)+1:=by omega
 have Zk:¬(c=i):=by omega
 have BY:¬((i:Int)=(n:Int)):=by omega
 have HV:¬((c:Int)<(n:Int)+1):=by omega
 have Rg:cur3.size=cur.size:=by rw [mo];simp;omega
 have lB:cur3.toList.take ((n+1) * 5)=xs.take (i * 5)++(ys++xs.drop (i * 5)):=Ba (sz:=5) (cur1:=cur1.toList) (cur3:=cur3.toList) iB (by simp;omega) (by rw [De]) lO (by rw [eL]) (by rw [mo])
 clear mo eL xL iB kc
 have GN:=Ps (w.drew.setRow g cur1) (setRow_heap w.drew g cur _ 48 _ hg) (_root_.Go.setRow_other w.drew g g2 _ bc)
 have mixed:Tryz.prog.follows .mixedOrders=true:=by kernel_rfl
 go_enter Tryz.func108,Tryz.ntmps108
 go_wp2_with (simp only [Re])
 go_region_law (go_loud (refine step_copy_runI rfl _ _ 22 22 rfl (.slice (some ⟨g,(i+1) * 5,none⟩) (n - i) (c - (i+1))) (.slice (some ⟨g,i * 5,none⟩) (n+1 - i) (c - i)) (by simp [Act.eval,Act.put]) (by simp [Act.eval,Act.put]) (Pr w.drew rfl 3 (c - (i+1)) (c - i)) ?_))
 go_wp2_with (simp only [GN])
 go_ret
 refine ⟨rfl,cur3,setRow_heap _ g cur1 _ 48 _ (setRow_heap w.drew g cur _ 48 _ hg),Rg,lB,⟨rfl,rfl,rfl,by simp [World.setRow],fun k hk Mh => ?_⟩⟩
 have vg:k≠g:=fun e=>Mh (by rw [e])
 rw [_root_.Go.setRow_other _ g k _ vg,_root_.Go.setRow_other _ g k _ vg];rfl
theorem wi{α:Type}{row xs ys row2 row3:List α}{i n sz:Nat}(hA:row.take (i * sz)=xs.take (i * sz))(hl:(n+1) * sz≤row.length)(wh:xs.length=n * sz)(hy:ys.length=sz)(hi:i≤n)
  (h2:row2=row.take (i * sz)++ys++row.drop (i * sz+ys.length)) (h3:row3=row2.take ((i+1) * sz)++xs.drop (i * sz)++row2.drop ((i+1) * sz+(xs.drop (i * sz)).length)) :
  row3.take ((n+1) * sz)=xs.take (i * sz)++(ys++xs.drop (i * sz)):=by
 have nW:i * sz≤n * sz:=Nat.mul_le_mul_right _ hi
 rw [Nat.add_mul,Nat.one_mul] at hl h3 ⊢
 generalize i * sz=a at *
 generalize n * sz=b at *
 have e1:row2.take (a+1 * sz)=xs.take a++ys:=by
  rw [h2,hA,Nat.one_mul]
  exact List.take_left' (by simp only [List.length_append,List.length_take];omega)
 rw [Nat.one_mul] at e1
 rw [h3,e1]
 rw [List.take_left' (by simp only [List.length_append,List.length_take,List.length_drop];omega)]
 rw [List.append_assoc]
set_option maxHeartbeats 4000000 in
set_option maxRecDepth 100000 in
theorem GO(w:World)(g c g2 c2 n i:Nat)(xs ys:List Value)(cur cW:Array Value)(hg:w.heap[g]? = some (.cells cur 48 (0,0)))(ir:cur.size=c * 5)(iB:cur.toList.take (n * 5)=xs)(wh:xs.length=n * 5)
  (su:w.heap[g2]? = some (.cells cW 48 (0,0))) (pK:cW.size=c2 * 5) (vd:0<c2) (kc:cW.toList.take (1 * 5)=ys) (De:ys.length=1 * 5) (bc:g2≠g) (hi:i<n) (Ca:n≤c) (iA:c<n+1) (hm:n+1≤fm)
  (h1:∀q∈xs,q.oneCell'=true) (h2:∀q∈ys,q.oneCell'=true) :
  Calls Tryz.prog 108 #[.slice (some ⟨g,0,none⟩) n c,.int .i64 i,.slice (some ⟨g2,0,none⟩) 1 c2] w fun en w'=>∃G,en=.returned (.slice (some ⟨w.heap.size,0,none⟩) (n+1) G) ∧
   ∃cY:Array Value,w'.heap[w.heap.size]? = some (.cells cY 48 (0,0))∧cY.size=G * 5∧n+1≤G∧G≤maxLen∧cY.toList.take ((n+1) * 5)=xs.take (i * 5)++(ys++xs.drop (i * 5))∧w.grownBy w' (some g):=by
 have ht:Tryz.prog.underlying 22=some (.slice 48):=by kernel_rfl
 have Rf:Tryz.prog.underlying 3=some (.int .i64):=by kernel_rfl
 have hz:(Tryz.prog.info? 48).map (·.size)=some 5:=by kernel_rfl
 obtain ⟨i0,z0,he⟩:=cw (P:=Tryz.prog) (e:=48) (k:=.pair (.pair (.int .i64) (.int .i64)) (.pair (.sl (.pair (.pair (.int .i64) (.int .i64)) (.int .i64))) (.pair .str (.int .i64)))) (by kernel_rfl)
 have B3:z0.cells.size=5:=he.rW
 have vu:i0.size=5:=he.size
 have Ct:=he.bytes
 have Cd:=fR (size:=5) (n:=1) su kc 0
 have qT:=fR (size:=5) (n:=n) hg iB (i * 5)
 have GQ:=fR (size:=5) (n:=n) hg iB 0
 have Rh:g<w.heap.size:=(Array.getElem?_eq_some_iff.1 hg).1
 have Pu:g2<w.heap.size:=(Array.getElem?_eq_some_iff.1 su).1
 unfold fm at hm
 have jz:(n+1) * i0.bytes≤140737488355328:=Nat.le_trans (Nat.mul_le_mul hm Ct) (by decide)
 have hold:(Builtin.firstCells i0.size i (.slice (some ⟨g,0,none⟩) i c)).run Tryz.prog w.drew=.ok (xs.take (i * 5)).toArray w.drew:=by
  rw [vu]
  exact run_firstCells_some w.drew 5 i ⟨g,0,none⟩ i c (xs.take (i * 5)) (by rw [List.length_take];omega) (fun j v hj=>by
   rw [List.getElem?_take] at hj
   split at hj
   ·exact GQ j v hj
   ·cases hj)
 obtain ⟨G,hG⟩:∃G,G=grownCap w (n+1) c 48:=⟨_,rfl⟩
 obtain ⟨iC,pM⟩:∃iC:Array Value,iC=(xs.take (i * 5)).toArray++Builtin.zeroCells z0.cells (n+1 - i)++Builtin.zeroCells z0.cells (G - (n+1)):=⟨_,rfl⟩
 have RW:i+(n+1 - i)=n+1:=by omega
 have Ri:∀ty,(Builtin.append_ #[22,3] ty #[.slice (some ⟨g,0,none⟩) i c,.int .i64 ((n:Int)+1 - (i:Int))]).run Tryz.prog w=.ok (.slice (some ⟨w.heap.size,0,none⟩) (n+1) G) (w.drew.alloc (.cells iC 48)):=fun ty=>by
  have h:=Lib.run_append_grow_zeros w 22 3 ty 48 i0 z0 .i64 .i64 ht Rf he.info he.zero (some ⟨g,0,none⟩) i c (xs.take (i * 5)) hold (n+1 - i) (by omega) (by omega) (by omega) (by omega)
   (Nat.le_trans (Nat.mul_le_mul_right _ (show n+1 - i≤n+1 by omega)) (by omega)) (by rw [RW];exact growslice_fits iA jz)
  rw [RW] at h
  rw [show (n:Int)+1 - (i:Int)=((n+1 - i:Nat):Int) by omega,pM,hG]
  exact h
 have Xb:n+1≤G:=by rw [hG];exact grownCap_ge w _ _ _
 have I9:G≤9223372036854775807:=by
  have:=grownCap_le_maxLen w (n+1) c 48 (by unfold maxLen;omega)
  rw [←hG] at this
  unfold maxLen at this
  omega
 have hRs:iC.size=G * 5:=by
  rw [pM]
  simp [Builtin.zeroCells,B3,List.length_take,wh]
  rw [Nat.min_eq_left (by omega)];omega
 have TY:iC.toList.take (i * 5)=xs.take (i * 5):=by
  rw [pM]
  simp only [Array.toList_append,List.append_assoc]
  exact List.take_left' (by rw [List.length_take];omega)
 obtain ⟨W1,nX⟩:∃W1,W1=w.drew.alloc (.cells iC 48):=⟨_,rfl⟩
 have qx:W1.heap[w.heap.size]? = some (.cells iC 48 (0,0)):=by rw [nX];exact (MapKept.heap_alloc w.drew (.cells iC 48)).1
 have rO:∀b,b<w.heap.size→W1.heap[b]? = w.heap[b]? := fun b hb=>by rw [nX];exact (Below.heap_alloc w.drew (.cells iC 48) b hb).trans rfl
 have rP:w.grownBy W1 none:=⟨by rw [nX];rfl,by rw [nX];rfl,by rw [nX];rfl,by have:=(Array.getElem?_eq_some_iff.1 qx).1;omega,fun k hk _=>rO k hk⟩
 obtain ⟨row2,mq⟩:∃row2:Array Value,row2=(iC.toList.take (i * 5)++ys++iC.toList.drop (i * 5+ys.length)).toArray:=⟨_,rfl⟩
 have Ki:row2.size=iC.size:=by rw [mq];simp;omega
 have Pv:∀(W:World),W.heap=W1.heap→∀ty dc sc,(Builtin.copy_ #[22,22] ty #[.slice (some ⟨w.heap.size,i * 5,none⟩) (n+1 - i) dc,.slice (some ⟨g2,0,none⟩) 1 sc]).run Tryz.prog W=.ok (goInt 1) (W.setRow w.heap.size row2):=fun W hW ty dc sc=>by
  have:=b8 (P:=Tryz.prog) W 22 22 ty 48 5 w.heap.size (i * 5) (n+1 - i) dc ⟨g2,0,none⟩ 1 sc iC 48 ys ht hz (by rw [hW];exact qx) (by rw [De];simp only [Nat.min_def];split<;>omega)
   (fun j v hj=>by have:=Cd j v (by simpa using hj);simpa only [World.cell?,ct,hW,rO g2 Pu] using this) (by omega) h2
  rw [this,mq]
  congr 2
  simp only [Nat.min_def];split<;>omega
 obtain ⟨row3,mr⟩:∃row3:Array Value,row3=(row2.toList.take ((i+1) * 5)++xs.drop (i * 5)++row2.toList.drop ((i+1) * 5+(xs.drop (i * 5)).length)).toArray:=⟨_,rfl⟩
 have xL:(xs.drop (i * 5)).length=(n - i) * 5:=by rw [List.length_drop,wh];omega
 have Rg:row3.size=iC.size:=by rw [mr];simp;omega
 have Pw:∀(W:World),W.heap=(W1.setRow w.heap.size row2).heap→∀ty dc sc,(Builtin.copy_ #[22,22] ty #[.slice (some ⟨w.heap.size,(i+1) * 5,none⟩) (n - i) dc,.slice (some ⟨g,i * 5,none⟩) (n - i) sc]).run Tryz.prog W=.ok (goInt (n - i:Nat)) (W.setRow w.heap.size row3):=fun W hW ty dc sc=>by
  have:=b8 (P:=Tryz.prog) W 22 22 ty 48 5 w.heap.size ((i+1) * 5) (n - i) dc ⟨g,i * 5,none⟩ (n - i) sc row2 48 (xs.drop (i * 5)) ht hz (by rw [hW];exact setRow_heap W1 w.heap.size iC _ 48 _ qx) (by rw [xL];simp only [Nat.min_def];split<;>omega)
   (fun j v hj=>by have:=qT j v hj;simpa only [World.cell?,ct,hW,_root_.Go.setRow_other W1 w.heap.size g _ (Nat.ne_of_lt Rh),rO g Rh] using this) (by omega) (fun q hq=>h1 q (List.mem_of_mem_drop hq))
  rw [this,mr]
  congr 2
  simp only [Nat.min_def];split<;>omega
 have lB:row3.toList.take ((n+1) * 5)=xs.take (i * 5)++(ys++xs.drop (i * 5)):=wi (sz:=5) (row:=iC.toList) (row2:=row2.toList) (row3:=row3.toList) TY (by simp;omega) wh (by rw [De]) (by omega) (by rw [mq]) (by rw [mr])
 clear mr mq pM xL iB kc TY GQ hold hG
 have IP:IntKind.i64.wrap ((i:Int)+1)=(i:Int)+1:=by rw [IntKind.wrap_i64];omega
 have I8:IntKind.i64.wrap ((n:Int)+1)=(n:Int)+1:=by rw [IntKind.wrap_i64];omega
 have hw3:IntKind.i64.wrap ((n:Int)+1 - (i:Int))=(n:Int)+1 - (i:Int):=by rw [IntKind.wrap_i64];omega
 have Mg:(0:Int)≤(i:Int)+1:=by omega
 have lO:i≤n:=by omega
 have Zl:((i:Int)+1).toNat=i+1:=by omega
 have hGi:¬(G=i):=by omega
 have Zm:¬(G=i+1):=by omega
 have hci:¬(c=i):=by omega
 have TX:(i:Int)≤(n:Int):=by omega
 have BY:¬((i:Int)=(n:Int)):=by omega
 have HV:(c:Int)<(n:Int)+1:=by omega
 rw [←nX] at Ri
 clear nX
 have mixed:Tryz.prog.follows .mixedOrders=true:=by kernel_rfl
 go_enter Tryz.func108,Tryz.ntmps108
 go_wp2_with (first
  | (at_builtin;refine Lib.wpList_append_run _ rfl _ _ _ _ rfl _ _ rfl rfl _ _ (Ri _) ?_)
  | (at_builtin;refine wpList_copy_runI _ rfl _ _ 22 22 rfl _ _ rfl rfl (Pv _ (by rfl) _ _ _) ?_))
 go_region_law (go_loud (refine step_copy_runI rfl _ _ 22 22 rfl (.slice (some ⟨w.heap.size,(i+1) * 5,none⟩) (n - i) (G - (i+1))) (.slice (some ⟨g,i * 5,none⟩) (n - i) (c - i)) (by simp [Act.eval,Act.put]) (by simp [Act.eval,Act.put]) (Pw (W1.setRow w.heap.size row2).drew rfl 3 (G - (i+1)) (c - i)) ?_))
 go_wp2
 go_ret
 refine ⟨G,rfl,row3,setRow_heap _ w.heap.size row2 _ 48 _ (setRow_heap W1 w.heap.size iC _ 48 _ qx),by omega,Xb,I9,lB,⟨rP.os,rP.tape,rP.output,by have:=rP.size;simpa [World.setRow] using this,fun k hk _ => ?_⟩⟩
 rw [_root_.Go.setRow_other _ w.heap.size k _ (Nat.ne_of_lt hk)]
 exact (_root_.Go.setRow_other W1 w.heap.size k _ (Nat.ne_of_lt hk)).trans (rO k hk)
theorem Vp:EH Tryz.prog 108 48 5:=fun w v u n i xs ys hv hu hi hm Mi h1 h2=>by
 by_cases he:i=n
 ·subst he
  refine (I7 w v u i xs ys hv hu hm h2).mono fun en w' ⟨v',e1,e2,e3,e4⟩=>⟨v',e1,?_,e3,e4⟩
  have hl:=hv.1
  rw [List.take_of_length_le (by omega),List.drop_eq_nil_of_le (by omega),List.append_nil]
  exact e2
 ·have lO:i<n:=by omega
  rcases hv.2 with ⟨h0,_⟩ | ⟨g,c,cur,rfl,Ng,hg,Ca,EJ,ir,iB⟩
  ·omega
  rcases hu.2 with ⟨h0,_⟩ | ⟨g2,c2,cW,rfl,GR,su,_,_,pK,kc⟩
  ·omega
  have jy:ob (.slice (some ⟨g,0,none⟩) n c)=some g:=by simp only [ob];rw [if_neg (by omega)]
  have Px:ob (.slice (some ⟨g2,0,none⟩) 1 c2)=some g2:=by simp only [ob];rw [if_neg (by omega)]
  have bc:g2≠g:=fun e=>Mi g jy (by rw [Px,e])
  by_cases iA:n+1≤c
  ·refine (EI w g c g2 c2 n i xs ys cur cW hg ir iB hv.1 su pK GR kc hu.1 bc lO iA EJ h1 h2).mono fun en w' ⟨e1,cY,e2,e3,e4,e5⟩ => ?_
   refine ⟨_,e1,⟨?_,.inr ⟨g,c,cY,rfl,Ng,e2,iA,EJ,by rw [e3,ir],e4⟩⟩,by rw [jy];exact e5,.inl ?_⟩
   ·have hl:=hv.1;have sR:=hu.1
    simp only [List.length_append,List.length_take,List.length_drop];omega
   ·rw [jy];simp only [ob];rw [if_neg (by omega)]
  ·refine (GO w g c g2 c2 n i xs ys cur cW hg ir iB hv.1 su pK GR kc hu.1 bc lO Ca (by omega) hm h1 h2).mono fun en w' ⟨G,e1,cY,e2,e3,e4,e5,e6,e7⟩ => ?_
   refine ⟨_,e1,⟨?_,.inr ⟨w.heap.size,G,cY,rfl,by omega,e2,e4,e5,e3,e6⟩⟩,by rw [jy];exact e7,.inr fun b hb => ?_⟩
   ·have hl:=hv.1;have sR:=hu.1
    simp only [List.length_append,List.length_take,List.length_drop];omega
   ·simp only [ob] at hb;rw [if_neg (by omega)] at hb;cases hb;omega
end Go.Vs
namespace Go.Vs
open Go.Proofs Go.RowKit
def Ja(P:Program)(f:FuncId)(e:TypeId)(size:Nat):Prop :=
 ∀(w:World) (v:Value) (n i j:Nat) (xs:List Value),du w e size v n xs→i<j→j≤n→n≤fm→(∀q∈xs,q.oneCell'=true) →
  Calls P f #[v,.int .i64 i,.int .i64 j] w fun en w'=>∃v',en=.returned v'∧du w' e size v' (i+(n - j)) (xs.take (i * size)++xs.drop (j * size))∧w.grownBy w' (ob v)∧ob v'=ob v
theorem gY{P:Program}{ops:Array Oper}{o:Oper}{a:Act}{w:World}{K:Act→World→Prop}{Q:Exit→Act→World→Prop}{E:Prop}
  (hg:o.guard=none) (d x:Operand) (dT sT:TypeId) (Eh:o.op=Op.call { callee:=Callee.builtin Builtin.append,args:=#[d,x],argTypes:=#[dT,sT] })
  (v u:Value) (hd:a.eval d=v) (hx:a.eval x=u) {v':Value} {w':World} (hr:(Builtin.append_ #[dT,sT] o.type #[v,u]).run P w=.ok v' w') (hK:K (a.put o.dst v') w') :
  if Region.wanted o (yielded ops a.tmps)=true then Oper.wp P o a w K Q else E:=by
 have hw:Region.wanted o (yielded ops a.tmps)=true:=by simp [Region.wanted,hg]
 rw [if_pos hw]
 unfold Oper.wp
 simp [execOp,Eh,resolve,invoke,builtin,hd,hx,hr,Result.andThen]
 exact hK
theorem GS{α:Type}{cur xs cur1 cW zs:List α}{i j n sz:Nat}(iB:cur.take (n * sz)=xs)(hl:n * sz≤cur.length)(yu:i≤j)(M7:j≤n)
  (h1:cur1=cur.take (i * sz)++xs.drop (j * sz)++cur.drop (i * sz+(xs.drop (j * sz)).length)) (h2:cW=cur1.take ((i+(n - j)) * sz)++zs++cur1.drop ((i+(n - j)) * sz+zs.length)) :
  cW.take ((i+(n - j)) * sz)=xs.take (i * sz)++xs.drop (j * sz):=by
 have ha:i * sz≤j * sz:=Nat.mul_le_mul_right _ yu
 have hb:j * sz≤n * sz:=Nat.mul_le_mul_right _ M7
 rw [Nat.add_mul,Nat.sub_mul] at h2 ⊢
 have wh:xs.length=n * sz:=by rw [←iB,List.length_take];omega
 generalize i * sz=a at *
 generalize j * sz=b at *
 generalize n * sz=c at *
 have e0:cur.take a=xs.take a:=by rw [←iB,List.take_take];congr 1;omega
 have e1:cur1.take (a+(c - b))=xs.take a++xs.drop b:=by
  rw [h1,e0]
  exact List.take_left' (by simp only [List.length_append,List.length_take,List.length_drop];omega)
 rw [h2,e1,List.append_assoc]
 exact List.take_left' (by simp only [List.length_append,List.length_take,List.length_drop];omega)
set_option maxHeartbeats 4000000 in
set_option maxRecDepth 100000 in
theorem GU(w:World)(g c n i j X:Nat)(xs:List Value)(cur:Array Value)(hg:w.heap[g]? = some (.cells cur 48 (0,0)))(ir:cur.size=c * 5)(iB:cur.toList.take (n * 5)=xs)(wh:xs.length=n * 5)
  (yu:i<j) (M7:j≤n) (Ca:n≤c) (hc:c≤maxLen) (hX:if c=j then X=0 else X=j * 5)
  (h1:∀q∈xs,q.oneCell'=true) :
  Calls Tryz.prog 109 #[.slice (some ⟨g,0,none⟩) n c,.int .i64 i,.int .i64 j] w fun en w'=>en=.returned (.slice (some ⟨g,0,none⟩) (i+(n - j)) c) ∧
   ∃cY:Array Value,w'.heap[g]? = some (.cells cY 48 (0,0))∧cY.size=cur.size∧cY.toList.take ((i+(n - j)) * 5)=xs.take (i * 5)++xs.drop (j * 5)∧w.grownBy w' (some g):=by
 have ht:Tryz.prog.underlying 22=some (.slice 48):=by kernel_rfl
 have hz:(Tryz.prog.info? 48).map (·.size)=some 5:=by kernel_rfl
 obtain ⟨zs,vu⟩:∃zs,y0 Tryz.prog 48=some zs:=Option.isSome_iff_exists.1 (by kernel_rfl)
 obtain ⟨i0,z0,Vq,Rz,rfl,xg⟩:=og vu
 obtain ⟨i1,z1,he⟩:=cw (P:=Tryz.prog) (e:=48) (k:=.pair (.pair (.int .i64) (.int .i64)) (.pair (.sl (.pair (.pair (.int .i64) (.int .i64)) (.int .i64))) (.pair .str (.int .i64)))) (by kernel_rfl)
 have ei:i1=i0:=by have:=he.info;rw [Vq] at this;cases this;rfl
 subst ei
 have ez:z1=z0:=by have:=he.zero;rw [Rz] at this;cases this;rfl
 subst ez
 have B3:z1.cells.size=5:=he.rW
 clear he vu
 have xL:(xs.drop (j * 5)).length=(n - j) * 5:=by rw [List.length_drop,wh];omega
 obtain ⟨cur1,eL⟩:∃cur1:Array Value,cur1=(cur.toList.take (i * 5)++xs.drop (j * 5)++cur.toList.drop (i * 5+(xs.drop (j * 5)).length)).toArray:=⟨_,rfl⟩
 have Em:cur1.size=cur.size:=by rw [eL];simp;omega
 have Mi:∀ty sc,(Builtin.append_ #[22,22] ty #[.slice (some ⟨g,0,none⟩) i c,.slice (some ⟨g,X,none⟩) (n - j) sc]).run Tryz.prog w.drew=.ok (.slice (some ⟨g,0,none⟩) (i+(n - j)) c) (w.drew.setRow g cur1):=fun ty sc=>by
  by_cases Mj:c=j
  ·have hnj:n=j:=by omega
   have:n - j=0:=by omega
   rw [this] at xL ⊢
   have Fz:xs.drop (j * 5)=[]:=List.eq_nil_of_length_eq_zero (by omega)
   rw [eP ht Vq _ _ _ (by omega) _ _,eL,Fz]
   simp only [List.append_nil,List.length_nil,Nat.add_zero,List.take_append_drop,Array.toArray_toList]
   rw [setRow_self w.drew g cur 48 (0,0) hg]
  ·rw [if_neg Mj] at hX
   subst hX
   rw [eL]
   exact nF (P:=Tryz.prog) w.drew 22 ty 48 5 g i c ⟨g,j * 5,none⟩ (n - j) sc cur (xs.drop (j * 5)) ht hz hg xL (fR (size:=5) (n:=n) (w:=w.drew) hg iB (j * 5)) (fun q hq=>h1 q (List.mem_of_mem_drop hq)) (by omega) (by omega)
 obtain ⟨cW,uK⟩:∃cW:Array Value,cW=(cur1.toList.take ((i+(n - j)) * 5)++(Builtin.zeroCells z1.cells (j - i)).toList++cur1.toList.drop ((i+(n - j)) * 5+(Builtin.zeroCells z1.cells (j - i)).toList.length)).toArray:=⟨_,rfl⟩
 have Xc:(Builtin.zeroCells z1.cells (j - i)).toList.length=(j - i) * 5:=by simp [Builtin.zeroCells,B3]
 have Ki:cW.size=cur.size:=by rw [uK];simp [Xc];omega
 have sN:∀ty sc,(Builtin.clear_ #[22] ty #[.slice (some ⟨g,(i+(n - j)) * 5,none⟩) (n - (i+(n - j))) sc]).run Tryz.prog (w.drew.setRow g cur1)=.ok (.tuple #[]) ((w.drew.setRow g cur1).setRow g cW):=fun ty sc=>by
  have:=qw (P:=Tryz.prog) (w.drew.setRow g cur1) 22 ty 48 5 g ((i+(n - j)) * 5) (j - i) sc cur1 i1 z1 ht Vq Rz B3 xg (setRow_heap w.drew g cur _ 48 _ hg) (by omega) (by omega)
  rw [show n - (i+(n - j))=j - i by omega,this,uK]
 have lB:cW.toList.take ((i+(n - j)) * 5)=xs.take (i * 5)++xs.drop (j * 5):=GS (cur1:=cur1.toList) iB (by simp;omega) (by omega) M7 (by rw [eL]) (by rw [uK])
 clear eL uK iB xL
 have h63:c≤9223372036854775807:=by unfold maxLen at hc;omega
 have lO:i≤n:=by omega
 have hic:¬(c=i):=by omega
 have hjc:j≤c:=by omega
 have bc:¬((i:Int)=(j:Int)):=by omega
 have mP:i≤j:=by omega
 have aej:i≤c:=by omega
 have aek:i+(n - j)≤n:=by omega
 have ael:i+(n - j)≤c:=by omega
 have aem:¬(c=i+(n - j)):=by omega
 have aen:(i:Int)+((n - j:Nat):Int)≤(n:Int):=by omega
 have mixed:Tryz.prog.follows .mixedOrders=true:=by kernel_rfl
 by_cases Mj:c=j
 ·rw [if_pos Mj] at hX
  subst hX
  subst Mj
  obtain rfl:n=c:=by omega
  simp only [Nat.sub_self,Nat.add_zero] at Mi sN lB ⊢
  go_enter Tryz.func109,Tryz.ntmps109
  go_wp2_with fail
  go_region_law (go_loud (refine gY rfl _ _ 22 22 rfl (.slice (some ⟨g,0,none⟩) i n) (.slice (some ⟨g,0,none⟩) 0 0) (by simp [Act.eval,Act.put]) (by simp [Act.eval,Act.put]) (Mi 22 0) ?_))
  go_wp2_with (simp only [sN])
  go_ret
  refine ⟨rfl,cW,setRow_heap _ g cur1 _ 48 _ (setRow_heap w.drew g cur _ 48 _ hg),Ki,lB,⟨rfl,rfl,rfl,by simp [World.setRow],fun k hk Mh => ?_⟩⟩
  have vg:k≠g:=fun e=>Mh (by rw [e])
  rw [_root_.Go.setRow_other _ g k _ vg,_root_.Go.setRow_other _ g k _ vg];rfl
 ·rw [if_neg Mj] at hX
  subst hX
  go_enter Tryz.func109,Tryz.ntmps109
  go_wp2_with fail
  go_region_law (go_loud (refine gY rfl _ _ 22 22 rfl (.slice (some ⟨g,0,none⟩) i c) (.slice (some ⟨g,j * 5,none⟩) (n - j) (c - j)) (by simp [Act.eval,Act.put]) (by simp [Act.eval,Act.put]) (Mi 22 (c - j)) ?_))
  go_wp2_with (simp only [sN])
  go_ret
  refine ⟨rfl,cW,setRow_heap _ g cur1 _ 48 _ (setRow_heap w.drew g cur _ 48 _ hg),Ki,lB,⟨rfl,rfl,rfl,by simp [World.setRow],fun k hk Mh => ?_⟩⟩
  have vg:k≠g:=fun e=>Mh (by rw [e])
  rw [_root_.Go.setRow_other _ g k _ vg,_root_.Go.setRow_other _ g k _ vg];rfl
theorem Vr:Ja Tryz.prog 109 48 5:=fun w v n i j xs hv yu M7 hm h1=>by
 rcases hv.2 with ⟨h0,_⟩ | ⟨g,c,cur,rfl,Ng,hg,Ca,EJ,ir,iB⟩
 ·omega
 have jy:ob (.slice (some ⟨g,0,none⟩) n c)=some g:=by simp only [ob];rw [if_neg (by omega)]
 refine (GU w g c n i j (if c=j then 0 else j * 5) xs cur hg ir iB hv.1 yu M7 Ca EJ (by split<;>rfl) h1).mono fun en w' ⟨e1,cY,e2,e3,e4,e5⟩ => ?_
 refine ⟨_,e1,⟨?_,.inr ⟨g,c,cY,rfl,Ng,e2,by omega,EJ,by rw [e3,ir],e4⟩⟩,by rw [jy];exact e5,?_⟩
 ·have hl:=hv.1
  simp only [List.length_append,List.length_take,List.length_drop];omega
 ·rw [jy];simp only [ob];rw [if_neg (by omega)]
end Go.Vs
namespace Go.Vs
open Go.Proofs
variable {P:Program}
theorem Bb{Z:Nat→Prop}{w:World}{k:K}{xs:List k.T}{vs:List Value}(hv:mH Z w k xs vs)(hl:vs.length=xs.length * k.sz):∀q∈vs,q.oneCell'=true:=fun q hq=>by
 obtain ⟨p,hp⟩:=List.getElem?_of_mem hq
 have aE:p<vs.length:=(List.getElem?_eq_some_iff.1 hp).1
 have hs:=k.g9
 have hd:p / k.sz<xs.length:=Nat.div_lt_of_lt_mul (by rw [Nat.mul_comm];omega)
 have hr:=hv (p / k.sz) _ (List.getElem?_eq_getElem hd)
 refine hr.one q ?_
 have hm:=Nat.mod_add_div p k.sz
 have hml:=Nat.mod_lt p hs
 have:((vs.drop (p / k.sz * k.sz)).take k.sz)[p % k.sz]? = some q:=by
  rw [List.getElem?_take,if_pos hml,List.getElem?_drop,Nat.mul_comm,Nat.add_comm,hm,hp]
 exact List.mem_of_getElem? this
theorem Df{Z:Nat→Prop}{w:World}{k:K}{xs:List k.T}{vs:List Value}(hv:mH Z w k xs vs)(n:Nat):mH Z w k (xs.take n) (vs.take (n * k.sz)):=fun i x hx=>by
 rw [List.getElem?_take] at hx
 split at hx
 ·rename_i hi
  have:=hv i x hx
  have e:((vs.take (n * k.sz)).drop (i * k.sz)).take k.sz=(vs.drop (i * k.sz)).take k.sz:=by
   rw [List.drop_take,List.take_take]
   congr 1
   have:(i+1) * k.sz≤n * k.sz:=Nat.mul_le_mul_right _ hi
   rw [Nat.add_mul] at this;omega
  rw [e];exact this
 ·cases hx
theorem Dg{Z:Nat→Prop}{w:World}{k:K}{xs:List k.T}{vs:List Value}(hv:mH Z w k xs vs)(n:Nat):mH Z w k (xs.drop n) (vs.drop (n * k.sz)):=fun i x hx=>by
 rw [List.getElem?_drop] at hx
 have:=hv (n+i) x hx
 rw [List.drop_drop,←Nat.add_mul];exact this
theorem tj{f:FuncId}{ty:TypeId}{k:K}(hr:EH P f ty k.sz):ia P f (Nr ty k):=by
 intro Z ψ h w B0 O N hh id e vs us g hB bp hN bf lZ sO D8 he
 unfold Nr at he
 split at he
 rotate_left
 ·cases he
 rename_i o i j
 split at he
 rotate_left
 ·cases he
 rename_i xs ys qT Cd
 split at he
 ·cases he
 rename_i hoj
 simp only [Option.some.injEq,Prod.mk.injEq] at he
 obtain ⟨lN,rfl⟩:=he
 have hhg:hh.get=h:=lZ _ _ rfl
 have Rj:hh.get o=some (.own (.row ty k) xs):=jC qT
 have hgj:hh.get j=some (.own (.row ty k) ys):=jC Cd
 simp only [aq,av] at sO
 obtain ⟨v,_,rfl,⟨_,hv⟩,n,_,rfl,rfl,u,_,rfl,⟨_,hu⟩,rfl⟩:=sO
 simp only [pX,Bool.and_eq_true,decide_eq_true_eq,bq] at lN
 obtain ⟨h0,h1,h2,h3⟩:=lN
 obtain ⟨m,rfl⟩:∃m:Nat,i=m:=⟨i.toNat,by omega⟩
 subst hhg
 have hvo:v=ψ o:=hv (by rw [Rj];simp)
 have huj:u=ψ j:=hu (by rw [hgj];simp)
 obtain ⟨vs,NF,tU⟩:=g.row o (.row ty k) xs Rj
 obtain ⟨iH,ho2,xe⟩:=g.row j (.row ty k) ys hgj
 simp only [aB,aK] at D8
 have bI:N id:=hN 0 (by omega)
 have bc:o≠id:=fun e=>D8.1 (e▸bI)
 rw [h2] at ho2
 subst hvo;subst huj
 refine (hr w _ _ xs.length m vs iH NF ho2 (by omega) (by omega) (fun b hb vB=>hoj (g.apart o j b (by rw [Rj];simp) (by rw [hgj];simp) hb vB)) (Bb tU NF.1) (Bb xe (by rw [ho2.1,h2]))).mono fun en w' ⟨v',e1,e2,e3,e4⟩ => ?_
 have kk:cV ψ hh.get w w':=cV.grown e3 (fun b e=>⟨o,by rw [Rj];simp,e⟩)
 have sm:=kk.same g
 have hlen:(fL xs (m:Int) ys).length=xs.length+1:=by
  simp only [fL,Int.toNat_natCast,List.length_append,List.length_take,List.length_drop];omega
 have htl:(vs.take (m * k.sz)).length=(xs.take m).length * k.sz:=by
  have:m * k.sz≤xs.length * k.sz:=Nat.mul_le_mul_right _ (by omega)
  rw [List.length_take,List.length_take,NF.1,Nat.min_eq_left this,Nat.min_eq_left (by omega)]
 have nj:mH Z w k (fL xs (m:Int) ys) (vs.take (m * k.sz)++(iH++vs.drop (m * k.sz))):=(Df tU m).append (xe.append (Dg tU m) (by rw [ho2.1,h2])) htl
 have C0:=qd (N:=N) g hB id o bI Rj bc e3 (v:=v') (ok:=.row ty k) (y:=fL xs m ys)
  ⟨_,by rw [hlen];exact e2,nj.Fx sm⟩ e4 (fun i ty cs hb=>aB.imp (p:=fun i=>¬N i) (q:=fun i=>i≠id) (fun a ha e=>ha (by rw [e];exact bI)) (bf i ty cs hb))
 have Zn:Heap.get ((id,Ob.own (.row ty k) (fL xs (m:Int) ys))::hh.del o)=dJ (dJ hh.get o none) id (some (.own (.row ty k) (fL xs m ys))):=by rw [zF,tS]
 refine ⟨v',Z,dJ ψ id v',e1,?_,?_⟩
 ·show Next Z ψ hh.get w B0 O N Z (dJ ψ id v') (Heap.get ((id,Ob.own (.row ty k) (fL xs (m:Int) ys))::hh.del o)) w'
  rw [Zn];exact C0
 ·simp only [bA.v,av]
  exact ⟨e2.one,fun _=>(aZ _ _ _).symm⟩
theorem Bc{f:FuncId}{ty:TypeId}{k:K}(hr:Ja P f ty k.sz):ia P f (Rs ty k):=by
 intro Z ψ h w B0 O N hh id e vs us g hB bp hN bf lZ sO D8 he
 unfold Rs at he
 split at he
 rotate_left
 ·cases he
 rename_i o i j
 split at he
 rotate_left
 ·cases he
 rename_i xs qT
 simp only [Option.some.injEq,Prod.mk.injEq] at he
 obtain ⟨lN,rfl⟩:=he
 have hhg:hh.get=h:=lZ _ _ rfl
 have Rj:hh.get o=some (.own (.row ty k) xs):=jC qT
 simp only [aq,av] at sO
 obtain ⟨v,_,rfl,⟨_,hv⟩,n,_,rfl,rfl,u,_,rfl,rfl,rfl⟩:=sO
 simp only [jo,Bool.and_eq_true,decide_eq_true_eq,bq] at lN
 obtain ⟨h0,h1,h2,h3⟩:=lN
 obtain ⟨m,rfl⟩:∃m:Nat,i=m:=⟨i.toNat,by omega⟩
 obtain ⟨q,rfl⟩:∃m:Nat,j=m:=⟨j.toNat,by omega⟩
 subst hhg
 have hvo:v=ψ o:=hv (by rw [Rj];simp)
 obtain ⟨vs,NF,tU⟩:=g.row o (.row ty k) xs Rj
 simp only [aB,aK] at D8
 have bI:N id:=hN 0 (by omega)
 have bc:o≠id:=fun e=>D8.1 (e▸bI)
 subst hvo
 refine (hr w _ xs.length m q vs NF (by omega) (by omega) (by omega) (Bb tU NF.1)).mono fun en w' ⟨v',e1,e2,e3,e4⟩ => ?_
 have kk:cV ψ hh.get w w':=cV.grown e3 (fun b e=>⟨o,by rw [Rj];simp,e⟩)
 have sm:=kk.same g
 have hlen:(dg xs (m:Int) q).length=m+(xs.length - q):=by
  simp only [dg,Int.toNat_natCast,List.length_append,List.length_take,List.length_drop];omega
 have htl:(vs.take (m * k.sz)).length=(xs.take m).length * k.sz:=by
  have:m * k.sz≤xs.length * k.sz:=Nat.mul_le_mul_right _ (by omega)
  rw [List.length_take,List.length_take,NF.1,Nat.min_eq_left this,Nat.min_eq_left (by omega)]
 have nj:mH Z w k (dg xs (m:Int) q) (vs.take (m * k.sz)++vs.drop (q * k.sz)):=(Df tU m).append (Dg tU q) htl
 have C0:=qd (N:=N) g hB id o bI Rj bc e3 (v:=v') (ok:=.row ty k) (y:=dg xs m q)
  ⟨_,by rw [hlen];exact e2,nj.Fx sm⟩ (.inl e4) (fun i ty cs hb=>aB.imp (p:=fun i=>¬N i) (q:=fun i=>i≠id) (fun a ha e=>ha (by rw [e];exact bI)) (bf i ty cs hb))
 have Zn:Heap.get ((id,Ob.own (.row ty k) (dg xs (m:Int) q))::hh.del o)=dJ (dJ hh.get o none) id (some (.own (.row ty k) (dg xs m q))):=by rw [zF,tS]
 refine ⟨v',Z,dJ ψ id v',e1,?_,?_⟩
 ·show Next Z ψ hh.get w B0 O N Z (dJ ψ id v') (Heap.get ((id,Ob.own (.row ty k) (dg xs (m:Int) q))::hh.del o)) w'
  rw [Zn];exact C0
 ·simp only [bA.v,av]
  exact ⟨e2.one,fun _=>(aZ _ _ _).symm⟩
end Go.Vs
namespace Go.Vs
open Go.Proofs Go.RowKit
set_option maxHeartbeats 4000000 in
set_option maxRecDepth 100000 in
theorem Jb(w:World)(v u:Value)(n:Nat)(xs ys:List Value)(hv:du w 56 4 v n xs)(hu:du w 56 4 u 1 ys)(hm:n+1≤fm)(h1:∀q∈ys,q.oneCell'=true) :
  Calls Tryz.prog 130 #[v,.int .i64 n,u] w fun en w'=>∃v',en=.returned v'∧du w' 56 4 v' (n+1) (xs++ys)∧w.grownBy w' (ob v)∧(ob v'=ob v∨∀b,ob v'=some b→w.heap.size≤b):=by
 have ht:Tryz.prog.underlying 23=some (.slice 56):=by kernel_rfl
 obtain ⟨i0,z0,he⟩:=cw (P:=Tryz.prog) (e:=56) (k:=.pair (.pair (.int .i64) (.int .i64)) (.pair .str (.int .i64))) (by kernel_rfl)
 have vt:Lr w 4 u 1 ys:=by
  refine ⟨hu.1,h1,.inr ?_⟩
  rcases hu.2 with ⟨h0,_⟩ | ⟨g,cap,cur,rfl,_,hg,_,_,hc,iB⟩
  ·cases h0
  ·refine ⟨_,_,rfl,fun j q hj => ?_⟩
   rw [ck,Nat.zero_add]
   rw [←iB,List.getElem?_take] at hj
   split at hj
   ·simp [World.cell?,hg];simpa using hj
   ·cases hj
 obtain ⟨v',w',dh,h4,h5,h6⟩:=dz (P:=Tryz.prog) (ty:=23) ht he hv vt hm
 obtain ⟨A,c,rfl⟩:=hv.slice
 have Ca:n≤c:=by
  rcases hv.2 with ⟨h0,A,e⟩ | ⟨g,cap,cur,e,hc,h2,h3,_⟩
  ·omega
  ·cases e;exact h3
 obtain ⟨B,cu,rfl⟩:=hu.slice
 have Zi:n≤1073741824:=by unfold fm at hm;omega
 go_enter Tryz.func130,Tryz.ntmps130
 go_wp2_with (at_builtin;refine Lib.wpList_append_run _ rfl _ _ _ _ rfl _ _ rfl rfl _ _ dh ?_)
 all_goals go_ret
 all_goals first | exact ⟨_,rfl,h4,h5,h6⟩ | (subst_vars;exact ⟨_,rfl,h4,h5,h6⟩)
set_option maxHeartbeats 4000000 in
set_option maxRecDepth 100000 in
theorem EK(w:World)(g c g2 c2 n i:Nat)(xs ys:List Value)(cur cW:Array Value)(hg:w.heap[g]? = some (.cells cur 56 (0,0)))(ir:cur.size=c * 4)(iB:cur.toList.take (n * 4)=xs)(wh:xs.length=n * 4)
  (su:w.heap[g2]? = some (.cells cW 56 (0,0))) (pK:cW.size=c2 * 4) (vd:0<c2) (kc:cW.toList.take (1 * 4)=ys) (De:ys.length=1 * 4) (bc:g2≠g) (hi:i<n) (iA:n+1≤c) (hc:c≤maxLen)
  (h1:∀q∈xs,q.oneCell'=true) (h2:∀q∈ys,q.oneCell'=true) :
  Calls Tryz.prog 130 #[.slice (some ⟨g,0,none⟩) n c,.int .i64 i,.slice (some ⟨g2,0,none⟩) 1 c2] w fun en w'=>en=.returned (.slice (some ⟨g,0,none⟩) (n+1) c) ∧
   ∃cY:Array Value,w'.heap[g]? = some (.cells cY 56 (0,0))∧cY.size=cur.size∧cY.toList.take ((n+1) * 4)=xs.take (i * 4)++(ys++xs.drop (i * 4))∧w.grownBy w' (some g):=by
 have ht:Tryz.prog.underlying 23=some (.slice 56):=by kernel_rfl
 have hz:(Tryz.prog.info? 56).map (·.size)=some 4:=by kernel_rfl
 have vu:∀w,(Go.sizeOf 56).run Tryz.prog w=.ok 4 w:=fun w=>by
  cases hq:Tryz.prog.info? 56 with
  | none=>rw [hq] at hz;cases hz
  | some i=>rw [hq] at hz;simp at hz;simp [sizeOf,typeInfo,hq,hz]
 have Re:∀a2 lb cb,(callFunc 147 #[.slice (some ⟨g2,0,none⟩) 1 c2,.slice (some ⟨g,a2,none⟩) lb cb]).run Tryz.prog w=.ok (.value (.bool false)) w:=fun a2 lb cb=>by
  rw [run_callFunc_extern Tryz.func147 (by kernel_rfl) (by kernel_rfl) (by kernel_rfl) (e:=Extern.SlicesOverlaps.overlaps #[23,23] #[4]) (by kernel_rfl),
   Lib.run_overlaps_apart w 23 4 56 ht 4 vu ⟨g2,0,none⟩ ⟨g,a2,none⟩ 1 c2 lb cb bc 56 56 cW.size cur.size (by simp [World.shape?,su]) (by simp [World.shape?,hg]) (by omega) (by simp [World.frozen?,su]) (by simp [World.frozen?,su])]
  rfl
 have Cd:=fR (size:=4) (n:=1) su kc 0
 have qT:=fR (size:=4) (n:=n) hg iB (i * 4)
 have h63:c≤9223372036854775807:=by unfold maxLen at hc;omega
 have hn5:n * 4≤cur.size:=by omega
 obtain ⟨cur1,eL⟩:∃cur1:Array Value,cur1=(cur.toList.take ((i+1) * 4)++xs.drop (i * 4)++cur.toList.drop ((i+1) * 4+(xs.drop (i * 4)).length)).toArray:=⟨_,rfl⟩
 have xL:(xs.drop (i * 4)).length=(n - i) * 4:=by rw [List.length_drop,wh];omega
 have Pr:∀(W:World),W.heap=w.heap→∀ty dc sc,(Builtin.copy_ #[23,23] ty #[.slice (some ⟨g,(i+1) * 4,none⟩) (n - i) dc,.slice (some ⟨g,i * 4,none⟩) (n+1 - i) sc]).run Tryz.prog W=.ok (goInt (n - i:Nat)) (W.setRow g cur1):=fun W hW ty dc sc=>by
  have:=b8 (P:=Tryz.prog) W 23 23 ty 56 4 g ((i+1) * 4) (n - i) dc ⟨g,i * 4,none⟩ (n+1 - i) sc cur 56 (xs.drop (i * 4)) ht hz (by rw [hW];exact hg) (by rw [xL];simp only [Nat.min_def];split<;>omega)
   (fun j v hj=>by have:=qT j v hj;simpa only [World.cell?,hW] using this) (by omega) (fun q hq=>h1 q (List.mem_of_mem_drop hq))
  rw [this,eL]
  congr 2
  simp only [Nat.min_def];split<;>omega
 have Em:cur1.size=cur.size:=by rw [eL];simp;omega
 obtain ⟨cur3,mo⟩:∃cur3:Array Value,cur3=(cur1.toList.take (i * 4)++ys++cur1.toList.drop (i * 4+ys.length)).toArray:=⟨_,rfl⟩
 have Ps:∀(W:World),W.heap[g]? = some (.cells cur1 56 (0,0))→W.heap[g2]? = w.heap[g2]?→∀ty dc sc,(Builtin.copy_ #[23,23] ty #[.slice (some ⟨g,i * 4,none⟩) (n+1 - i) dc,.slice (some ⟨g2,0,none⟩) 1 sc]).run Tryz.prog W=.ok (goInt 1) (W.setRow g cur3):=fun W hW Zj ty dc sc=>by
  have:=b8 (P:=Tryz.prog) W 23 23 ty 56 4 g (i * 4) (n+1 - i) dc ⟨g2,0,none⟩ 1 sc cur1 56 ys ht hz hW (by rw [De];simp only [Nat.min_def];split<;>omega)
   (fun j v hj=>by have:=Cd j v (by simpa using hj);simpa only [World.cell?,ct,Zj] using this) (by omega) h2
  rw [this,mo]
  congr 2
  simp only [Nat.min_def];split<;>omega
 have IP:IntKind.i64.wrap ((i:Int)+1)=(i:Int)+1:=by rw [IntKind.wrap_i64];omega
 have I8:IntKind.i64.wrap ((n:Int)+1)=(n:Int)+1:=by rw [IntKind.wrap_i64];omega
 have Mg:(0:Int)≤(i:Int)+1:=by omega
 have lO:i≤n:=by omega
 have Rf:((i:Int)+1).toNat=i+1:=by omega
 have vB:¬(c=i+1):=by omega
 have TX:(i:Int)≤(n:Int)+1:=by omega
 have Zk:¬(c=i):=by omega
 have BY:¬((i:Int)=(n:Int)):=by omega
 have HV:¬((c:Int)<(n:Int)+1):=by omega
 have Rg:cur3.size=cur.size:=by rw [mo];simp;omega
 have lB:cur3.toList.take ((n+1) * 4)=xs.take (i * 4)++(ys++xs.drop (i * 4)):=Ba (sz:=4) (cur1:=cur1.toList) (cur3:=cur3.toList) iB (by simp;omega) (by rw [De]) lO (by rw [eL]) (by rw [mo])
 clear mo eL xL iB kc
 have GN:=Ps (w.drew.setRow g cur1) (setRow_heap w.drew g cur _ 56 _ hg) (_root_.Go.setRow_other w.drew g g2 _ bc)
 have mixed:Tryz.prog.follows .mixedOrders=true:=by kernel_rfl
 go_enter Tryz.func130,Tryz.ntmps130
 go_wp2_with (simp only [Re])
 go_region_law (go_loud (refine step_copy_runI rfl _ _ 23 23 rfl (.slice (some ⟨g,(i+1) * 4,none⟩) (n - i) (c - (i+1))) (.slice (some ⟨g,i * 4,none⟩) (n+1 - i) (c - i)) (by simp [Act.eval,Act.put]) (by simp [Act.eval,Act.put]) (Pr w.drew rfl 3 (c - (i+1)) (c - i)) ?_))
 go_wp2_with (simp only [GN])
 go_ret
 refine ⟨rfl,cur3,setRow_heap _ g cur1 _ 56 _ (setRow_heap w.drew g cur _ 56 _ hg),Rg,lB,⟨rfl,rfl,rfl,by simp [World.setRow],fun k hk Mh => ?_⟩⟩
 have vg:k≠g:=fun e=>Mh (by rw [e])
 rw [_root_.Go.setRow_other _ g k _ vg,_root_.Go.setRow_other _ g k _ vg];rfl
set_option maxHeartbeats 4000000 in
set_option maxRecDepth 100000 in
theorem GW(w:World)(g c g2 c2 n i:Nat)(xs ys:List Value)(cur cW:Array Value)(hg:w.heap[g]? = some (.cells cur 56 (0,0)))(ir:cur.size=c * 4)(iB:cur.toList.take (n * 4)=xs)(wh:xs.length=n * 4)
  (su:w.heap[g2]? = some (.cells cW 56 (0,0))) (pK:cW.size=c2 * 4) (vd:0<c2) (kc:cW.toList.take (1 * 4)=ys) (De:ys.length=1 * 4) (bc:g2≠g) (hi:i<n) (Ca:n≤c) (iA:c<n+1) (hm:n+1≤fm)
  (h1:∀q∈xs,q.oneCell'=true) (h2:∀q∈ys,q.oneCell'=true) :
  Calls Tryz.prog 130 #[.slice (some ⟨g,0,none⟩) n c,.int .i64 i,.slice (some ⟨g2,0,none⟩) 1 c2] w fun en w'=>∃G,en=.returned (.slice (some ⟨w.heap.size,0,none⟩) (n+1) G) ∧
   ∃cY:Array Value,w'.heap[w.heap.size]? = some (.cells cY 56 (0,0))∧cY.size=G * 4∧n+1≤G∧G≤maxLen∧cY.toList.take ((n+1) * 4)=xs.take (i * 4)++(ys++xs.drop (i * 4))∧w.grownBy w' (some g):=by
 have ht:Tryz.prog.underlying 23=some (.slice 56):=by kernel_rfl
 have Rf:Tryz.prog.underlying 3=some (.int .i64):=by kernel_rfl
 have hz:(Tryz.prog.info? 56).map (·.size)=some 4:=by kernel_rfl
 obtain ⟨i0,z0,he⟩:=cw (P:=Tryz.prog) (e:=56) (k:=.pair (.pair (.int .i64) (.int .i64)) (.pair .str (.int .i64))) (by kernel_rfl)
 have B3:z0.cells.size=4:=he.rW
 have vu:i0.size=4:=he.size
 have Ct:=he.bytes
 have Cd:=fR (size:=4) (n:=1) su kc 0
 have qT:=fR (size:=4) (n:=n) hg iB (i * 4)
 have GQ:=fR (size:=4) (n:=n) hg iB 0
 have Rh:g<w.heap.size:=(Array.getElem?_eq_some_iff.1 hg).1
 have Pu:g2<w.heap.size:=(Array.getElem?_eq_some_iff.1 su).1
 unfold fm at hm
 have jz:(n+1) * i0.bytes≤140737488355328:=Nat.le_trans (Nat.mul_le_mul hm Ct) (by decide)
 have hold:(Builtin.firstCells i0.size i (.slice (some ⟨g,0,none⟩) i c)).run Tryz.prog w.drew=.ok (xs.take (i * 4)).toArray w.drew:=by
  rw [vu]
  exact run_firstCells_some w.drew 4 i ⟨g,0,none⟩ i c (xs.take (i * 4)) (by rw [List.length_take];omega) (fun j v hj=>by
   rw [List.getElem?_take] at hj
   split at hj
   ·exact GQ j v hj
   ·cases hj)
 obtain ⟨G,hG⟩:∃G,G=grownCap w (n+1) c 56:=⟨_,rfl⟩
 obtain ⟨iC,pM⟩:∃iC:Array Value,iC=(xs.take (i * 4)).toArray++Builtin.zeroCells z0.cells (n+1 - i)++Builtin.zeroCells z0.cells (G - (n+1)):=⟨_,rfl⟩
 have RW:i+(n+1 - i)=n+1:=by omega
 have Ri:∀ty,(Builtin.append_ #[23,3] ty #[.slice (some ⟨g,0,none⟩) i c,.int .i64 ((n:Int)+1 - (i:Int))]).run Tryz.prog w=.ok (.slice (some ⟨w.heap.size,0,none⟩) (n+1) G) (w.drew.alloc (.cells iC 56)):=fun ty=>by
  have h:=Lib.run_append_grow_zeros w 23 3 ty 56 i0 z0 .i64 .i64 ht Rf he.info he.zero (some ⟨g,0,none⟩) i c (xs.take (i * 4)) hold (n+1 - i) (by omega) (by omega) (by omega) (by omega)
   (Nat.le_trans (Nat.mul_le_mul_right _ (show n+1 - i≤n+1 by omega)) (by omega)) (by rw [RW];exact growslice_fits iA jz)
  rw [RW] at h
  rw [show (n:Int)+1 - (i:Int)=((n+1 - i:Nat):Int) by omega,pM,hG]
  exact h
 have Xb:n+1≤G:=by rw [hG];exact grownCap_ge w _ _ _
 have I9:G≤9223372036854775807:=by
  have:=grownCap_le_maxLen w (n+1) c 56 (by unfold maxLen;omega)
  rw [←hG] at this
  unfold maxLen at this
  omega
 have hRs:iC.size=G * 4:=by
  rw [pM]
  simp [Builtin.zeroCells,B3,List.length_take,wh]
  rw [Nat.min_eq_left (by omega)];omega
 have TY:iC.toList.take (i * 4)=xs.take (i * 4):=by
  rw [pM]
  simp only [Array.toList_append,List.append_assoc]
  exact List.take_left' (by rw [List.length_take];omega)
 obtain ⟨W1,nX⟩:∃W1,W1=w.drew.alloc (.cells iC 56):=⟨_,rfl⟩
 have qx:W1.heap[w.heap.size]? = some (.cells iC 56 (0,0)):=by rw [nX];exact (MapKept.heap_alloc w.drew (.cells iC 56)).1
 have rO:∀b,b<w.heap.size→W1.heap[b]? = w.heap[b]? := fun b hb=>by rw [nX];exact (Below.heap_alloc w.drew (.cells iC 56) b hb).trans rfl
 have rP:w.grownBy W1 none:=⟨by rw [nX];rfl,by rw [nX];rfl,by rw [nX];rfl,by have:=(Array.getElem?_eq_some_iff.1 qx).1;omega,fun k hk _=>rO k hk⟩
 obtain ⟨row2,mq⟩:∃row2:Array Value,row2=(iC.toList.take (i * 4)++ys++iC.toList.drop (i * 4+ys.length)).toArray:=⟨_,rfl⟩
 have Ki:row2.size=iC.size:=by rw [mq];simp;omega
 have Pv:∀(W:World),W.heap=W1.heap→∀ty dc sc,(Builtin.copy_ #[23,23] ty #[.slice (some ⟨w.heap.size,i * 4,none⟩) (n+1 - i) dc,.slice (some ⟨g2,0,none⟩) 1 sc]).run Tryz.prog W=.ok (goInt 1) (W.setRow w.heap.size row2):=fun W hW ty dc sc=>by
  have:=b8 (P:=Tryz.prog) W 23 23 ty 56 4 w.heap.size (i * 4) (n+1 - i) dc ⟨g2,0,none⟩ 1 sc iC 56 ys ht hz (by rw [hW];exact qx) (by rw [De];simp only [Nat.min_def];split<;>omega)
   (fun j v hj=>by have:=Cd j v (by simpa using hj);simpa only [World.cell?,ct,hW,rO g2 Pu] using this) (by omega) h2
  rw [this,mq]
  congr 2
  simp only [Nat.min_def];split<;>omega
 obtain ⟨row3,mr⟩:∃row3:Array Value,row3=(row2.toList.take ((i+1) * 4)++xs.drop (i * 4)++row2.toList.drop ((i+1) * 4+(xs.drop (i * 4)).length)).toArray:=⟨_,rfl⟩
 have xL:(xs.drop (i * 4)).length=(n - i) * 4:=by rw [List.length_drop,wh];omega
 have Rg:row3.size=iC.size:=by rw [mr];simp;omega
 have Pw:∀(W:World),W.heap=(W1.setRow w.heap.size row2).heap→∀ty dc sc,(Builtin.copy_ #[23,23] ty #[.slice (some ⟨w.heap.size,(i+1) * 4,none⟩) (n - i) dc,.slice (some ⟨g,i * 4,none⟩) (n - i) sc]).run Tryz.prog W=.ok (goInt (n - i:Nat)) (W.setRow w.heap.size row3):=fun W hW ty dc sc=>by
  have:=b8 (P:=Tryz.prog) W 23 23 ty 56 4 w.heap.size ((i+1) * 4) (n - i) dc ⟨g,i * 4,none⟩ (n - i) sc row2 56 (xs.drop (i * 4)) ht hz (by rw [hW];exact setRow_heap W1 w.heap.size iC _ 56 _ qx) (by rw [xL];simp only [Nat.min_def];split<;>omega)
   (fun j v hj=>by have:=qT j v hj;simpa only [World.cell?,ct,hW,_root_.Go.setRow_other W1 w.heap.size g _ (Nat.ne_of_lt Rh),rO g Rh] using this) (by omega) (fun q hq=>h1 q (List.mem_of_mem_drop hq))
  rw [this,mr]
  congr 2
  simp only [Nat.min_def];split<;>omega
 have lB:row3.toList.take ((n+1) * 4)=xs.take (i * 4)++(ys++xs.drop (i * 4)):=wi (sz:=4) (row:=iC.toList) (row2:=row2.toList) (row3:=row3.toList) TY (by simp;omega) wh (by rw [De]) (by omega) (by rw [mq]) (by rw [mr])
 clear mr mq pM xL iB kc TY GQ hold hG
 have IP:IntKind.i64.wrap ((i:Int)+1)=(i:Int)+1:=by rw [IntKind.wrap_i64];omega
 have I8:IntKind.i64.wrap ((n:Int)+1)=(n:Int)+1:=by rw [IntKind.wrap_i64];omega
 have hw3:IntKind.i64.wrap ((n:Int)+1 - (i:Int))=(n:Int)+1 - (i:Int):=by rw [IntKind.wrap_i64];omega
 have Mg:(0:Int)≤(i:Int)+1:=by omega
 have lO:i≤n:=by omega
 have Zl:((i:Int)+1).toNat=i+1:=by omega
 have hGi:¬(G=i):=by omega
 have Zm:¬(G=i+1):=by omega
 have hci:¬(c=i):=by omega
 have TX:(i:Int)≤(n:Int):=by omega
 have BY:¬((i:Int)=(n:Int)):=by omega
 have HV:(c:Int)<(n:Int)+1:=by omega
 rw [←nX] at Ri
 clear nX
 have mixed:Tryz.prog.follows .mixedOrders=true:=by kernel_rfl
 go_enter Tryz.func130,Tryz.ntmps130
 go_wp2_with (first
  | (at_builtin;refine Lib.wpList_append_run _ rfl _ _ _ _ rfl _ _ rfl rfl _ _ (Ri _) ?_)
  | (at_builtin;refine wpList_copy_runI _ rfl _ _ 23 23 rfl _ _ rfl rfl (Pv _ (by rfl) _ _ _) ?_))
 go_region_law (go_loud (refine step_copy_runI rfl _ _ 23 23 rfl (.slice (some ⟨w.heap.size,(i+1) * 4,none⟩) (n - i) (G - (i+1))) (.slice (some ⟨g,i * 4,none⟩) (n - i) (c - i)) (by simp [Act.eval,Act.put]) (by simp [Act.eval,Act.put]) (Pw (W1.setRow w.heap.size row2).drew rfl 3 (G - (i+1)) (c - i)) ?_))
 go_wp2
 go_ret
 refine ⟨G,rfl,row3,setRow_heap _ w.heap.size row2 _ 56 _ (setRow_heap W1 w.heap.size iC _ 56 _ qx),by omega,Xb,I9,lB,⟨rP.os,rP.tape,rP.output,by have:=rP.size;simpa [World.setRow] using this,fun k hk _ => ?_⟩⟩
 rw [_root_.Go.setRow_other _ w.heap.size k _ (Nat.ne_of_lt hk)]
 exact (_root_.Go.setRow_other W1 w.heap.size k _ (Nat.ne_of_lt hk)).trans (rO k hk)
theorem Vt:EH Tryz.prog 130 56 4:=fun w v u n i xs ys hv hu hi hm Mi h1 h2=>by
 by_cases he:i=n
 ·subst he
  refine (Jb w v u i xs ys hv hu hm h2).mono fun en w' ⟨v',e1,e2,e3,e4⟩=>⟨v',e1,?_,e3,e4⟩
  have hl:=hv.1
  rw [List.take_of_length_le (by omega),List.drop_eq_nil_of_le (by omega),List.append_nil]
  exact e2
 ·have lO:i<n:=by omega
  rcases hv.2 with ⟨h0,_⟩ | ⟨g,c,cur,rfl,Ng,hg,Ca,EJ,ir,iB⟩
  ·omega
  rcases hu.2 with ⟨h0,_⟩ | ⟨g2,c2,cW,rfl,GR,su,_,_,pK,kc⟩
  ·omega
  have jy:ob (.slice (some ⟨g,0,none⟩) n c)=some g:=by simp only [ob];rw [if_neg (by omega)]
  have Px:ob (.slice (some ⟨g2,0,none⟩) 1 c2)=some g2:=by simp only [ob];rw [if_neg (by omega)]
  have bc:g2≠g:=fun e=>Mi g jy (by rw [Px,e])
  by_cases iA:n+1≤c
  ·refine (EK w g c g2 c2 n i xs ys cur cW hg ir iB hv.1 su pK GR kc hu.1 bc lO iA EJ h1 h2).mono fun en w' ⟨e1,cY,e2,e3,e4,e5⟩ => ?_
   refine ⟨_,e1,⟨?_,.inr ⟨g,c,cY,rfl,Ng,e2,iA,EJ,by rw [e3,ir],e4⟩⟩,by rw [jy];exact e5,.inl ?_⟩
   ·have hl:=hv.1;have sR:=hu.1
    simp only [List.length_append,List.length_take,List.length_drop];omega
   ·rw [jy];simp only [ob];rw [if_neg (by omega)]
  ·refine (GW w g c g2 c2 n i xs ys cur cW hg ir iB hv.1 su pK GR kc hu.1 bc lO Ca (by omega) hm h1 h2).mono fun en w' ⟨G,e1,cY,e2,e3,e4,e5,e6,e7⟩ => ?_
   refine ⟨_,e1,⟨?_,.inr ⟨w.heap.size,G,cY,rfl,by omega,e2,e4,e5,e3,e6⟩⟩,by rw [jy];exact e7,.inr fun b hb => ?_⟩
   ·have hl:=hv.1;have sR:=hu.1
    simp only [List.length_append,List.length_take,List.length_drop];omega
   ·simp only [ob] at hb;rw [if_neg (by omega)] at hb;cases hb;omega
set_option maxHeartbeats 4000000 in
set_option maxRecDepth 100000 in
theorem GX(w:World)(g c n i j X:Nat)(xs:List Value)(cur:Array Value)(hg:w.heap[g]? = some (.cells cur 56 (0,0)))(ir:cur.size=c * 4)(iB:cur.toList.take (n * 4)=xs)(wh:xs.length=n * 4)
  (yu:i<j) (M7:j≤n) (Ca:n≤c) (hc:c≤maxLen) (hX:if c=j then X=0 else X=j * 4)
  (h1:∀q∈xs,q.oneCell'=true) :
  Calls Tryz.prog 120 #[.slice (some ⟨g,0,none⟩) n c,.int .i64 i,.int .i64 j] w fun en w'=>en=.returned (.slice (some ⟨g,0,none⟩) (i+(n - j)) c) ∧
   ∃cY:Array Value,w'.heap[g]? = some (.cells cY 56 (0,0))∧cY.size=cur.size∧cY.toList.take ((i+(n - j)) * 4)=xs.take (i * 4)++xs.drop (j * 4)∧w.grownBy w' (some g):=by
 have ht:Tryz.prog.underlying 23=some (.slice 56):=by kernel_rfl
 have hz:(Tryz.prog.info? 56).map (·.size)=some 4:=by kernel_rfl
 obtain ⟨zs,vu⟩:∃zs,y0 Tryz.prog 56=some zs:=Option.isSome_iff_exists.1 (by kernel_rfl)
 obtain ⟨i0,z0,Vq,Rz,rfl,xg⟩:=og vu
 obtain ⟨i1,z1,he⟩:=cw (P:=Tryz.prog) (e:=56) (k:=.pair (.pair (.int .i64) (.int .i64)) (.pair .str (.int .i64))) (by kernel_rfl)
 have ei:i1=i0:=by have:=he.info;rw [Vq] at this;cases this;rfl
 subst ei
 have ez:z1=z0:=by have:=he.zero;rw [Rz] at this;cases this;rfl
 subst ez
 have B3:z1.cells.size=4:=he.rW
 clear he vu
 have xL:(xs.drop (j * 4)).length=(n - j) * 4:=by rw [List.length_drop,wh];omega
 obtain ⟨cur1,eL⟩:∃cur1:Array Value,cur1=(cur.toList.take (i * 4)++xs.drop (j * 4)++cur.toList.drop (i * 4+(xs.drop (j * 4)).length)).toArray:=⟨_,rfl⟩
 have Em:cur1.size=cur.size:=by rw [eL];simp;omega
 have Mi:∀ty sc,(Builtin.append_ #[23,23] ty #[.slice (some ⟨g,0,none⟩) i c,.slice (some ⟨g,X,none⟩) (n - j) sc]).run Tryz.prog w.drew=.ok (.slice (some ⟨g,0,none⟩) (i+(n - j)) c) (w.drew.setRow g cur1):=fun ty sc=>by
  by_cases Mj:c=j
  ·have hnj:n=j:=by omega
   have:n - j=0:=by omega
   rw [this] at xL ⊢
   have Fz:xs.drop (j * 4)=[]:=List.eq_nil_of_length_eq_zero (by omega)
   rw [eP ht Vq _ _ _ (by omega) _ _,eL,Fz]
   simp only [List.append_nil,List.length_nil,Nat.add_zero,List.take_append_drop,Array.toArray_toList]
   rw [setRow_self w.drew g cur 56 (0,0) hg]
  ·rw [if_neg Mj] at hX
   subst hX
   rw [eL]
   exact nF (P:=Tryz.prog) w.drew 23 ty 56 4 g i c ⟨g,j * 4,none⟩ (n - j) sc cur (xs.drop (j * 4)) ht hz hg xL (fR (size:=4) (n:=n) (w:=w.drew) hg iB (j * 4)) (fun q hq=>h1 q (List.mem_of_mem_drop hq)) (by omega) (by omega)
 obtain ⟨cW,uK⟩:∃cW:Array Value,cW=(cur1.toList.take ((i+(n - j)) * 4)++(Builtin.zeroCells z1.cells (j - i)).toList++cur1.toList.drop ((i+(n - j)) * 4+(Builtin.zeroCells z1.cells (j - i)).toList.length)).toArray:=⟨_,rfl⟩
 have Xc:(Builtin.zeroCells z1.cells (j - i)).toList.length=(j - i) * 4:=by simp [Builtin.zeroCells,B3]
 have Ki:cW.size=cur.size:=by rw [uK];simp [Xc];omega
 have sN:∀ty sc,(Builtin.clear_ #[23] ty #[.slice (some ⟨g,(i+(n - j)) * 4,none⟩) (n - (i+(n - j))) sc]).run Tryz.prog (w.drew.setRow g cur1)=.ok (.tuple #[]) ((w.drew.setRow g cur1).setRow g cW):=fun ty sc=>by
  have:=qw (P:=Tryz.prog) (w.drew.setRow g cur1) 23 ty 56 4 g ((i+(n - j)) * 4) (j - i) sc cur1 i1 z1 ht Vq Rz B3 xg (setRow_heap w.drew g cur _ 56 _ hg) (by omega) (by omega)
  rw [show n - (i+(n - j))=j - i by omega,this,uK]
 have lB:cW.toList.take ((i+(n - j)) * 4)=xs.take (i * 4)++xs.drop (j * 4):=GS (cur1:=cur1.toList) iB (by simp;omega) (by omega) M7 (by rw [eL]) (by rw [uK])
 clear eL uK iB xL
 have h63:c≤9223372036854775807:=by unfold maxLen at hc;omega
 have lO:i≤n:=by omega
 have hic:¬(c=i):=by omega
 have hjc:j≤c:=by omega
 have bc:¬((i:Int)=(j:Int)):=by omega
 have mP:i≤j:=by omega
 have aej:i≤c:=by omega
 have aek:i+(n - j)≤n:=by omega
 have ael:i+(n - j)≤c:=by omega
 have aem:¬(c=i+(n - j)):=by omega
 have aen:(i:Int)+((n - j:Nat):Int)≤(n:Int):=by omega
 have mixed:Tryz.prog.follows .mixedOrders=true:=by kernel_rfl
 by_cases Mj:c=j
 ·rw [if_pos Mj] at hX
  subst hX
  subst Mj
  obtain rfl:n=c:=by omega
  simp only [Nat.sub_self,Nat.add_zero] at Mi sN lB ⊢
  go_enter Tryz.func120,Tryz.ntmps120
  go_wp2_with fail
  go_region_law (go_loud (refine gY rfl _ _ 23 23 rfl (.slice (some ⟨g,0,none⟩) i n) (.slice (some ⟨g,0,none⟩) 0 0) (by simp [Act.eval,Act.put]) (by simp [Act.eval,Act.put]) (Mi 23 0) ?_))
  go_wp2_with (simp only [sN])
  go_ret
  refine ⟨rfl,cW,setRow_heap _ g cur1 _ 56 _ (setRow_heap w.drew g cur _ 56 _ hg),Ki,lB,⟨rfl,rfl,rfl,by simp [World.setRow],fun k hk Mh => ?_⟩⟩
  have vg:k≠g:=fun e=>Mh (by rw [e])
  rw [_root_.Go.setRow_other _ g k _ vg,_root_.Go.setRow_other _ g k _ vg];rfl
 ·rw [if_neg Mj] at hX
  subst hX
  go_enter Tryz.func120,Tryz.ntmps120
  go_wp2_with fail
  go_region_law (go_loud (refine gY rfl _ _ 23 23 rfl (.slice (some ⟨g,0,none⟩) i c) (.slice (some ⟨g,j * 4,none⟩) (n - j) (c - j)) (by simp [Act.eval,Act.put]) (by simp [Act.eval,Act.put]) (Mi 23 (c - j)) ?_))
  go_wp2_with (simp only [sN])
  go_ret
  refine ⟨rfl,cW,setRow_heap _ g cur1 _ 56 _ (setRow_heap w.drew g cur _ 56 _ hg),Ki,lB,⟨rfl,rfl,rfl,by simp [World.setRow],fun k hk Mh => ?_⟩⟩
  have vg:k≠g:=fun e=>Mh (by rw [e])
  rw [_root_.Go.setRow_other _ g k _ vg,_root_.Go.setRow_other _ g k _ vg];rfl
theorem Vu:Ja Tryz.prog 120 56 4:=fun w v n i j xs hv yu M7 hm h1=>by
 rcases hv.2 with ⟨h0,_⟩ | ⟨g,c,cur,rfl,Ng,hg,Ca,EJ,ir,iB⟩
 ·omega
 have jy:ob (.slice (some ⟨g,0,none⟩) n c)=some g:=by simp only [ob];rw [if_neg (by omega)]
 refine (GX w g c n i j (if c=j then 0 else j * 4) xs cur hg ir iB hv.1 yu M7 Ca EJ (by split<;>rfl) h1).mono fun en w' ⟨e1,cY,e2,e3,e4,e5⟩ => ?_
 refine ⟨_,e1,⟨?_,.inr ⟨g,c,cY,rfl,Ng,e2,by omega,EJ,by rw [e3,ir],e4⟩⟩,by rw [jy];exact e5,?_⟩
 ·have hl:=hv.1
  simp only [List.length_append,List.length_take,List.length_drop];omega
 ·rw [jy];simp only [ob];rw [if_neg (by omega)]
end Go.Vs
namespace Go.Vs
open Go.Proofs Go.RowKit
set_option maxHeartbeats 4000000 in
set_option maxRecDepth 100000 in
theorem Jc(w:World)(v u:Value)(n:Nat)(xs ys:List Value)(hv:du w 103 6 v n xs)(hu:du w 103 6 u 1 ys)(hm:n+1≤fm)(h1:∀q∈ys,q.oneCell'=true) :
  Calls Tryz.prog 156 #[v,.int .i64 n,u] w fun en w'=>∃v',en=.returned v'∧du w' 103 6 v' (n+1) (xs++ys)∧w.grownBy w' (ob v)∧(ob v'=ob v∨∀b,ob v'=some b→w.heap.size≤b):=by
 have ht:Tryz.prog.underlying 26=some (.slice 103):=by kernel_rfl
 obtain ⟨i0,z0,he⟩:=cw (P:=Tryz.prog) (e:=103) (k:=.pair (.pair (.pair (.int .i64) (.int .i64)) (.int .i64)) (.pair (.pair (.int .i64) (.int .i64)) (.int .i64))) (by kernel_rfl)
 have vt:Lr w 6 u 1 ys:=by
  refine ⟨hu.1,h1,.inr ?_⟩
  rcases hu.2 with ⟨h0,_⟩ | ⟨g,cap,cur,rfl,_,hg,_,_,hc,iB⟩
  ·cases h0
  ·refine ⟨_,_,rfl,fun j q hj => ?_⟩
   rw [ck,Nat.zero_add]
   rw [←iB,List.getElem?_take] at hj
   split at hj
   ·simp [World.cell?,hg];simpa using hj
   ·cases hj
 obtain ⟨v',w',dh,h4,h5,h6⟩:=dz (P:=Tryz.prog) (ty:=26) ht he hv vt hm
 obtain ⟨A,c,rfl⟩:=hv.slice
 have Ca:n≤c:=by
  rcases hv.2 with ⟨h0,A,e⟩ | ⟨g,cap,cur,e,hc,h2,h3,_⟩
  ·omega
  ·cases e;exact h3
 obtain ⟨B,cu,rfl⟩:=hu.slice
 have Zi:n≤1073741824:=by unfold fm at hm;omega
 go_enter Tryz.func156,Tryz.ntmps156
 go_wp2_with (at_builtin;refine Lib.wpList_append_run _ rfl _ _ _ _ rfl _ _ rfl rfl _ _ dh ?_)
 all_goals go_ret
 all_goals first | exact ⟨_,rfl,h4,h5,h6⟩ | (subst_vars;exact ⟨_,rfl,h4,h5,h6⟩)
set_option maxHeartbeats 4000000 in
set_option maxRecDepth 100000 in
theorem EL(w:World)(g c g2 c2 n i:Nat)(xs ys:List Value)(cur cW:Array Value)(hg:w.heap[g]? = some (.cells cur 103 (0,0)))(ir:cur.size=c * 6)(iB:cur.toList.take (n * 6)=xs)(wh:xs.length=n * 6)
  (su:w.heap[g2]? = some (.cells cW 103 (0,0))) (pK:cW.size=c2 * 6) (vd:0<c2) (kc:cW.toList.take (1 * 6)=ys) (De:ys.length=1 * 6) (bc:g2≠g) (hi:i<n) (iA:n+1≤c) (hc:c≤maxLen)
  (h1:∀q∈xs,q.oneCell'=true) (h2:∀q∈ys,q.oneCell'=true) :
  Calls Tryz.prog 156 #[.slice (some ⟨g,0,none⟩) n c,.int .i64 i,.slice (some ⟨g2,0,none⟩) 1 c2] w fun en w'=>en=.returned (.slice (some ⟨g,0,none⟩) (n+1) c) ∧
   ∃cY:Array Value,w'.heap[g]? = some (.cells cY 103 (0,0))∧cY.size=cur.size∧cY.toList.take ((n+1) * 6)=xs.take (i * 6)++(ys++xs.drop (i * 6))∧w.grownBy w' (some g):=by
 have ht:Tryz.prog.underlying 26=some (.slice 103):=by kernel_rfl
 have hz:(Tryz.prog.info? 103).map (·.size)=some 6:=by kernel_rfl
 have vu:∀w,(Go.sizeOf 103).run Tryz.prog w=.ok 6 w:=fun w=>by
  cases hq:Tryz.prog.info? 103 with
  | none=>rw [hq] at hz;cases hz
  | some i=>rw [hq] at hz;simp at hz;simp [sizeOf,typeInfo,hq,hz]
 have Re:∀a2 lb cb,(callFunc 168 #[.slice (some ⟨g2,0,none⟩) 1 c2,.slice (some ⟨g,a2,none⟩) lb cb]).run Tryz.prog w=.ok (.value (.bool false)) w:=fun a2 lb cb=>by
  rw [run_callFunc_extern Tryz.func168 (by kernel_rfl) (by kernel_rfl) (by kernel_rfl) (e:=Extern.SlicesOverlaps.overlaps #[26,26] #[4]) (by kernel_rfl),
   Lib.run_overlaps_apart w 26 4 103 ht 6 vu ⟨g2,0,none⟩ ⟨g,a2,none⟩ 1 c2 lb cb bc 103 103 cW.size cur.size (by simp [World.shape?,su]) (by simp [World.shape?,hg]) (by omega) (by simp [World.frozen?,su]) (by simp [World.frozen?,su])]
  rfl
 have Cd:=fR (size:=6) (n:=1) su kc 0
 have qT:=fR (size:=6) (n:=n) hg iB (i * 6)
 have h63:c≤9223372036854775807:=by unfold maxLen at hc;omega
 have hn5:n * 6≤cur.size:=by omega
 obtain ⟨cur1,eL⟩:∃cur1:Array Value,cur1=(cur.toList.take ((i+1) * 6)++xs.drop (i * 6)++cur.toList.drop ((i+1) * 6+(xs.drop (i * 6)).length)).toArray:=⟨_,rfl⟩
 have xL:(xs.drop (i * 6)).length=(n - i) * 6:=by rw [List.length_drop,wh];omega
 have Pr:∀(W:World),W.heap=w.heap→∀ty dc sc,(Builtin.copy_ #[26,26] ty #[.slice (some ⟨g,(i+1) * 6,none⟩) (n - i) dc,.slice (some ⟨g,i * 6,none⟩) (n+1 - i) sc]).run Tryz.prog W=.ok (goInt (n - i:Nat)) (W.setRow g cur1):=fun W hW ty dc sc=>by
  have:=b8 (P:=Tryz.prog) W 26 26 ty 103 6 g ((i+1) * 6) (n - i) dc ⟨g,i * 6,none⟩ (n+1 - i) sc cur 103 (xs.drop (i * 6)) ht hz (by rw [hW];exact hg) (by rw [xL];simp only [Nat.min_def];split<;>omega)
   (fun j v hj=>by have:=qT j v hj;simpa only [World.cell?,hW] using this) (by omega) (fun q hq=>h1 q (List.mem_of_mem_drop hq))
  rw [this,eL]
  congr 2
  simp only [Nat.min_def];split<;>omega
 have Em:cur1.size=cur.size:=by rw [eL];simp;omega
 obtain ⟨cur3,mo⟩:∃cur3:Array Value,cur3=(cur1.toList.take (i * 6)++ys++cur1.toList.drop (i * 6+ys.length)).toArray:=⟨_,rfl⟩
 have Ps:∀(W:World),W.heap[g]? = some (.cells cur1 103 (0,0))→W.heap[g2]? = w.heap[g2]?→∀ty dc sc,(Builtin.copy_ #[26,26] ty #[.slice (some ⟨g,i * 6,none⟩) (n+1 - i) dc,.slice (some ⟨g2,0,none⟩) 1 sc]).run Tryz.prog W=.ok (goInt 1) (W.setRow g cur3):=fun W hW Zj ty dc sc=>by
  have:=b8 (P:=Tryz.prog) W 26 26 ty 103 6 g (i * 6) (n+1 - i) dc ⟨g2,0,none⟩ 1 sc cur1 103 ys ht hz hW (by rw [De];simp only [Nat.min_def];split<;>omega)
   (fun j v hj=>by have:=Cd j v (by simpa using hj);simpa only [World.cell?,ct,Zj] using this) (by omega) h2
  rw [this,mo]
  congr 2
  simp only [Nat.min_def];split<;>omega
 have IP:IntKind.i64.wrap ((i:Int)+1)=(i:Int)+1:=by rw [IntKind.wrap_i64];omega
 have I8:IntKind.i64.wrap ((n:Int)+1)=(n:Int)+1:=by rw [IntKind.wrap_i64];omega
 have Mg:(0:Int)≤(i:Int)+1:=by omega
 have lO:i≤n:=by omega
 have Rf:((i:Int)+1).toNat=i+1:=by omega
 have vB:¬(c=i+1):=by omega
 have TX:(i:Int)≤(n:Int)+1:=by omega
 have Zk:¬(c=i):=by omega
 have BY:¬((i:Int)=(n:Int)):=by omega
 have HV:¬((c:Int)<(n:Int)+1):=by omega
 have Rg:cur3.size=cur.size:=by rw [mo];simp;omega
 have lB:cur3.toList.take ((n+1) * 6)=xs.take (i * 6)++(ys++xs.drop (i * 6)):=Ba (sz:=6) (cur1:=cur1.toList) (cur3:=cur3.toList) iB (by simp;omega) (by rw [De]) lO (by rw [eL]) (by rw [mo])
 clear mo eL xL iB kc
 have GN:=Ps (w.drew.setRow g cur1) (setRow_heap w.drew g cur _ 103 _ hg) (_root_.Go.setRow_other w.drew g g2 _ bc)
 have mixed:Tryz.prog.follows .mixedOrders=true:=by kernel_rfl
 go_enter Tryz.func156,Tryz.ntmps156
 go_wp2_with (simp only [Re])
 go_region_law (go_loud (refine step_copy_runI rfl _ _ 26 26 rfl (.slice (some ⟨g,(i+1) * 6,none⟩) (n - i) (c - (i+1))) (.slice (some ⟨g,i * 6,none⟩) (n+1 - i) (c - i)) (by simp [Act.eval,Act.put]) (by simp [Act.eval,Act.put]) (Pr w.drew rfl 3 (c - (i+1)) (c - i)) ?_))
 go_wp2_with (simp only [GN])
 go_ret
 refine ⟨rfl,cur3,setRow_heap _ g cur1 _ 103 _ (setRow_heap w.drew g cur _ 103 _ hg),Rg,lB,⟨rfl,rfl,rfl,by simp [World.setRow],fun k hk Mh => ?_⟩⟩
 have vg:k≠g:=fun e=>Mh (by rw [e])
 rw [_root_.Go.setRow_other _ g k _ vg,_root_.Go.setRow_other _ g k _ vg];rfl
set_option maxHeartbeats 4000000 in
set_option maxRecDepth 100000 in
theorem GY(w:World)(g c g2 c2 n i:Nat)(xs ys:List Value)(cur cW:Array Value)(hg:w.heap[g]? = some (.cells cur 103 (0,0)))(ir:cur.size=c * 6)(iB:cur.toList.take (n * 6)=xs)(wh:xs.length=n * 6)
  (su:w.heap[g2]? = some (.cells cW 103 (0,0))) (pK:cW.size=c2 * 6) (vd:0<c2) (kc:cW.toList.take (1 * 6)=ys) (De:ys.length=1 * 6) (bc:g2≠g) (hi:i<n) (Ca:n≤c) (iA:c<n+1) (hm:n+1≤fm)
  (h1:∀q∈xs,q.oneCell'=true) (h2:∀q∈ys,q.oneCell'=true) :
  Calls Tryz.prog 156 #[.slice (some ⟨g,0,none⟩) n c,.int .i64 i,.slice (some ⟨g2,0,none⟩) 1 c2] w fun en w'=>∃G,en=.returned (.slice (some ⟨w.heap.size,0,none⟩) (n+1) G) ∧
   ∃cY:Array Value,w'.heap[w.heap.size]? = some (.cells cY 103 (0,0))∧cY.size=G * 6∧n+1≤G∧G≤maxLen∧cY.toList.take ((n+1) * 6)=xs.take (i * 6)++(ys++xs.drop (i * 6))∧w.grownBy w' (some g):=by
 have ht:Tryz.prog.underlying 26=some (.slice 103):=by kernel_rfl
 have Rf:Tryz.prog.underlying 3=some (.int .i64):=by kernel_rfl
 have hz:(Tryz.prog.info? 103).map (·.size)=some 6:=by kernel_rfl
 obtain ⟨i0,z0,he⟩:=cw (P:=Tryz.prog) (e:=103) (k:=.pair (.pair (.pair (.int .i64) (.int .i64)) (.int .i64)) (.pair (.pair (.int .i64) (.int .i64)) (.int .i64))) (by kernel_rfl)
 have B3:z0.cells.size=6:=he.rW
 have vu:i0.size=6:=he.size
 have Ct:=he.bytes
 have Cd:=fR (size:=6) (n:=1) su kc 0
 have qT:=fR (size:=6) (n:=n) hg iB (i * 6)
 have GQ:=fR (size:=6) (n:=n) hg iB 0
 have Rh:g<w.heap.size:=(Array.getElem?_eq_some_iff.1 hg).1
 have Pu:g2<w.heap.size:=(Array.getElem?_eq_some_iff.1 su).1
 unfold fm at hm
 have jz:(n+1) * i0.bytes≤140737488355328:=Nat.le_trans (Nat.mul_le_mul hm Ct) (by decide)
 have hold:(Builtin.firstCells i0.size i (.slice (some ⟨g,0,none⟩) i c)).run Tryz.prog w.drew=.ok (xs.take (i * 6)).toArray w.drew:=by
  rw [vu]
  exact run_firstCells_some w.drew 6 i ⟨g,0,none⟩ i c (xs.take (i * 6)) (by rw [List.length_take];omega) (fun j v hj=>by
   rw [List.getElem?_take] at hj
   split at hj
   ·exact GQ j v hj
   ·cases hj)
 obtain ⟨G,hG⟩:∃G,G=grownCap w (n+1) c 103:=⟨_,rfl⟩
 obtain ⟨iC,pM⟩:∃iC:Array Value,iC=(xs.take (i * 6)).toArray++Builtin.zeroCells z0.cells (n+1 - i)++Builtin.zeroCells z0.cells (G - (n+1)):=⟨_,rfl⟩
 have RW:i+(n+1 - i)=n+1:=by omega
 have Ri:∀ty,(Builtin.append_ #[26,3] ty #[.slice (some ⟨g,0,none⟩) i c,.int .i64 ((n:Int)+1 - (i:Int))]).run Tryz.prog w=.ok (.slice (some ⟨w.heap.size,0,none⟩) (n+1) G) (w.drew.alloc (.cells iC 103)):=fun ty=>by
  have h:=Lib.run_append_grow_zeros w 26 3 ty 103 i0 z0 .i64 .i64 ht Rf he.info he.zero (some ⟨g,0,none⟩) i c (xs.take (i * 6)) hold (n+1 - i) (by omega) (by omega) (by omega) (by omega)
   (Nat.le_trans (Nat.mul_le_mul_right _ (show n+1 - i≤n+1 by omega)) (by omega)) (by rw [RW];exact growslice_fits iA jz)
  rw [RW] at h
  rw [show (n:Int)+1 - (i:Int)=((n+1 - i:Nat):Int) by omega,pM,hG]
  exact h
 have Xb:n+1≤G:=by rw [hG];exact grownCap_ge w _ _ _
 have I9:G≤9223372036854775807:=by
  have:=grownCap_le_maxLen w (n+1) c 103 (by unfold maxLen;omega)
  rw [←hG] at this
  unfold maxLen at this
  omega
 have hRs:iC.size=G * 6:=by
  rw [pM]
  simp [Builtin.zeroCells,B3,List.length_take,wh]
  rw [Nat.min_eq_left (by omega)];omega
 have TY:iC.toList.take (i * 6)=xs.take (i * 6):=by
  rw [pM]
  simp only [Array.toList_append,List.append_assoc]
  exact List.take_left' (by rw [List.length_take];omega)
 obtain ⟨W1,nX⟩:∃W1,W1=w.drew.alloc (.cells iC 103):=⟨_,rfl⟩
 have qx:W1.heap[w.heap.size]? = some (.cells iC 103 (0,0)):=by rw [nX];exact (MapKept.heap_alloc w.drew (.cells iC 103)).1
 have rO:∀b,b<w.heap.size→W1.heap[b]? = w.heap[b]? := fun b hb=>by rw [nX];exact (Below.heap_alloc w.drew (.cells iC 103) b hb).trans rfl
 have rP:w.grownBy W1 none:=⟨by rw [nX];rfl,by rw [nX];rfl,by rw [nX];rfl,by have:=(Array.getElem?_eq_some_iff.1 qx).1;omega,fun k hk _=>rO k hk⟩
 obtain ⟨row2,mq⟩:∃row2:Array Value,row2=(iC.toList.take (i * 6)++ys++iC.toList.drop (i * 6+ys.length)).toArray:=⟨_,rfl⟩
 have Ki:row2.size=iC.size:=by rw [mq];simp;omega
 have Pv:∀(W:World),W.heap=W1.heap→∀ty dc sc,(Builtin.copy_ #[26,26] ty #[.slice (some ⟨w.heap.size,i * 6,none⟩) (n+1 - i) dc,.slice (some ⟨g2,0,none⟩) 1 sc]).run Tryz.prog W=.ok (goInt 1) (W.setRow w.heap.size row2):=fun W hW ty dc sc=>by
  have:=b8 (P:=Tryz.prog) W 26 26 ty 103 6 w.heap.size (i * 6) (n+1 - i) dc ⟨g2,0,none⟩ 1 sc iC 103 ys ht hz (by rw [hW];exact qx) (by rw [De];simp only [Nat.min_def];split<;>omega)
   (fun j v hj=>by have:=Cd j v (by simpa using hj);simpa only [World.cell?,ct,hW,rO g2 Pu] using this) (by omega) h2
  rw [this,mq]
  congr 2
  simp only [Nat.min_def];split<;>omega
 obtain ⟨row3,mr⟩:∃row3:Array Value,row3=(row2.toList.take ((i+1) * 6)++xs.drop (i * 6)++row2.toList.drop ((i+1) * 6+(xs.drop (i * 6)).length)).toArray:=⟨_,rfl⟩
 have xL:(xs.drop (i * 6)).length=(n - i) * 6:=by rw [List.length_drop,wh];omega
 have Rg:row3.size=iC.size:=by rw [mr];simp;omega
 have Pw:∀(W:World),W.heap=(W1.setRow w.heap.size row2).heap→∀ty dc sc,(Builtin.copy_ #[26,26] ty #[.slice (some ⟨w.heap.size,(i+1) * 6,none⟩) (n - i) dc,.slice (some ⟨g,i * 6,none⟩) (n - i) sc]).run Tryz.prog W=.ok (goInt (n - i:Nat)) (W.setRow w.heap.size row3):=fun W hW ty dc sc=>by
  have:=b8 (P:=Tryz.prog) W 26 26 ty 103 6 w.heap.size ((i+1) * 6) (n - i) dc ⟨g,i * 6,none⟩ (n - i) sc row2 103 (xs.drop (i * 6)) ht hz (by rw [hW];exact setRow_heap W1 w.heap.size iC _ 103 _ qx) (by rw [xL];simp only [Nat.min_def];split<;>omega)
   (fun j v hj=>by have:=qT j v hj;simpa only [World.cell?,ct,hW,_root_.Go.setRow_other W1 w.heap.size g _ (Nat.ne_of_lt Rh),rO g Rh] using this) (by omega) (fun q hq=>h1 q (List.mem_of_mem_drop hq))
  rw [this,mr]
  congr 2
  simp only [Nat.min_def];split<;>omega
 have lB:row3.toList.take ((n+1) * 6)=xs.take (i * 6)++(ys++xs.drop (i * 6)):=wi (sz:=6) (row:=iC.toList) (row2:=row2.toList) (row3:=row3.toList) TY (by simp;omega) wh (by rw [De]) (by omega) (by rw [mq]) (by rw [mr])
 clear mr mq pM xL iB kc TY GQ hold hG
 have IP:IntKind.i64.wrap ((i:Int)+1)=(i:Int)+1:=by rw [IntKind.wrap_i64];omega
 have I8:IntKind.i64.wrap ((n:Int)+1)=(n:Int)+1:=by rw [IntKind.wrap_i64];omega
 have hw3:IntKind.i64.wrap ((n:Int)+1 - (i:Int))=(n:Int)+1 - (i:Int):=by rw [IntKind.wrap_i64];omega
 have Mg:(0:Int)≤(i:Int)+1:=by omega
 have lO:i≤n:=by omega
 have Zl:((i:Int)+1).toNat=i+1:=by omega
 have hGi:¬(G=i):=by omega
 have Zm:¬(G=i+1):=by omega
 have hci:¬(c=i):=by omega
 have TX:(i:Int)≤(n:Int):=by omega
 have BY:¬((i:Int)=(n:Int)):=by omega
 have HV:(c:Int)<(n:Int)+1:=by omega
 rw [←nX] at Ri
 clear nX
 have mixed:Tryz.prog.follows .mixedOrders=true:=by kernel_rfl
 go_enter Tryz.func156,Tryz.ntmps156
 go_wp2_with (first
  | (at_builtin;refine Lib.wpList_append_run _ rfl _ _ _ _ rfl _ _ rfl rfl _ _ (Ri _) ?_)
  | (at_builtin;refine wpList_copy_runI _ rfl _ _ 26 26 rfl _ _ rfl rfl (Pv _ (by rfl) _ _ _) ?_))
 go_region_law (go_loud (refine step_copy_runI rfl _ _ 26 26 rfl (.slice (some ⟨w.heap.size,(i+1) * 6,none⟩) (n - i) (G - (i+1))) (.slice (some ⟨g,i * 6,none⟩) (n - i) (c - i)) (by simp [Act.eval,Act.put]) (by simp [Act.eval,Act.put]) (Pw (W1.setRow w.heap.size row2).drew rfl 3 (G - (i+1)) (c - i)) ?_))
 go_wp2
 go_ret
 refine ⟨G,rfl,row3,setRow_heap _ w.heap.size row2 _ 103 _ (setRow_heap W1 w.heap.size iC _ 103 _ qx),by omega,Xb,I9,lB,⟨rP.os,rP.tape,rP.output,by have:=rP.size;simpa [World.setRow] using this,fun k hk _ => ?_⟩⟩
 rw [_root_.Go.setRow_other _ w.heap.size k _ (Nat.ne_of_lt hk)]
 exact (_root_.Go.setRow_other W1 w.heap.size k _ (Nat.ne_of_lt hk)).trans (rO k hk)
theorem Vv:EH Tryz.prog 156 103 6:=fun w v u n i xs ys hv hu hi hm Mi h1 h2=>by
 by_cases he:i=n
 ·subst he
  refine (Jc w v u i xs ys hv hu hm h2).mono fun en w' ⟨v',e1,e2,e3,e4⟩=>⟨v',e1,?_,e3,e4⟩
  have hl:=hv.1
  rw [List.take_of_length_le (by omega),List.drop_eq_nil_of_le (by omega),List.append_nil]
  exact e2
 ·have lO:i<n:=by omega
  rcases hv.2 with ⟨h0,_⟩ | ⟨g,c,cur,rfl,Ng,hg,Ca,EJ,ir,iB⟩
  ·omega
  rcases hu.2 with ⟨h0,_⟩ | ⟨g2,c2,cW,rfl,GR,su,_,_,pK,kc⟩
  ·omega
  have jy:ob (.slice (some ⟨g,0,none⟩) n c)=some g:=by simp only [ob];rw [if_neg (by omega)]
  have Px:ob (.slice (some ⟨g2,0,none⟩) 1 c2)=some g2:=by simp only [ob];rw [if_neg (by omega)]
  have bc:g2≠g:=fun e=>Mi g jy (by rw [Px,e])
  by_cases iA:n+1≤c
  ·refine (EL w g c g2 c2 n i xs ys cur cW hg ir iB hv.1 su pK GR kc hu.1 bc lO iA EJ h1 h2).mono fun en w' ⟨e1,cY,e2,e3,e4,e5⟩ => ?_
   refine ⟨_,e1,⟨?_,.inr ⟨g,c,cY,rfl,Ng,e2,iA,EJ,by rw [e3,ir],e4⟩⟩,by rw [jy];exact e5,.inl ?_⟩
   ·have hl:=hv.1;have sR:=hu.1
    simp only [List.length_append,List.length_take,List.length_drop];omega
   ·rw [jy];simp only [ob];rw [if_neg (by omega)]
  ·refine (GY w g c g2 c2 n i xs ys cur cW hg ir iB hv.1 su pK GR kc hu.1 bc lO Ca (by omega) hm h1 h2).mono fun en w' ⟨G,e1,cY,e2,e3,e4,e5,e6,e7⟩ => ?_
   refine ⟨_,e1,⟨?_,.inr ⟨w.heap.size,G,cY,rfl,by omega,e2,e4,e5,e3,e6⟩⟩,by rw [jy];exact e7,.inr fun b hb => ?_⟩
   ·have hl:=hv.1;have sR:=hu.1
    simp only [List.length_append,List.length_take,List.length_drop];omega
   ·simp only [ob] at hb;rw [if_neg (by omega)] at hb;cases hb;omega
end Go.Vs
namespace Go.Vs
open Go.Proofs Go.RowKit
def Kz(P:Program)(f:FuncId)(e:TypeId)(size:Nat):Prop :=
 ∀(w:World) (n:Nat),n≤fm→Calls P f #[.slice none 0 0,.int .i64 n] w fun en w'=>∃v',en=.returned v'∧du w' e size v' 0 []∧w.grownBy w' none∧∀b,ob v'=some b→w.heap.size≤b
set_option maxHeartbeats 4000000 in
set_option maxRecDepth 100000 in
theorem R9:Kz Tryz.prog 158 32 3:=fun w n hm=>by
 have ht:Tryz.prog.underlying 46=some (.slice 32):=by kernel_rfl
 have Rf:Tryz.prog.underlying 3=some (.int .i64):=by kernel_rfl
 obtain ⟨i0,z0,he⟩:=cw (P:=Tryz.prog) (e:=32) (k:=.pair (.pair (.int .i64) (.int .i64)) (.int .i64)) (by kernel_rfl)
 have B3:z0.cells.size=3:=he.rW
 have vu:i0.size=3:=he.size
 have Ct:=he.bytes
 unfold fm at hm
 by_cases hn:n=0
 ·subst hn
  have jy:ob (.slice none 0 0)=none:=rfl
  go_enter Tryz.func158,Tryz.ntmps158
  go_wp2
  go_ret
  exact ⟨_,rfl,⟨by simp,.inl ⟨rfl,none,rfl⟩⟩,World.grownBy.refl w _,fun b hb=>by simp [ob] at hb⟩
 ·have jz:n * i0.bytes≤281474976710656:=Nat.le_trans (Nat.mul_le_mul hm Ct) (by decide)
  obtain ⟨G,hG⟩:∃G,G=grownCap w n 0 32:=⟨_,rfl⟩
  obtain ⟨iC,pM⟩:∃iC,iC=Builtin.zeroCells z0.cells n++Builtin.zeroCells z0.cells (G - n):=⟨_,rfl⟩
  obtain ⟨W1,nX⟩:∃W1,W1=w.drew.alloc (.cells iC 32):=⟨_,rfl⟩
  have Ri:∀ty,(Builtin.append_ #[46,3] ty #[.slice none 0 0,.int .i64 n]).run Tryz.prog w=.ok (.slice (some ⟨w.heap.size,0,none⟩) n G) W1:=fun ty=>by
   rw [nX,pM,hG]
   exact Lib.run_append_nil_zeros w 46 3 ty 32 i0 z0 .i64 .i64 ht Rf he.info he.zero n (by omega) (by omega) (by omega) jz
  have Xb:n≤G:=by rw [hG];exact grownCap_ge w _ _ _
  have I9:G≤9223372036854775807:=by
   have:=grownCap_le_maxLen w n 0 32 (by unfold maxLen;omega)
   rw [←hG] at this
   unfold maxLen at this
   omega
  have hRs:iC.size=G * 3:=by
   rw [pM]
   simp [Builtin.zeroCells,B3]
   omega
  have qx:W1.heap[w.heap.size]? = some (.cells iC 32 (0,0)):=by rw [nX];exact (MapKept.heap_alloc w.drew (.cells iC 32)).1
  have rO:∀b,b<w.heap.size→W1.heap[b]? = w.heap[b]? := fun b hb=>by rw [nX];exact (Below.heap_alloc w.drew (.cells iC 32) b hb).trans rfl
  have rP:w.grownBy W1 none:=⟨by rw [nX];rfl,by rw [nX];rfl,by rw [nX];rfl,by have:=(Array.getElem?_eq_some_iff.1 qx).1;omega,fun k hk _=>rO k hk⟩
  clear pM nX hG
  have hn0:¬((n:Int)<0):=by omega
  have XZ:0<(n:Int):=by omega
  have hn2:IntKind.i64.wrap (n:Int)=n:=by rw [IntKind.wrap_i64];omega
  have hG0:¬(G=0):=by omega
  go_enter Tryz.func158,Tryz.ntmps158
  go_wp2_with (at_builtin;refine Lib.wpList_append_run _ rfl _ _ _ _ rfl _ _ rfl rfl _ _ (Ri _) ?_)
  go_ret
  refine ⟨.slice (some ⟨w.heap.size,0,none⟩) 0 G,rfl,⟨by simp,.inr ⟨w.heap.size,G,iC,rfl,by omega,qx,by omega,I9,hRs,by simp⟩⟩,rP,fun b hb => ?_⟩
  simp only [ob] at hb;rw [if_neg (by omega)] at hb;cases hb;omega
theorem GZ{P:Program}{f:FuncId}{ty:TypeId}{k:K}(hr:Kz P f ty k.sz):ia P f (Ns ty k):=by
 intro Z ψ h w B0 O N hh id e vs us g hB bp hN bf lZ sO D8 he
 unfold Ns at he
 split at he
 rotate_left
 ·cases he
 rename_i n
 simp only [Option.some.injEq,Prod.mk.injEq] at he
 obtain ⟨lN,rfl⟩:=he
 simp only [zi,Bool.and_eq_true,decide_eq_true_eq] at lN
 obtain ⟨h0,h1⟩:=lN
 obtain ⟨m,rfl⟩:∃m:Nat,n=m:=⟨n.toNat,by omega⟩
 simp only [aq,av] at sO
 obtain ⟨v,_,rfl,rfl,u,_,rfl,rfl,rfl⟩:=sO
 have bI:N id:=hN 0 (by omega)
 refine (hr w m (by omega)).mono fun en w' ⟨v',e1,e2,e3,e4⟩ => ?_
 have kk:cV ψ h w w':=cV.grown e3 (fun b e=>by cases e)
 have C0:=qc (N:=N) g hB id ty bI (k:=k) (xs:=[]) (vs:=[]) kk (fun b hb=>e3.block b (g.bJ hb) (by simp)) e2 (fun i x hx=>by simp at hx) e4 (fun i ty cs hb=>aB.imp (p:=fun i=>¬N i) (q:=fun i=>i≠id) (fun a ha e=>ha (by rw [e];exact bI)) (bf i ty cs hb))
 refine ⟨v',Z,dJ ψ id v',e1,?_,?_⟩
 ·have Zn:(bA.new (.bC id) [(id,Ob.own (.row ty k) [])]).hp h=dJ h id (some (.own (.row ty k) [])):=hZ id _ h
  rw [Zn];exact C0
 ·simp only [bA.v,av]
  exact ⟨e2.one,fun _=>(aZ _ _ _).symm⟩
end Go.Vs
namespace Go.Vs
variable {P:Program}
def yl(P:Program)(g:TypeId→K→Bool):List Field→Nat→K→Bool
 | [],_,_=>false
 | [f],off,k=>(f.name != "_")&&(decide (f.offset=off)&&(decide (P.cellsOf f.type=k.sz)&&g f.type k))
 | f::f'::r,off,.pair a b=>(f.name != "_")&&(decide (f.offset=off)&&(decide (P.cellsOf f.type=a.sz)&&(g f.type a&&yl P g (f'::r) (off+a.sz) b)))
 | _,_,_=>false
def Py(P:Program):Nat→TypeId→K→Bool
 | 0,_,_=>false
 | d+1,t,k =>
  match P.underlying t,k with
  | some (.int a),.int b=>decide (a=b)
  | some .bool,.bool=>true
  | some .string,.str=>true
  | some (.struct fs),.pair a b => !P.stoodInHeld t&&yl P (Py P d) fs.toList 0 (.pair a b)
  | _,_=>false
def VK(w:World)(Z:Nat→Prop):(k:K)→k.T→Value→Prop
 | .pair a b,x,v=>∃cs:Array Value,v=.agg cs∧aF Z w (.pair a b) x cs.toList
 | .one k,x,v=>False
 | k,x,v=>aF Z w k x [v]
theorem yN{Z:Nat→Prop}{w:World}{d:Nat}{t:TypeId}{k:K}(hk:Py P d t k=true)(hc:P.cellsOf t=k.sz){cs:Array Value}{off:Nat}{x:k.T}(hr:aF Z w k x ((cs.toList.drop off).take k.sz)) :
  ∃v,(part t cs off).run P w=.ok v w∧VK w Z k x v:=by
 cases d with
 | zero=>simp [Py] at hk
 | succ d =>
  have plain:k.sz=1→(P.underlying t).map H7=some false→∃v,(part t cs off).run P w=.ok v w∧aF Z w k x [v]:=fun h1 h2=>by
   rw [h1] at hr
   have hl:=hr.len
   rw [h1,List.length_take,List.length_drop,Array.length_toList] at hl
   have aE:off<cs.size:=by omega
   refine ⟨cs[off],?_,?_⟩
   ·simp [part,fM h2,aE]
   ·have:(cs.toList.drop off).take 1=[cs[off]]:=by
     rw [List.drop_eq_getElem_cons (by simpa using aE)];simp
    rwa [this] at hr
  unfold Py at hk
  split at hk
  ·rename_i a b hu
   exact plain rfl (by rw [hu];rfl)
  ·rename_i hu
   exact plain rfl (by rw [hu];rfl)
  ·rename_i hu
   exact plain rfl (by rw [hu];rfl)
  ·rename_i fs a b hu
   obtain ⟨i,hi⟩:=rU hu
   refine ⟨.agg (cs.extract off (off+P.cellsOf t)),?_,_,rfl,?_⟩
   ·have h2:(P.underlying t).map H7=some true:=by rw [hu];rfl
    simp [part,fM h2,dn hi]
   ·rw [Array.toList_extract,hc]
    simpa [List.extract] using hr
  ·cases hk
def iD(em:Bool)(d:Nat)(cs:Array Value):List Field→Sem Unit
 | []=>pure ()
 | f::fs =>
  if f.name≠ "_" then do
   let a ←part f.type cs f.offset
   Instr.checkKey em d f.type a
   iD em d cs fs
  else iD em d cs fs
theorem rQ(em:Bool)(w:World)(d:Nat)(t:TypeId)(cs:Array Value)(fs:Array Field)(ht:P.underlying t=some (.struct fs)) :
  (Instr.checkKey em (d+1) t (.agg cs)).run P w=(iD em d cs fs.toList).run P w:=by
 simp only [Instr.checkKey,Sem.run_bind,run_underlying ht,Result.andThen_ok]
 rw [←Array.forIn_toList]
 generalize fs.toList=l
 clear ht
 induction l generalizing w with
 | nil=>simp [iD]
 | cons f fs ih =>
  simp only [List.forIn_cons,iD,Sem.run_bind,Sem.run_ite]
  split
  ·generalize (part f.type cs f.offset).run P w=r1
   cases r1 with
   | ok a w1 =>
    simp only [Result.andThen_ok]
    generalize (Instr.checkKey em d f.type a).run P w1=r2
    cases r2 with
    | ok b w2 =>
     simp only [Result.andThen_ok,Sem.run_pure]
     exact ih w2
    | halt x w2=>simp [Result.andThen]
   | halt x w1=>simp [Result.andThen]
  ·simp only [Sem.run_pure,Result.andThen_ok]
   exact ih w
theorem G1{Z:Nat→Prop}{D d:Nat}(em:Bool)(hg:∀t k,Py P d t k=true→∀(w:World) (x y:k.T) (u v:Value),VK w Z k x u→VK w Z k y v→(Op.equalIn (D+d) t u v).run P w=.ok (qJ k x y) w∧(Instr.checkKey em (D+d) t u).run P w=.ok () w)(w:World)(xs ys:Array Value) :
  ∀(fs:List Field) (off:Nat) (k:K),yl P (Py P d) fs off k=true→∀(x y:k.T),aF Z w k x ((xs.toList.drop off).take k.sz)→aF Z w k y ((ys.toList.drop off).take k.sz) →
   (Op.eqFields (D+d) xs ys fs).run P w=.ok (qJ k x y) w∧(iD em (D+d) xs fs).run P w=.ok () w
 | [],_,_,h,_,_,_,_=>by simp [yl] at h
 | [f],off,k,h,x,y,hx,hy=>by
  have h':f.name≠ "_"∧f.offset=off∧P.cellsOf f.type=k.sz∧Py P d f.type k=true:=by
   cases k<;>simpa [yl] using h
  obtain ⟨h0,h1,h2,h3⟩:=h'
  subst h1
  obtain ⟨u,hu,Zo⟩:=yN h3 h2 hx
  obtain ⟨v,hv,zG⟩:=yN h3 h2 hy
  obtain ⟨e1,e2⟩:=hg _ _ h3 w x y u v Zo zG
  constructor
  ·simp only [Op.eqFields,if_pos h0,Sem.run_bind,hu,hv,e1,Result.andThen_ok]
   cases qJ k x y<;>simp
  ·simp [iD,h0,hu,e2]
 | f::f'::r,off,.pair a b,h,x,y,hx,hy=>by
  simp only [yl,Bool.and_eq_true,decide_eq_true_eq,bne_iff_ne,ne_eq] at h
  obtain ⟨h0,h1,h2,h3,h4⟩:=h
  subst h1
  simp only [aF,K.sz] at hx hy
  obtain ⟨us,ws,ex,Pz,hx2⟩:=hx
  obtain ⟨iH,ws',ey,TZ,T0⟩:=hy
  have sp:∀(zs:Array Value) (us ws:List Value),us.length=a.sz→ws.length=b.sz→(zs.toList.drop f.offset).take (a.sz+b.sz)=us++ws→us=(zs.toList.drop f.offset).take a.sz∧ws=(zs.toList.drop (f.offset+a.sz)).take b.sz:=fun zs us ws l1 l2 e=>by
   rw [List.take_add,] at e
   have hl:((zs.toList.drop f.offset).take a.sz).length=us.length:=by
    have:=congrArg List.length e
    simp only [List.length_append,List.length_take,List.length_drop] at this ⊢
    omega
   obtain ⟨e1,e2⟩:=List.append_inj e hl
   exact ⟨e1.symm,by rw [←e2,List.drop_drop]⟩
  obtain ⟨rfl,rfl⟩:=sp xs us ws Pz.len hx2.len ex
  obtain ⟨rfl,rfl⟩:=sp ys iH ws' TZ.len T0.len ey
  obtain ⟨u,hu,Zo⟩:=yN h3 h2 Pz
  obtain ⟨v,hv,zG⟩:=yN h3 h2 TZ
  obtain ⟨e1,e2⟩:=hg _ _ h3 w x.1 y.1 u v Zo zG
  obtain ⟨e3,e4⟩:=G1 em hg w xs ys (f'::r) (f.offset+a.sz) b h4 x.2 y.2 hx2 T0
  constructor
  ·rw [Op.eqFields,if_pos h0]
   simp only [Sem.run_bind,hu,hv,e1,Result.andThen_ok,Sem.run_ite,e3,qJ]
   cases qJ a x.1 y.1<;>simp
  ·rw [iD,if_pos h0]
   simp only [Sem.run_bind,hu,e2,Result.andThen_ok]
   exact e4
 | f::f'::r,off,.int _,h,_,_,_,_=>by simp [yl] at h
 | f::f'::r,off,.bool,h,_,_,_,_=>by simp [yl] at h
 | f::f'::r,off,.str,h,_,_,_,_=>by simp [yl] at h
 | f::f'::r,off,.sl _,h,_,_,_,_=>by simp [yl] at h
 | f::f'::r,off,.one _,h,_,_,_,_=>by simp [yl] at h
 | f::f'::r,off,.mp _ _,h,_,_,_,_=>by simp [yl] at h
theorem KA{Z:Nat→Prop}(D:Nat)(em:Bool):∀(d:Nat) (t:TypeId) (k:K),Py P d t k=true→∀(w:World) (x y:k.T) (u v:Value),VK w Z k x u→VK w Z k y v →
  (Op.equalIn (D+d) t u v).run P w=.ok (qJ k x y) w∧(Instr.checkKey em (D+d) t u).run P w=.ok () w
 | 0,_,_,h,_,_,_,_,_,_,_=>by simp [Py] at h
 | d+1,t,k,h,w,x,y,u,v,hu,hv=>by
  rw [←Nat.add_assoc]
  unfold Py at h
  split at h
  ·rename_i a b ht
   simp only [decide_eq_true_eq] at h;subst h
   simp only [VK,aF,List.cons.injEq,and_true] at hu hv
   subst hu;subst hv
   exact ⟨run_equalIn_int w _ _ _ _ _ _ ht,by simp [Instr.checkKey,run_underlying ht]⟩
  ·rename_i ht
   simp only [VK,aF,List.cons.injEq,and_true] at hu hv
   subst hu;subst hv
   exact ⟨run_equalIn_bool' w _ _ _ _ ht,by simp [Instr.checkKey,run_underlying ht]⟩
  ·rename_i ht
   simp only [VK,aF,List.cons.injEq,and_true] at hu hv
   subst hu;subst hv
   exact ⟨(run_equalIn_string w _ _ _ _ ht).trans (congrArg (fun b=>Result.ok b w) (beq_toListBytes (show ByteArray from x) (show ByteArray from y)).symm),by simp [Instr.checkKey,run_underlying ht]⟩
  ·rename_i fs a b ht
   simp only [Bool.and_eq_true,Bool.not_eq_true'] at h
   obtain ⟨hs,hf⟩:=h
   obtain ⟨xs,rfl,hx⟩:=hu
   obtain ⟨ys,rfl,hy⟩:=hv
   have Sa:P.fieldsOf t=fs:=by simp [Program.fieldsOf,ht]
   have wh:=hx.len
   have De:=hy.len
   obtain ⟨e1,e2⟩:=G1 (D:=D) (Z:=Z) em (fun t k hk w x y u v hu hv=>KA D em d t k hk w x y u v hu hv) w xs ys fs.toList 0 (.pair a b) hf x y
    (by rw [List.drop_zero,List.take_of_length_le (by omega)];exact hx) (by rw [List.drop_zero,List.take_of_length_le (by omega)];exact hy)
   constructor
   ·rw [run_equalIn_struct w (D+d) t xs ys (by rw [Sa];exact ht) hs,Sa];exact e1
   ·rw [rQ em w (D+d) t xs fs ht];exact e2
  ·cases h
theorem Mk{d:Nat}{t:TypeId}{a b:K}(hd:d≤10000)(hk:Py P d t (.pair a b)=true)(hg:P.eqGuardType P.depth t=false):kZ P t (.pair a b):=fun Z w x y xs ys hx hy=>by
 have e:10000 - d+d=10000:=by omega
 have key:=fun em=>KA (Z:=Z) (10000 - d) em d t (.pair a b) hk w x y (.agg xs) (.agg ys) ⟨xs,rfl,hx⟩ ⟨ys,rfl,hy⟩
 rw [e] at key
 exact ⟨(key true).1,fun op p q=>run_eqGuard_agg w op t p q xs ys hg,fun em=>(key em).2⟩
end Go.Vs
namespace Go.Vs
open Go.Proofs
theorem PA{f:FuncId}{g:aL}(h:Sg f=some g):(f,g)∈sgs:=by
 unfold Sg at h
 obtain ⟨p,hp,rfl⟩:=Option.map_eq_some_iff.1 h
 have h1:=List.mem_of_find?_eq_some hp
 have h2:=List.find?_some hp
 have:p.1=f:=by simpa using h2
 subst this
 exact h1
theorem jc:∀f g,Sg f=some g→iS Tryz.prog (f % 1000):=fun f g h=>by
 have hm:=PA h
 have key:(sgs.all fun p=>match Tryz.prog.funcs[p.1 % 1000]? with | some fn => !(fn.name== "runtime.NumGoroutine")&&fn.body.isSome | none=>false)=true:=by kernel_rfl
 have:=List.all_eq_true.1 key _ hm
 simp only at this
 split at this
 ·rename_i fn hf
  simp only [Bool.and_eq_true,Bool.not_eq_true'] at this
  exact ⟨fn,hf,this.1,this.2⟩
 ·cases this
theorem nG:Tryz.prog.follows .mixedOrders=true:=by kernel_rfl
theorem wj:∀t k,Eqs t=some k→kZ Tryz.prog t k:=fun t k h=>by
 unfold Eqs at h
 obtain ⟨p,hp,rfl⟩:=Option.map_eq_some_iff.1 h
 have h1:=List.mem_of_find?_eq_some hp
 have h2:=List.find?_some hp
 have e:p.1=t:=by simpa using h2
 subst e
 simp only [eqs,List.mem_cons,List.not_mem_nil,or_false] at h1
 rcases h1 with rfl | rfl | rfl | rfl | rfl | rfl
 all_goals exact Mk (d:=5) (by omega) (by kernel_rfl) (by kernel_rfl)
end Go.Vs
set_option maxRecDepth 1000000
set_option maxHeartbeats 0
namespace Go.Vs
open Go.Proofs
def Sb:aL:={ ps:=[.own],bs:=[.own (.row 48 dR)],rs:=[.own (.row 48 dR)] }
def Sc:aL:={ ps:=[.own],bs:=[.own (.row 56 eU)],rs:=[.own (.row 56 eU)] }
def kE:aL:={ ps:=[.agg 2],bs:=[.own (.row 48 dR),.own (.row 56 eU)],rs:=[.agg [.own (.row 48 dR),.own (.row 56 eU)]] }
def rj(ty:TypeId)(k:K)(h:Heap)(id:Nat):List AV→Option (Bool×bA)
 | [.bC a]=>match dG h (.row ty k) (.bC a) with
  | some xs=>some (bq 0 xs.length,.new (.bC (id+128)) [(id+128,.own (.row ty k) xs)])
  | _=>none
 | _=>none
def aes:aL:={ ps:=[],bs:=[],rs:=[],x:=some (rj 48 dR) }
def aet:aL:={ ps:=[],bs:=[],rs:=[],x:=some (rj 56 eU) }
def Vw:List (Nat×aL):=[(500079,Sb),(500080,Sc)]
def T1(f:FuncId):Option aL:=(Vw.find? (fun p=>p.1==f)).map (fun p=>p.2)
def Vx:List (Nat×aL):=[(81,yi),(500060,kE),(500079,aes),(500080,aet)]
def Rk(f:FuncId):Option aL:=(Vx.find? (fun p=>p.1==f)).map (fun p=>p.2)
def G2:Shape:=⟨[(14,.int .i64),(15,.int .i64)],[(.slot 2,20000,.box 25 [.own (.row 48 dR),.own (.row 56 eU)]),(.slot 3,20001,.box 25 [.own (.row 48 dR),.own (.row 56 eU)])],[(6,1000,(.row 48 (.pair (.pair (.int .i64) (.int .i64)) (.pair (.sl (.pair (.pair (.int .i64) (.int .i64)) (.int .i64))) (.pair .str (.int .i64)))))),(9,1020,(.row 56 (.pair (.pair (.int .i64) (.int .i64)) (.pair .str (.int .i64)))))],[]⟩
def Zp(f:FuncId)(key:Nat):Option Shape:=none
def Vy(f:FuncId)(key:Nat):Option Shape:=if f=500060 then (if key=3 then some G2 else none) else none
noncomputable def PB(SG:FuncId→Option aL)(AN:FuncId→Nat→Option Shape)(f:FuncId)(g:aL)(fn:Func)(F:FT)(J:JT g)(x:g.A):Option g.B:=ax Tryz.prog Eqs SG F fn.ntmps (AN f) J (nh Tryz.prog g fn) fuel [.code (fn.body.getD .skip)] (entry g x)
noncomputable def Vz(SG:FuncId→Option aL)(AN:FuncId→Nat→Option Shape)(f j:Nat)(g:aL)(fn:Func)(sh:Shape)(F:FT)(J:JT g)(x:sh.T):Option g.B:=ax Tryz.prog Eqs SG F fn.ntmps (AN f) J (nh Tryz.prog g fn) fuel (round (aX Tryz.prog (f % 1000) j)) (ar sh x)
theorem Zq(F:FT)(J:JT Sb)(x:(Unit×((List aj)×Unit))):PB T1 Zp 500079 Sb Tryz.f79 F J x =
  cond (List.isEmpty x.2.1)
   (rK 2 fun (j1:Nat) =>
   cond ((j1==0)==true)
    (some ((([]:List aj),()),x.2))
    (cond (bq (List.length ([]:List aj)) (List.length x.2.1))
     (some (((([]:List aj)++x.2.1),()),x.2))
     (none)))
   (cond (bq (List.length ([]:List aj)) (List.length x.2.1))
    (some (((([]:List aj)++x.2.1),()),x.2))
    (none)):=by kernel_rfl
theorem Zr(F:FT)(J:JT Sc)(x:(Unit×((List au)×Unit))):PB T1 Zp 500080 Sc Tryz.f80 F J x =
  cond (List.isEmpty x.2.1)
   (rK 2 fun (j1:Nat) =>
   cond ((j1==0)==true)
    (some ((([]:List au),()),x.2))
    (cond (bq (List.length ([]:List au)) (List.length x.2.1))
     (some (((([]:List au)++x.2.1),()),x.2))
     (none)))
   (cond (bq (List.length ([]:List au)) (List.length x.2.1))
    (some (((([]:List au)++x.2.1),()),x.2))
    (none)):=by kernel_rfl
theorem Zs(F:FT)(J:JT yi)(x:(((List ae)×Unit)×Unit)):PB Rk Vy 81 yi Tryz.f81 F J x =
  cond (List.isEmpty x.1.1)
   (rK 2 fun (j1:Nat) =>
   cond ((j1==0)==true)
    (some ((([]:List ae),()),()))
    (cond (bq (List.length ([]:List ae)) (List.length x.1.1))
     (some (((([]:List ae)++x.1.1),()),()))
     (none)))
   (cond (bq (List.length ([]:List ae)) (List.length x.1.1))
    (some (((([]:List ae)++x.1.1),()),()))
    (none)):=by kernel_rfl
theorem Zt(F:FT)(J:JT kE)(x:(Unit×((List aj)×((List au)×Unit)))):PB Rk Vy 500060 kE Tryz.f60 F J x =
  cond (bq 0 (List.length x.2.1))
   (cond (bq 0 (List.length x.2.2.1))
    (J G2 (aX Tryz.prog 60 0) (((((List.length x.2.1):Nat):Int),((0:Int),())),(((([]:List aj),(([]:List au),())),((x.2.1,x.2.2),())),(x.2.1,x.2.2))))
    (none))
   (none):=by kernel_rfl
theorem KB(F:FT)(J:JT kE)(x:((Int×(Int×Unit))×((((List aj)×((List au)×Unit))×(((List aj)×((List au)×Unit))×Unit))×((List aj)×((List au)×Unit))))):Vz Rk Vy 500060 0 kE Tryz.f60 G2 F J x =
  cond (decide (x.1.2.1<x.1.1))
   (cond ((decide ((0:Int)≤x.1.2.1))&&(decide (x.1.2.1<(((List.length x.2.1.2.1.1):Nat):Int))))
    (((x.2.1.2.1.1)[(Int.toNat x.1.2.1)]?).bind fun (y1:aj) =>
    (F 81 yi ((y1.2.1,()),())).bind fun (y2:(((List ae)×Unit)×Unit)) =>
    cond ((decide ((0:Int)≤x.1.2.1))&&(decide (x.1.2.1<(((List.length x.2.1.2.1.1):Nat):Int))))
     (((x.2.1.2.1.1)[(Int.toNat x.1.2.1)]?).bind fun (y3:aj) =>
     J G2 (aX Tryz.prog 60 0) ((x.1.1,((IntKind.wrap .i64 (x.1.2.1+(1:Int))),())),(((x.2.1.1.1,x.2.1.1.2),(((List.set x.2.1.2.1.1 (Int.toNat x.1.2.1) (y3.1,(y2.1.1,y3.2.2))),x.2.1.2.1.2),())),(x.2.2.1,x.2.2.2))))
     (none))
    (none))
   (some (((x.2.1.2.1.1,x.2.1.2.1.2),()),(x.2.2.1,x.2.2.2))):=by kernel_rfl
end Go.Vs
namespace Go.Vs
open Go.Proofs
variable {P:Program}
theorem sw{f:FuncId}{ty:TypeId}{k:K}(hf:f % 1000=f)(hc:∀(xs:List k.T),bq 0 xs.length=true→Cg P f ⟨[.own],[.own (.row ty k)],[.own (.row ty k)],none⟩ ((),(xs,())) ((xs,()),(xs,()))):ia P f (rj ty k):=by
 intro Z ψ h w B0 O N hh id e vs us g hB bp hN bf lZ sO D8 he
 unfold rj at he
 split at he
 rotate_left
 ·cases he
 rename_i a
 split at he
 rotate_left
 ·cases he
 rename_i xs qT
 simp only [Option.some.injEq,Prod.mk.injEq] at he
 obtain ⟨lN,rfl⟩:=he
 have ha:h a=some (.own (.row ty k) xs):=bp _ _ (jC qT)
 have Jd:h a≠none:=by rw [ha];simp
 simp only [aq,av] at sO
 obtain ⟨v1,_,rfl,⟨_,tU⟩,rfl⟩:=sO
 have tU:=tU Jd
 subst tU
 simp only [aB,aK] at D8
 have Xd:N (id+128):=hN 128 (by omega)
 have na:¬N a:=D8.1
 have a0:a≠id+128:=fun e=>na (e▸Xd)
 let ψ0:Nat→Value:=fun i=>if i=1000 then ψ a else ψ i
 have p0:ψ0 1000=ψ a:=if_pos rfl
 let g0:aL:=⟨[.own],[.own (.row ty k)],[.own (.row ty k)],none⟩
 have lO:oD g0 ((),(xs,()))=Heap.get [(1000,.own (.row ty k) xs)]:=rfl
 have i0:oD g0 ((),(xs,())) 1000=some (.own (.row ty k) xs):=rfl
 have iN:∀i,oD g0 ((),(xs,())) i≠none→i=1000:=fun i hi=>by
  by_cases e0:i=1000
  ·exact e0
  rw [lO] at hi
  simp [Heap.get,Ne.symm e0] at hi
 have Sd:∀q,Own ψ0 (oD g0 ((),(xs,()))) q→ob (ψ a)=some q:=fun q ⟨i,h1,h2⟩=>by
  have:=iN i h1
  subst this
  rw [←p0];exact h2
 have oh:∀q,Own ψ0 (oD g0 ((),(xs,()))) q→Own ψ h q:=fun q hq=>⟨a,Jd,Sd q hq⟩
 have G0:Good Z ψ0 (oD g0 ((),(xs,()))) w w.heap.size (Own ψ0 (oD g0 ((),(xs,())))):=by
  refine ⟨fun i ty cs k => ?_,fun i ok x k => ?_,fun i q h1 h2=>⟨fun hz => ?_,.inr ⟨i,h1,h2⟩⟩,fun i j q h1 h2 h3 h4 => ?_,g.jw⟩
  ·have:=iN i (by rw [k];simp)
   subst this
   rw [i0] at k;cases k
  ·have:=iN i (by rw [k];simp)
   subst this
   rw [i0] at k;cases k;rw [p0];exact g.row a _ _ ha
  ·have:=iN i h1
   subst this
   rw [p0] at h2;exact (g.live a q Jd h2).1 hz
  ·rw [iN i h1,iN j h2]
 have c0:(ψ a).cells=#[ψ a]∧(ψ a).oneCell'=true:=(g.row a _ _ ha).one
 have R0:aq Z ψ0 (oD g0 ((),(xs,()))) w (Eb g0 ((),(xs,()))) [ψ a]:=by
  show aq Z ψ0 (oD g0 ((),(xs,()))) w [.bC 1000] [ψ a]
  simp only [aq,av]
  exact ⟨ψ a,[],rfl,⟨c0,fun _=>p0.symm⟩,rfl⟩
 have Xe:=hc xs lN Z ψ0 w [ψ a] G0 R0
 rw [hf] at Xe
 refine Xe.mono fun en w' ⟨V,Z',ψ',e1,zs,zf,kp,gd,bI,hr⟩ => ?_
 have q0:ψ' 1000=ψ a:=(bI 1000 (by show 1000∈[1000];simp)).trans p0
 have o0:(jE g0 ((xs,()),(xs,()))).get 1000=some (.own (.row ty k) xs):=rfl
 have o2:(jE g0 ((xs,()),(xs,()))).get 3000=some (.own (.row ty k) xs):=rfl
 have gd:Good Z' ψ' (jE g0 ((xs,()),(xs,()))).get w' w.heap.size (Own ψ0 (oD g0 ((),(xs,())))):=gd
 have hr:av Z' ψ' (jE g0 ((xs,()),(xs,()))).get w' (.bC 3000) V:=hr
 generalize (jE g0 ((xs,()),(xs,()))).get=out at *
 have keep:cV ψ h w w':=⟨kp.os,kp.tape,kp.output,kp.size,fun q hq hn=>kp.block q hq fun ho=>hn (oh q ho)⟩
 have sm:cp Z w w':=keep.same g
 have dr:∀i q,i≠a→h i≠none→ob (ψ i)=some q→w'.heap[q]? = w.heap[q]? := fun i q k1 h1 h2 =>
  kp.block q (g.bJ ⟨i,h1,h2⟩) fun ho=>k1 (g.apart i a q h1 Jd h2 (Sd q ho))
 let dL:Nat→Value:=fun i=>if i=id+128 then ψ' 3000 else ψ i
 let H:Hp:=(bA.new (.bC (id+128)) [(id+128,.own (.row ty k) xs)]).hp h
 have s0:dL (id+128)=ψ' 3000:=if_pos rfl
 have sn:∀i,i≠id+128→dL i=ψ i:=fun i k1=>if_neg k1
 have H0:H (id+128)=some (.own (.row ty k) xs):=by show (bA.hp h _) _=_;simp [bA.hp,Heap.get]
 have Hn:∀i,i≠id+128→H i=h i:=fun i k1=>by show (bA.hp h _) _=_;simp [bA.hp,Heap.get,Ne.symm k1]
 have two:∀q,ob (ψ' 3000)=some q→¬Z' q∧(w.heap.size≤q∨ob (ψ a)=some q):=fun q h2=>by
  obtain ⟨h3,h4⟩:=gd.live 3000 q (by rw [o2];simp) h2
  exact ⟨h3,h4.imp (fun h=>h) (Sd q)⟩
 have one:∀q,ob (ψ a)=some q→¬Z' q:=fun q h2=>(gd.live 1000 q (by rw [o0];simp) (by rw [q0];exact h2)).1
 have Se:∀q,ob (ψ' 3000)=some q→ob (ψ a)=some q→False:=fun q h2 h3=>by
  have:=gd.apart 3000 1000 q (by rw [o2];simp) (by rw [o0];simp) h2 (by rw [q0];exact h3)
  omega
 have fresh:∀q,ob (ψ' 3000)=some q→w.heap.size≤q:=fun q h2=>(two q h2).2.resolve_right (Se q h2)
 have ids:∀i,H i≠none→(h i≠none∧dL i=ψ i)∨N i:=fun i hi=>by
  by_cases k1:i=id+128
  ·exact .inr (k1▸Xd)
  ·rw [Hn i k1] at hi
   exact .inl ⟨hi,sn i k1⟩
 have live:∀i q,i≠id+128→h i≠none→ob (ψ i)=some q→¬Z' q:=fun i q k1 h1 h2 hz=>by
  by_cases k3:i=a
  ·subst k3;exact one q h2 hz
  rcases zf q hz with k | k | k
  ·exact (g.live i q h1 h2).1 k
  ·exact k3 (g.apart i a q h1 Jd h2 (Sd q k))
  ·have:=g.bJ ⟨i,h1,h2⟩;omega
 refine ⟨V,Z',dL,e1,⟨zs,fun q hq=>(zf q hq).imp (fun h=>h) fun k=>k.imp (oh q) fun h=>h,keep,ids,⟨fun i xY cs k => ?_,fun i ok x k => ?_,fun i q h1 h2 => ?_,fun i j q h1 h2 h3 h4 => ?_,gd.jw⟩⟩,?_⟩
 ·have k1:i≠id+128:=fun e=>by rw [e] at k;have k:H (id+128)=some (.box xY cs):=k;rw [H0] at k;cases k
  have k3:i≠a:=fun e=>by rw [e] at k;have k:H a=some (.box xY cs):=k;rw [(Hn a a0).trans ha] at k;cases k
  have pH:h i=some (.box xY cs):=(Hn i k1).symm.trans k
  obtain ⟨gg,vs,f1,f2,f3,f4⟩:=g.box i xY cs pH
  exact ⟨gg,vs,(sn i k1).trans f1,(dr i gg k3 (by rw [pH];simp) (by rw [f1];rfl)).trans f2,f3.move zs sm (fun j hj bc=>(ids j bc).resolve_right hj) (bf i xY cs pH),f4⟩
 ·by_cases k1:i=id+128
  ·subst k1
   have k:H (id+128)=some (.own ok x):=k
   rw [H0] at k;cases k
   rw [s0];exact gd.row 3000 _ _ o2
  have pH:h i=some (.own ok x):=(Hn i k1).symm.trans k
  rw [sn i k1]
  by_cases k3:i=a
  ·subst k3
   rw [ha] at pH;cases pH
   rw [←q0];exact gd.row 1000 _ _ o0
  exact (g.row i ok x pH).kept zs sm fun q hq=>dr i q k3 (by rw [pH];simp) hq
 ·by_cases k1:i=id+128
  ·subst k1
   have h2:ob (dL (id+128))=some q:=h2
   rw [s0] at h2
   exact ⟨(two q h2).1,.inl (Nat.le_trans hB (fresh q h2))⟩
  ·have h1:h i≠none:=by rw [←Hn i k1];exact h1
   rw [sn i k1] at h2
   exact ⟨live i q k1 h1 h2,(g.live i q h1 h2).2⟩
 ·have lt:∀j,j≠id+128→H j≠none→ob (dL j)=some q→q<w.heap.size:=fun j k1 k2 k3=>by
   rw [Hn j k1] at k2
   rw [sn j k1] at k3
   exact g.bJ ⟨j,k2,k3⟩
  by_cases k1:i=id+128<;>by_cases k2:j=id+128
  ·exact k1.trans k2.symm
  ·subst k1
   have h3:ob (dL (id+128))=some q:=h3
   rw [s0] at h3
   have:=fresh q h3
   have:=lt j k2 h2 h4
   omega
  ·subst k2
   have h4:ob (dL (id+128))=some q:=h4
   rw [s0] at h4
   have:=fresh q h4
   have:=lt i k1 h1 h3
   omega
  ·rw [sn i k1] at h3
   rw [sn j k2] at h4
   exact g.apart i j q (by rw [←Hn i k1];exact h1) (by rw [←Hn j k2];exact h2) h3 h4
 ·simp only [av] at hr
  show av Z' dL H w' (.bC (id+128)) V
  simp only [av]
  exact ⟨hr.1,fun _=>(hr.2 (by rw [o2];simp)).trans s0.symm⟩
end Go.Vs
namespace Go.Vs
open Go.Proofs
variable {P:Program}
theorem EM(hc:∀(xs:List dR.T) (ys:List eU.T),oI xs ys=true→Cg P 60 kE ((),(xs,(ys,()))) (((xs,(ys,())),()),(xs,(ys,())))):ia P 60 Et:=by
 intro Z ψ h w B0 O N hh id e vs us g hB bp hN bf lZ sO D8 he
 unfold Et at he
 split at he
 rotate_left
 ·cases he
 rename_i a b
 split at he
 rotate_left
 ·cases he
 rename_i xs ys qT Cd
 split at he
 ·cases he
 rename_i nW
 simp only [Option.some.injEq,Prod.mk.injEq] at he
 obtain ⟨lN,rfl⟩:=he
 have ha:h a=some (.own (.row 48 dR) xs):=bp _ _ (jC qT)
 have hb:h b=some (.own (.row 56 eU) ys):=bp _ _ (jC Cd)
 have Jd:h a≠none:=by rw [ha];simp
 have Ct:h b≠none:=by rw [hb];simp
 simp only [aq,av] at sO
 obtain ⟨v,_,rfl,⟨cs,rfl,v1,_,Lt,⟨_,tU⟩,v2,_,rfl,⟨_,xe⟩,rfl⟩,rfl⟩:=sO
 have tU:=tU Jd
 have xe:=xe Ct
 subst tU xe
 simp only [aB,aK] at D8
 have Xd:N (id+128):=hN 128 (by omega)
 have nR1:N (id+129):=hN 129 (by omega)
 have na:¬N a:=D8.1.1
 have nb:¬N b:=D8.1.2.1
 have a0:a≠id+128:=fun e=>na (e▸Xd)
 have a1:a≠id+129:=fun e=>na (e▸nR1)
 have b0:b≠id+128:=fun e=>nb (e▸Xd)
 have b1:b≠id+129:=fun e=>nb (e▸nR1)
 let ψ0:Nat→Value:=fun i=>if i=1000 then ψ a else if i=1020 then ψ b else ψ i
 have p0:ψ0 1000=ψ a:=if_pos rfl
 have p1:ψ0 1020=ψ b:=(if_neg (by decide)).trans (if_pos rfl)
 have lO:oD kE ((),(xs,(ys,())))=Heap.get [(1000,.own (.row 48 dR) xs),(1020,.own (.row 56 eU) ys)]:=rfl
 have i0:oD kE ((),(xs,(ys,()))) 1000=some (.own (.row 48 dR) xs):=rfl
 have i1:oD kE ((),(xs,(ys,()))) 1020=some (.own (.row 56 eU) ys):=rfl
 have iN:∀i,oD kE ((),(xs,(ys,()))) i≠none→i=1000∨i=1020:=fun i hi=>by
  by_cases e0:i=1000
  ·exact .inl e0
  by_cases e1:i=1020
  ·exact .inr e1
  rw [lO] at hi
  simp [Heap.get,Ne.symm e0,Ne.symm e1] at hi
 have Sd:∀q,Own ψ0 (oD kE ((),(xs,(ys,())))) q→ob (ψ a)=some q∨ob (ψ b)=some q:=fun q ⟨i,h1,h2⟩=>by
  rcases iN i h1 with rfl | rfl
  ·exact .inl (by rw [←p0];exact h2)
  ·exact .inr (by rw [←p1];exact h2)
 have oh:∀q,Own ψ0 (oD kE ((),(xs,(ys,())))) q→Own ψ h q:=fun q hq=>(Sd q hq).elim (fun k=>⟨a,Jd,k⟩) fun k=>⟨b,Ct,k⟩
 have G0:Good Z ψ0 (oD kE ((),(xs,(ys,())))) w w.heap.size (Own ψ0 (oD kE ((),(xs,(ys,()))))):=by
  refine ⟨fun i ty cs k => ?_,fun i ok x k => ?_,fun i q h1 h2=>⟨fun hz => ?_,.inr ⟨i,h1,h2⟩⟩,fun i j q h1 h2 h3 h4 => ?_,g.jw⟩
  ·rcases iN i (by rw [k];simp) with rfl | rfl
   ·rw [i0] at k;cases k
   ·rw [i1] at k;cases k
  ·rcases iN i (by rw [k];simp) with rfl | rfl
   ·rw [i0] at k;cases k;rw [p0];exact g.row a _ _ ha
   ·rw [i1] at k;cases k;rw [p1];exact g.row b _ _ hb
  ·rcases iN i h1 with rfl | rfl
   ·rw [p0] at h2;exact (g.live a q Jd h2).1 hz
   ·rw [p1] at h2;exact (g.live b q Ct h2).1 hz
  ·rcases iN i h1 with rfl | rfl<;>rcases iN j h2 with rfl | rfl
   ·rfl
   ·rw [p0] at h3;rw [p1] at h4;exact absurd (g.apart a b q Jd Ct h3 h4) nW
   ·rw [p1] at h3;rw [p0] at h4;exact absurd (g.apart a b q Jd Ct h4 h3) nW
   ·rfl
 have c0:(ψ a).cells=#[ψ a]∧(ψ a).oneCell'=true:=(g.row a _ _ ha).one
 have c1:(ψ b).cells=#[ψ b]∧(ψ b).oneCell'=true:=(g.row b _ _ hb).one
 have R0:aq Z ψ0 (oD kE ((),(xs,(ys,())))) w (Eb kE ((),(xs,(ys,())))) [.agg cs]:=by
  show aq Z ψ0 (oD kE ((),(xs,(ys,())))) w [.agg [.bC 1000,.bC 1020]] [.agg cs]
  simp only [aq,av]
  exact ⟨.agg cs,[],rfl,⟨cs,rfl,ψ a,[ψ b],Lt,⟨c0,fun _=>p0.symm⟩,ψ b,[],rfl,⟨c1,fun _=>p1.symm⟩,rfl⟩,rfl⟩
 refine (hc xs ys lN Z ψ0 w [.agg cs] G0 R0).mono fun en w' ⟨V,Z',ψ',e1,zs,zf,kp,gd,bI,hr⟩ => ?_
 have q0:ψ' 1000=ψ a:=(bI 1000 (by show 1000∈[1000,1020];simp)).trans p0
 have q1:ψ' 1020=ψ b:=(bI 1020 (by show 1020∈[1000,1020];simp)).trans p1
 have o0:(jE kE (((xs,(ys,())),()),(xs,(ys,())))).get 1000=some (.own (.row 48 dR) xs):=rfl
 have o1:(jE kE (((xs,(ys,())),()),(xs,(ys,())))).get 1020=some (.own (.row 56 eU) ys):=rfl
 have o2:(jE kE (((xs,(ys,())),()),(xs,(ys,())))).get 3000=some (.own (.row 48 dR) xs):=rfl
 have o3:(jE kE (((xs,(ys,())),()),(xs,(ys,())))).get 3001=some (.own (.row 56 eU) ys):=rfl
 generalize (jE kE (((xs,(ys,())),()),(xs,(ys,())))).get=out at *
 have keep:cV ψ h w w':=⟨kp.os,kp.tape,kp.output,kp.size,fun q hq hn=>kp.block q hq fun ho=>hn (oh q ho)⟩
 have sm:cp Z w w':=keep.same g
 have dr:∀i q,i≠a→i≠b→h i≠none→ob (ψ i)=some q→w'.heap[q]? = w.heap[q]? := fun i q k1 k2 h1 h2 =>
  kp.block q (g.bJ ⟨i,h1,h2⟩) fun ho=>(Sd q ho).elim (fun k=>k1 (g.apart i a q h1 Jd h2 k)) fun k=>k2 (g.apart i b q h1 Ct h2 k)
 let κ:Nat→Nat:=fun i=>if i=id+128 then 3000 else if i=id+129 then 3001 else if i=a then 1000 else 1020
 let Rl:Nat→Prop:=fun i=>i=id+128∨i=id+129∨i=a∨i=b
 let dL:Nat→Value:=fun i=>if i=id+128 then ψ' 3000 else if i=id+129 then ψ' 3001 else ψ i
 let H:Hp:=(bA.new (.agg [.bC (id+128),.bC (id+129)]) [(id+128,.own (.row 48 dR) xs),(id+129,.own (.row 56 eU) ys)]).hp h
 have s0:dL (id+128)=ψ' 3000:=if_pos rfl
 have s1:dL (id+129)=ψ' 3001:=(if_neg (by omega)).trans (if_pos rfl)
 have sn:∀i,i≠id+128→i≠id+129→dL i=ψ i:=fun i k1 k2=>(if_neg k1).trans (if_neg k2)
 have H0:H (id+128)=some (.own (.row 48 dR) xs):=by show (bA.hp h _) _=_;simp [bA.hp,Heap.get]
 have H1:H (id+129)=some (.own (.row 56 eU) ys):=by show (bA.hp h _) _=_;simp [bA.hp,Heap.get]
 have Hn:∀i,i≠id+128→i≠id+129→H i=h i:=fun i k1 k2=>by show (bA.hp h _) _=_;simp [bA.hp,Heap.get,Ne.symm k1,Ne.symm k2]
 have Ha:H a=some (.own (.row 48 dR) xs):=(Hn a a0 a1).trans ha
 have Hb:H b=some (.own (.row 56 eU) ys):=(Hn b b0 b1).trans hb
 have kap:∀i,Rl i→out (κ i)≠none∧ψ' (κ i)=dL i:=fun i hi=>by
  rcases hi with rfl | rfl | rfl | rfl
  ·have:κ (id+128)=3000:=if_pos rfl
   rw [this,o2,s0];exact ⟨by simp,rfl⟩
  ·have:κ (id+129)=3001:=(if_neg (by omega)).trans (if_pos rfl)
   rw [this,o3,s1];exact ⟨by simp,rfl⟩
  ·have:κ i=1000:=(if_neg a0).trans ((if_neg a1).trans (if_pos rfl))
   rw [this,o0,q0,sn i a0 a1];exact ⟨by simp,rfl⟩
  ·have:κ i=1020:=(if_neg b0).trans ((if_neg b1).trans (if_neg (fun k=>nW k.symm)))
   rw [this,o1,q1,sn i b0 b1];exact ⟨by simp,rfl⟩
 have aew:∀i j,Rl i→Rl j→κ i=κ j→i=j:=fun i j hi hj hk=>by
  have v1:κ (id+128)=3000:=if_pos rfl
  have v2:κ (id+129)=3001:=(if_neg (by omega)).trans (if_pos rfl)
  have v3:κ a=1000:=(if_neg a0).trans ((if_neg a1).trans (if_pos rfl))
  have v4:κ b=1020:=(if_neg b0).trans ((if_neg b1).trans (if_neg (fun k=>nW k.symm)))
  rcases hi with rfl | rfl | rfl | rfl<;>rcases hj with rfl | rfl | rfl | rfl<;>first | rfl | (rw [v1] at hk;first | (rw [v2] at hk;cases hk) | (rw [v3] at hk;cases hk) | (rw [v4] at hk;cases hk)) | (rw [v2] at hk;first | (rw [v1] at hk;cases hk) | (rw [v3] at hk;cases hk) | (rw [v4] at hk;cases hk)) | (rw [v3,v4] at hk;cases hk) | (rw [v4,v3] at hk;cases hk)
 have back:∀i q,Rl i→ob (dL i)=some q→¬Z' q∧(w.heap.size≤q∨ob (ψ a)=some q∨ob (ψ b)=some q):=fun i q hi h2=>by
  obtain ⟨k1,k2⟩:=kap i hi
  rw [←k2] at h2
  obtain ⟨h3,h4⟩:=gd.live (κ i) q k1 h2
  exact ⟨h3,h4.imp (fun h=>h) (Sd q)⟩
 have rest:∀i,¬Rl i→i≠id+128∧i≠id+129∧i≠a∧i≠b:=fun i hi=>⟨fun k=>hi (.inl k),fun k=>hi (.inr (.inl k)),fun k=>hi (.inr (.inr (.inl k))),fun k=>hi (.inr (.inr (.inr k)))⟩
 have mixed:∀i j q,Rl i→¬Rl j→h j≠none→ob (dL i)=some q→ob (ψ j)=some q→False:=fun i j q hi hj h2 h3 h4=>by
  obtain ⟨_,_,k3,k4⟩:=rest j hj
  rcases (back i q hi h3).2 with k | k | k
  ·have:=g.bJ ⟨j,h2,h4⟩;omega
  ·exact k3 (g.apart j a q h2 Jd h4 k)
  ·exact k4 (g.apart j b q h2 Ct h4 k)
 have ids:∀i,H i≠none→(h i≠none∧dL i=ψ i)∨N i:=fun i hi=>by
  by_cases k1:i=id+128
  ·exact .inr (k1▸Xd)
  by_cases k2:i=id+129
  ·exact .inr (k2▸nR1)
  ·rw [Hn i k1 k2] at hi
   exact .inl ⟨hi,sn i k1 k2⟩
 refine ⟨V,Z',dL,e1,⟨zs,fun q hq=>(zf q hq).imp (fun h=>h) fun k=>k.imp (oh q) fun h=>h,keep,ids,⟨fun i ty cs k => ?_,fun i ok x k => ?_,fun i q h1 h2 => ?_,fun i j q h1 h2 h3 h4 => ?_,gd.jw⟩⟩,?_⟩
 ·have k1:i≠id+128:=fun e=>by rw [e] at k;have k:H (id+128)=some (.box ty cs):=k;rw [H0] at k;cases k
  have k2:i≠id+129:=fun e=>by rw [e] at k;have k:H (id+129)=some (.box ty cs):=k;rw [H1] at k;cases k
  have k3:i≠a:=fun e=>by rw [e] at k;have k:H a=some (.box ty cs):=k;rw [Ha] at k;cases k
  have k4:i≠b:=fun e=>by rw [e] at k;have k:H b=some (.box ty cs):=k;rw [Hb] at k;cases k
  have pH:h i=some (.box ty cs):=(Hn i k1 k2).symm.trans k
  obtain ⟨gg,vs,f1,f2,f3,f4⟩:=g.box i ty cs pH
  exact ⟨gg,vs,(sn i k1 k2).trans f1,(dr i gg k3 k4 (by rw [pH];simp) (by rw [f1];rfl)).trans f2,f3.move zs sm (fun j hj bc=>(ids j bc).resolve_right hj) (bf i ty cs pH),f4⟩
 ·by_cases k1:i=id+128
  ·subst k1
   have k:H (id+128)=some (.own ok x):=k
   rw [H0] at k;cases k
   rw [s0];exact gd.row 3000 _ _ o2
  by_cases k2:i=id+129
  ·subst k2
   have k:H (id+129)=some (.own ok x):=k
   rw [H1] at k;cases k
   rw [s1];exact gd.row 3001 _ _ o3
  have pH:h i=some (.own ok x):=(Hn i k1 k2).symm.trans k
  rw [sn i k1 k2]
  by_cases k3:i=a
  ·subst k3
   rw [ha] at pH;cases pH
   rw [←q0];exact gd.row 1000 _ _ o0
  by_cases k4:i=b
  ·subst k4
   rw [hb] at pH;cases pH
   rw [←q1];exact gd.row 1020 _ _ o1
  exact (g.row i ok x pH).kept zs sm fun q hq=>dr i q k3 k4 (by rw [pH];simp) hq
 ·by_cases h4:Rl i
  ·obtain ⟨k1,k2⟩:=back i q h4 h2
   refine ⟨k1,?_⟩
   rcases k2 with k | k | k
   ·exact .inl (Nat.le_trans hB k)
   ·exact (g.live a q Jd k).2
   ·exact (g.live b q Ct k).2
  ·obtain ⟨r1,r2,r3,r4⟩:=rest i h4
   have h1:h i≠none:=by rw [←Hn i r1 r2];exact h1
   rw [sn i r1 r2] at h2
   refine ⟨fun hz => ?_,(g.live i q h1 h2).2⟩
   rcases zf q hz with k | k | k
   ·exact (g.live i q h1 h2).1 k
   ·rcases Sd q k with k | k
    ·exact r3 (g.apart i a q h1 Jd h2 k)
    ·exact r4 (g.apart i b q h1 Ct h2 k)
   ·have:=g.bJ ⟨i,h1,h2⟩;omega
 ·by_cases hi:Rl i<;>by_cases hj:Rl j
  ·obtain ⟨k1,k2⟩:=kap i hi
   obtain ⟨k3,k4⟩:=kap j hj
   rw [←k2] at h3
   rw [←k4] at h4
   exact aew i j hi hj (gd.apart _ _ q k1 k3 h3 h4)
  ·obtain ⟨r1,r2,r3,r4⟩:=rest j hj
   rw [sn j r1 r2] at h4
   exact (mixed i j q hi hj (by rw [←Hn j r1 r2];exact h2) h3 h4).elim
  ·obtain ⟨r1,r2,r3,r4⟩:=rest i hi
   rw [sn i r1 r2] at h3
   exact (mixed j i q hj hi (by rw [←Hn i r1 r2];exact h1) h4 h3).elim
  ·obtain ⟨r1,r2,_,_⟩:=rest i hi
   obtain ⟨t1,t2,_,_⟩:=rest j hj
   rw [sn i r1 r2] at h3
   rw [sn j t1 t2] at h4
   exact g.apart i j q (by rw [←Hn i r1 r2];exact h1) (by rw [←Hn j t1 t2];exact h2) h3 h4
 ·have hr:av Z' ψ' out w' (.agg [.bC 3000,.bC 3001]) V:=hr
  simp only [av,aq] at hr
  obtain ⟨vs,rfl,u1,_,sO,⟨d1,d2⟩,u2,_,rfl,⟨d3,d4⟩,rfl⟩:=hr
  show av Z' dL H w' (.agg [.bC (id+128),.bC (id+129)]) (.agg vs)
  simp only [av,aq]
  exact ⟨vs,rfl,u1,[u2],sO,⟨d1,fun _=>(d2 (by rw [o2];simp)).trans s0.symm⟩,u2,[],rfl,⟨d3,fun _=>(d4 (by rw [o3];simp)).trans s1.symm⟩,rfl⟩
end Go.Vs
namespace Go.Vs
open Go.Proofs
abbrev Sf:(f:FuncId)→(g:aL)→Option (g.A→Option g.B):=fun _ _=>none
section
variable (SG:FuncId→Option aL) (AN:FuncId→Nat→Option Shape)
noncomputable abbrev Sh:FT:=Fix Tryz.prog Eqs SG AN Sf
noncomputable abbrev LXG(f:FuncId)(g:aL)(fn:Func):JT g:=Lp Tryz.prog Eqs SG AN Sf f g fn
end
theorem EN{SG:FuncId→Option aL}{AN:FuncId→Nat→Option Shape}{f:FuncId}{g:aL}{fn:Func}{x:g.A}{y:g.B}(hb:body Tryz.prog (f % 1000)=some (fn,fn.body.getD .skip))(hc:(decide (g.ps.length≤fn.ntmps)&&decide (g.bs.length≤8))=true)
  (h:PB SG AN f g fn (Sh SG AN) (LXG SG AN f g fn) x=some y):Sh SG AN f g x=some y:=Es rfl hb hc h
theorem PC{SG:FuncId→Option aL}{AN:FuncId→Nat→Option Shape}{f j:Nat}{g:aL}{fn:Func}{sh:Shape}{x:sh.T}{y:g.B}(hs:(match aX Tryz.prog (f % 1000) j with | .inLoop _::_=>true | _=>false)=true)
  (h:Vz SG AN f j g fn sh (Sh SG AN) (LXG SG AN f g fn) x=some y):LXG SG AN f g fn sh (aX Tryz.prog (f % 1000) j) x=some y:=by
 unfold Vz at h
 generalize aX Tryz.prog (f % 1000) j=s at hs h ⊢
 split at hs
 ·exact IZ h
 ·cases hs
theorem PD{α β:Type}{o:Option α}{f:α→Option β}{a:α}{r:Option β}(h:o=some a)(k:f a=r):o.bind f=r:=by rw [h];exact k
theorem Be{α:Type}{c:Bool}{x y r:α}(h:c=true)(k:x=r):cond c x y=r:=by subst h;exact k
theorem Si{α:Type}{c:Bool}{x y r:α}(h:c=false)(k:y=r):cond c x y=r:=by subst h;exact k
theorem PE{R:Type}{f:Nat→Option R}{r:R}(h0:f 0=some r)(h1:f 1=some r):rK 2 f=some r :=
 mi (by omega) fun j hj=>by
  rcases j with _ | _ | j
  ·exact h0
  ·exact h1
  ·omega
theorem Zu(xs:List aj)(h:bq 0 xs.length=true):Sh T1 Zp 500079 Sb ((),(xs,()))=some ((xs,()),(xs,())):=by
 refine EN (fn:=Tryz.f79) (by kernel_rfl) (by kernel_rfl) ((Zq _ _ _).trans ?_)
 cases xs with
 | nil=>exact Be rfl (PE rfl rfl)
 | cons x r=>exact Si rfl (Be h rfl)
theorem Zv(xs:List au)(h:bq 0 xs.length=true):Sh T1 Zp 500080 Sc ((),(xs,()))=some ((xs,()),(xs,())):=by
 refine EN (fn:=Tryz.f80) (by kernel_rfl) (by kernel_rfl) ((Zr _ _ _).trans ?_)
 cases xs with
 | nil=>exact Be rfl (PE rfl rfl)
 | cons x r=>exact Si rfl (Be h rfl)
theorem KC{f:FuncId}{g:aL}(h:T1 f=some g):(f,g)∈Vw:=by
 unfold T1 at h
 obtain ⟨p,hp,rfl⟩:=Option.map_eq_some_iff.1 h
 have h1:=List.mem_of_find?_eq_some hp
 have h2:=List.find?_some hp
 have:p.1=f:=by simpa using h2
 subst this
 exact h1
theorem KD{f:FuncId}{g:aL}(h:Rk f=some g):(f,g)∈Vx:=by
 unfold Rk at h
 obtain ⟨p,hp,rfl⟩:=Option.map_eq_some_iff.1 h
 have h1:=List.mem_of_find?_eq_some hp
 have h2:=List.find?_some hp
 have:p.1=f:=by simpa using h2
 subst this
 exact h1
noncomputable def EO(l:List (Nat×aL)):Bool:=l.all fun p=>match Tryz.prog.funcs[p.1 % 1000]? with | some fn => !(fn.name== "runtime.NumGoroutine")&&fn.body.isSome | none=>false
theorem uL{l:List (Nat×aL)}(key:EO l=true){f:FuncId}{g:aL}(hm:(f,g)∈l):iS Tryz.prog (f % 1000):=by
 have:=List.all_eq_true.1 key _ hm
 simp only at this
 split at this
 ·rename_i fn hf
  simp only [Bool.and_eq_true,Bool.not_eq_true'] at this
  exact ⟨fn,hf,this.1,this.2⟩
 ·cases this
theorem Zw{f:FuncId}{g:aL}{x:g.A}{y:g.B}(hs:T1 f=some g)(h:Sh T1 Zp f g x=some y):Cg Tryz.prog f g x y :=
 um (fun f g u hf hu=>by
  have hm:=KC hf
  simp only [Vw,List.mem_cons,List.not_mem_nil,or_false,Prod.mk.injEq] at hm
  rcases hm with ⟨_,rfl⟩ | ⟨_,rfl⟩<;>cases hu) wj (fun f g hf=>uL (by kernel_rfl) (KC hf)) nG (fun f g u x y _ hu _=>by cases hu) hs h
theorem Sj:ia Tryz.prog 79 (rj 48 dR):=sw rfl fun xs h=>by
 have:=Zw (by kernel_rfl) (Zu xs h)
 exact this
theorem Sk:ia Tryz.prog 80 (rj 56 eU):=sw rfl fun xs h=>by
 have:=Zw (by kernel_rfl) (Zv xs h)
 exact this
theorem Zx(l:List ae)(hl:l.length≤50000000):Sh Rk Vy 81 yi ((l,()),())=some ((l,()),()):=by
 refine EN (fn:=Tryz.f81) (by kernel_rfl) (by kernel_rfl) ((Zs _ _ _).trans ?_)
 cases l with
 | nil=>exact Be rfl (PE rfl rfl)
 | cons x r=>exact Si rfl (Be (decide_eq_true (show 0+(x::r).length≤1073741824 by omega)) rfl)
theorem PF{i n:Nat}(h:i<n)(hn:n≤50000000):IntKind.wrap .i64 ((i:Int)+1)=((i+1:Nat):Int):=by
 unfold IntKind.wrap
 simp only [IntKind.bits,IntKind.signed]
 simp
 split<;>omega
theorem Zy(xs:List aj)(ys:List au)(h:oI xs ys=true):Sh Rk Vy 500060 kE ((),(xs,(ys,())))=some (((xs,(ys,())),()),(xs,(ys,()))):=by
 unfold oI at h
 simp only [Bool.and_eq_true,decide_eq_true_eq,List.all_eq_true] at h
 obtain ⟨hx,hy,hr⟩:=h
 refine EN (fn:=Tryz.f60) (by kernel_rfl) (by kernel_rfl) ((Zt _ _ _).trans ?_)
 refine Be (decide_eq_true (show 0+xs.length≤1073741824 by omega)) (Be (decide_eq_true (show 0+ys.length≤1073741824 by omega)) ?_)
 have loop:∀(n i:Nat) (out:List aj),i+n=xs.length→out=xs→LXG Rk Vy 500060 kE Tryz.f60 G2 (aX Tryz.prog 60 0) ((((xs.length:Nat):Int),((i:Int),())),(((([]:List aj),(([]:List au),())),((out,(ys,())),())),(xs,(ys,()))))=some (((xs,(ys,())),()),(xs,(ys,()))):=by
  intro n
  induction n with
  | zero =>
   intro i out hi ho
   subst ho
   refine PC (j:=0) (by kernel_rfl) ((KB _ _ _).trans ?_)
   exact Si (decide_eq_false (show ¬((i:Int)<((out.length:Nat):Int)) by omega)) rfl
  | succ n ih =>
   intro i out hi ho
   have aE:i<xs.length:=by omega
   have Pz:out[i]? = some xs[i]:=by rw [ho];exact List.getElem?_eq_getElem aE
   have hol:out.length=xs.length:=by rw [ho]
   have c1:(decide ((0:Int)≤(i:Int))&&decide ((i:Int)<((out.length:Nat):Int)))=true:=by
    rw [decide_eq_true (show (0:Int)≤(i:Int) by omega),decide_eq_true (show (i:Int)<((out.length:Nat):Int) by omega)];rfl
   refine PC (j:=0) (by kernel_rfl) ((KB _ _ _).trans ?_)
   refine Be (decide_eq_true (show ((i:Int)<((xs.length:Nat):Int)) by omega)) (Be c1 (PD Pz ?_))
   refine PD (Zx xs[i].2.1 (hr _ (List.getElem_mem aE))) ?_
   refine Be c1 (PD Pz ?_)
   have hs:out.set i (xs[i].1,(xs[i].2.1,xs[i].2.2))=xs:=by
    subst ho;exact List.set_getElem_self aE
   have:=ih (i+1) (out.set i (xs[i].1,(xs[i].2.1,xs[i].2.2))) (by omega) hs
   rw [←PF aE hx] at this
   exact this
 exact loop xs.length 0 xs (by omega) rfl
theorem aex{f:FuncId}{g:aL}{x:g.A}{y:g.B}(hs:Rk f=some g)(h:Sh Rk Vy f g x=some y):Cg Tryz.prog f g x y :=
 um (fun f g u hf hu=>by
  have hm:=KD hf
  simp only [Vx,List.mem_cons,List.not_mem_nil,or_false,Prod.mk.injEq] at hm
  rcases hm with ⟨_,rfl⟩ | ⟨_,rfl⟩ | ⟨rfl,rfl⟩ | ⟨rfl,rfl⟩
  ·cases hu
  ·cases hu
  ·cases hu;intro Z ψ h w B0 O N hh id e vs us;exact Sj
  ·cases hu;intro Z ψ h w B0 O N hh id e vs us;exact Sk) wj (fun f g hf=>uL (by kernel_rfl) (KD hf)) nG (fun f g u x y _ hu _=>by cases hu) hs h
theorem Ml:ia Tryz.prog 60 Et:=EM fun xs ys h=>by
 have:=aex (by kernel_rfl) (Zy xs ys h)
 exact this
end Go.Vs
namespace Go.Vs
open Go.Proofs
theorem KE:∀f g u,Sg f=some g→g.x=some u→ia Tryz.prog (f % 1000) u:=fun f g u h hu=>by
 have hm:=PA h
 have key:(sgs.all fun p=>p.2.x.isNone || (p.1==108 || (p.1==130 || (p.1==156 || (p.1==109 || (p.1==120 || (p.1==158 || p.1==500060)))))))=true:=by kernel_rfl
 have:=List.all_eq_true.1 key _ hm
 simp only [hu,Option.isNone_some,Bool.false_or,Bool.or_eq_true,beq_iff_eq] at this
 rcases this with rfl | rfl | rfl | rfl | rfl | rfl | rfl
 ·have e:Sg 108=some TM:=by kernel_rfl
  rw [e] at h;cases h;cases hu;intro Z ψ h w B0 O N hh id e vs us;exact tj (k:=dR) Vp
 ·have e:Sg 130=some TP:=by kernel_rfl
  rw [e] at h;cases h;cases hu;intro Z ψ h w B0 O N hh id e vs us;exact tj (k:=eU) Vt
 ·have e:Sg 156=some TQ:=by kernel_rfl
  rw [e] at h;cases h;cases hu;intro Z ψ h w B0 O N hh id e vs us;exact tj (k:=di) Vv
 ·have e:Sg 109=some TN:=by kernel_rfl
  rw [e] at h;cases h;cases hu;intro Z ψ h w B0 O N hh id e vs us;exact Bc (k:=dR) Vr
 ·have e:Sg 120=some TO:=by kernel_rfl
  rw [e] at h;cases h;cases hu;intro Z ψ h w B0 O N hh id e vs us;exact Bc (k:=eU) Vu
 ·have e:Sg 158=some TR:=by kernel_rfl
  rw [e] at h;cases h;cases hu;intro Z ψ h w B0 O N hh id e vs us;exact GZ (k:=bg) R9
 ·have e:Sg 500060=some GK:=by kernel_rfl
  rw [e] at h;cases h;cases hu;intro Z ψ h w B0 O N hh id e vs us;exact Ml
end Go.Vs
