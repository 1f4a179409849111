/- slices.Insert, slices.Delete, slices.Grow and slices.Clone at rows of one's own; what is asked of the program as a whole. -/
import Derived.Test.YtpkfpbpbkabkdaaGreatEngineA
import Derived.Laws.CopyRow
import Derived.Lib.AppendZerosOnto
import Derived.Lib.Overlaps
import Derived.Test.YtpkfpbpbkabkdaaGreatProg
import Derived.WalkKit
import Derived.Lib.Walk
import Derived.Shelf.Spec.SlicesInsert
import Derived.Laws.NewBlocks
import Derived.Test.YtpkfpbpbkabkdaaGreatEngineC
import Derived.Test.YtpkfpbpbkabkdaaGreatEngineB
import Derived.Test.YtpkfpbpbkabkdaaGreatEngineD
import Derived.Laws.StructEq
import Derived.KernelRfl
namespace Go.Vs
variable {P:Program} {w:World}
theorem b7(w:World)(dT sT ty elem:TypeId)(sz g o We ae1:Nat)(a:Addr)(Wg ae2:Nat)(cur:Array Value)(t:TypeId)(cs:List Value)
  (hu:P.underlying dT=some (.slice elem)) (hs:(P.info? elem).map (·.size)=some sz)
  (hg:w.heap[g]? = some (.cells cur t (0,0))) (hn:cs.length=Nat.min Wg We*sz)
  (vG:∀(j:Nat) v,cs[j]? = some v→w.cell? (a.add j)=some v) (Sx:o+cs.length≤cur.size) (h1:∀v∈cs,v.oneCell'=true) :
  (Builtin.copy_ #[dT,sT] ty #[.slice (some ⟨g,o,none⟩) We ae1,.slice (some a) Wg ae2]).run P w =
   .ok (goInt (Nat.min Wg We)) (w.setRow g (cur.toList.take o++cs++cur.toList.drop (o+cs.length)).toArray):=by
 have hl:=run_loadCells_list (P:=P) w a cs vG
 have tW:=run_storeCells_at P g o t cs 0 cur w hg (by simpa using Sx) h1
 cases hq:P.info? elem with
 |none=>simp[hq]at hs
 |some i =>
  have hi:i.size=sz:=by simpa[hq] using hs
  simp only[Nat.add_zero]at tW
  simp[Builtin.copy_,run_underlying hu,Builtin.lenOf,Builtin.firstCells,sizeOf,typeInfo,hq,hi,←hn,hl,tW]
theorem nI(w:World)(t ty e:TypeId)(sz g n c:Nat)(a:Addr)(m mc:Nat)(cur:Array Value)(news:List Value)(ht:P.underlying t=some (.slice e))(hs:(P.info? e).map (·.size)=some sz)
  (hg:w.heap[g]? = some (.cells cur e (0,0))) (hl:news.length=m*sz) (vG:∀(j:Nat) v,news[j]? = some v→w.cell? (a.add j)=some v) (h1:∀v∈news,v.oneCell'=true) (iv:n+m≤c) (iQ:c*sz≤cur.size) :
  (Builtin.append_ #[t,t] ty #[.slice (some ⟨g,0,none⟩) n c,.slice (some a) m mc]).run P w=.ok (.slice (some ⟨g,0,none⟩) (n+m) c) (w.setRow g (cur.toList.take (n*sz)++news++cur.toList.drop (n*sz+news.length)).toArray):=by
 have hle:n*sz+m*sz≤c*sz:=by rw[←Nat.add_mul];exact Nat.mul_le_mul_right _ iv
 have ZX:=run_loadCells_list (P:=P) w a news vG
 have tW:=run_storeCells_at P g (n*sz) e news 0 cur w hg (by omega) h1
 simp only[Nat.add_zero]at tW
 have ha:(⟨g,0,none⟩:Addr).add (n*sz)=⟨g,n*sz,none⟩:=by rw[cg,Nat.zero_add]
 cases hq:P.info? e with
 |none=>simp[hq]at hs
 |some i =>
  have hi:i.size=sz:=by simpa[hq] using hs
  simp[Builtin.append_,run_underlying ht,Builtin.lenOf,Builtin.firstCells,sizeOf,typeInfo,hq,hi,←hl,ZX,iv,ha,tW]
theorem qB(w:World)(t ty e:TypeId)(sz g o k c:Nat)(cur:Array Value)(i:TypeInfo)(z:Value)(ht:P.underlying t=some (.slice e))(hi:P.info? e=some i)(hz:i.zero=some z)(vH:z.cells.size=sz)(h1:∀v∈z.cells.toList,v.oneCell'=true)
  (hg:w.heap[g]? = some (.cells cur e (0,0))) (hk:0<k) (Sx:o+k*sz≤cur.size) :
  (Builtin.clear_ #[t] ty #[.slice (some ⟨g,o,none⟩) k c]).run P w=.ok (.tuple #[]) (w.setRow g (cur.toList.take o++(Builtin.zeroCells z.cells k).toList++cur.toList.drop (o+(Builtin.zeroCells z.cells k).toList.length)).toArray):=by
 have hl:(Builtin.zeroCells z.cells k).toList.length=k*sz:=by simp[Builtin.zeroCells,vH]
 have D8:∀v∈(Builtin.zeroCells z.cells k).toList,v.oneCell'=true:=fun v hv=>by
  simp only[Builtin.zeroCells,Array.toList_map,List.mem_map]at hv
  obtain⟨q,hq,rfl⟩:=hv
  have hq':q<k*z.cells.size:=by simpa using hq
  have hp:0<z.cells.size:=by
   rcases Nat.eq_zero_or_pos z.cells.size with h|h
   ·rw[h,Nat.mul_zero]at hq';omega
   ·exact h
  have aF:q%z.cells.size<z.cells.size:=Nat.mod_lt _ hp
  rw[getElem!_pos z.cells _ aF]
  exact h1 _ (by simp)
 have tW:=run_storeCells_at P g o e (Builtin.zeroCells z.cells k).toList 0 cur w hg (by omega) D8
 simp only[Nat.add_zero]at tW
 obtain⟨m,rfl⟩:∃m,k=m+1:=⟨k-1,by omega⟩
 simp[Builtin.clear_,run_underlying ht,zeroValue,typeInfo,hi,hz,tW]
end Go.Vs
set_option linter.unusedVariables false
set_option linter.unusedSimpArgs false
namespace Go.Vs
open Go.Proofs Go.RowKit
def EJ(P:Program)(f:FuncId)(e:TypeId)(size:Nat):Prop :=
 ∀(w:World) (v u:Value) (n i:Nat) (xs ys:List Value),dx w e size v n xs→dx w e size u 1 ys→i≤n→n+1≤fB→(∀b,ob v=some b→ob u≠some b) →
  (∀q∈xs,q.oneCell'=true)→(∀q∈ys,q.oneCell'=true) →
  Calls P f #[v,.int .i64 i,u] w fun en w'=>∃v',en=.returned v'∧dx w' e size v' (n+1) (xs.take (i*size)++(ys++xs.drop (i*size)))∧w.grownBy w' (ob v)∧(ob v'=ob v∨∀b,ob v'=some b→w.heap.size≤b)
set_option maxHeartbeats 4000000 in
set_option maxRecDepth 100000 in
theorem Jt(w:World)(v u:Value)(n:Nat)(xs ys:List Value)(hv:dx w 52 5 v n xs)(hu:dx w 52 5 u 1 ys)(hm:n+1≤fB)(h1:∀q∈ys,q.oneCell'=true) :
  Calls Tryz.prog 176 #[v,.int .i64 n,u] w fun en w'=>∃v',en=.returned v'∧dx w' 52 5 v' (n+1) (xs++ys)∧w.grownBy w' (ob v)∧(ob v'=ob v∨∀b,ob v'=some b→w.heap.size≤b):=by
 have ht:Tryz.prog.underlying 38=some (.slice 52):=by kernel_rfl
 obtain⟨i0,z0,he⟩:=cv (P:=Tryz.prog) (e:=52) (k:=.pair (.pair (.int .i64) (.int .i64)) (.pair (.sl (.pair (.pair (.int .i64) (.int .i64)) (.int .i64))) (.pair .str (.int .i64)))) (by kernel_rfl)
 have vG:LJ w 5 u 1 ys:=by
  refine⟨hu.1,h1,.inr ?_⟩
  rcases hu.2 with⟨h0,_⟩|⟨g,cap,cur,rfl,_,hg,_,_,hc,iw⟩
  ·cases h0
  ·refine⟨_,_,rfl,fun j q hj=>?_⟩
   rw[cg,Nat.zero_add]
   rw[←iw,List.getElem?_take]at hj
   split at hj
   ·simp[World.cell?,hg];simpa using hj
   ·cases hj
 obtain⟨v',w',dk,h4,h5,h6⟩:=dD (P:=Tryz.prog) (ty:=38) ht he hv vG hm
 obtain⟨A,c,rfl⟩:=hv.slice
 have Cd:n≤c:=by
  rcases hv.2 with⟨h0,A,e⟩|⟨g,cap,cur,e,hc,h2,h3,_⟩
  ·omega
  ·cases e;exact h3
 obtain⟨B,cu,rfl⟩:=hu.slice
 have ZY:n≤1073741824:=by unfold fB at hm;omega
 go_enter Tryz.func176,Tryz.ntmps176
 go_wp2_with (at_builtin;refine Lib.wpList_append_run _ rfl _ _ _ _ rfl _ _ rfl rfl _ _ dk ?_)
 all_goals go_ret
 all_goals first|exact⟨_,rfl,h4,h5,h6⟩|(subst_vars;exact⟨_,rfl,h4,h5,h6⟩)
theorem A9{α:Type}{cur xs ys cur1 cur3:List α}{i n sz:Nat}(iw:cur.take (n*sz)=xs)(hl:(n+1)*sz≤cur.length)(hy:ys.length=sz)(hi:i≤n)
  (h1:cur1=cur.take ((i+1)*sz)++xs.drop (i*sz)++cur.drop ((i+1)*sz+(xs.drop (i*sz)).length)) (h3:cur3=cur1.take (i*sz)++ys++cur1.drop (i*sz+ys.length)) :
  cur3.take ((n+1)*sz)=xs.take (i*sz)++(ys++xs.drop (i*sz)):=by
 have B6:i*sz≤n*sz:=Nat.mul_le_mul_right _ hi
 rw[Nat.add_mul,Nat.one_mul]at hl h1 ⊢
 have wm:xs.length=n*sz:=by rw[←iw,List.length_take];omega
 generalize i*sz=a at *
 generalize n*sz=b at *
 have e1:cur1.take a=xs.take a:=by
  rw[h1,List.append_assoc,List.take_append_of_le_length (by rw[List.length_take];omega),List.take_take,←iw,List.take_take]
  congr 1;omega
 have e2:cur1.drop (a+ys.length)=xs.drop a++cur.drop (a+1*sz+(xs.drop a).length):=by
  rw[h1,List.append_assoc,Nat.one_mul,hy]
  exact List.drop_left' (by rw[List.length_take];omega)
 rw[h3,e1,e2,←List.append_assoc,←List.append_assoc]
 rw[List.take_left' (by simp only[List.length_append,List.length_take,List.length_drop];omega)]
theorem fT{w:World}{e size:Nat}{g n:Nat}{cur:Array Value}{xs:List Value}(hg:w.heap[g]? = some (.cells cur e (0,0)))(iw:cur.toList.take (n*size)=xs)(o:Nat):∀(j:Nat) q,(xs.drop o)[j]? = some q→w.cell? ((⟨g,o,none⟩:Addr).add j)=some q:=fun j q hj=>by
 rw[cg]
 rw[List.getElem?_drop,←iw,List.getElem?_take]at hj
 split at hj
 ·simp[World.cell?,hg];simpa using hj
 ·cases hj
set_option maxHeartbeats 4000000 in
set_option maxRecDepth 100000 in
theorem EK(w:World)(g c g2 c2 n i:Nat)(xs ys:List Value)(cur cX:Array Value)(hg:w.heap[g]? = some (.cells cur 52 (0,0)))(iQ:cur.size=c*5)(iw:cur.toList.take (n*5)=xs)(wm:xs.length=n*5)
  (sG:w.heap[g2]? = some (.cells cX 52 (0,0))) (pN:cX.size=c2*5) (tJ:0<c2) (ki:cX.toList.take (1*5)=ys) (Dp:ys.length=1*5) (bq:g2≠g) (hi:i<n) (iv:n+1≤c) (hc:c≤maxLen)
  (h1:∀q∈xs,q.oneCell'=true) (h2:∀q∈ys,q.oneCell'=true) :
  Calls Tryz.prog 176 #[.slice (some ⟨g,0,none⟩) n c,.int .i64 i,.slice (some ⟨g2,0,none⟩) 1 c2] w fun en w'=>en=.returned (.slice (some ⟨g,0,none⟩) (n+1) c) ∧
   ∃c6:Array Value,w'.heap[g]? = some (.cells c6 52 (0,0))∧c6.size=cur.size∧c6.toList.take ((n+1)*5)=xs.take (i*5)++(ys++xs.drop (i*5))∧w.grownBy w' (some g):=by
 have ht:Tryz.prog.underlying 38=some (.slice 52):=by kernel_rfl
 have hz:(Tryz.prog.info? 52).map (·.size)=some 5:=by kernel_rfl
 have vH:∀w,(Go.sizeOf 52).run Tryz.prog w=.ok 5 w:=fun w=>by
  cases hq:Tryz.prog.info? 52 with
  |none=>rw[hq]at hz;cases hz
  |some i=>rw[hq]at hz;simp at hz;simp[sizeOf,typeInfo,hq,hz]
 have R5:∀a2 lb cb,(callFunc 209 #[.slice (some ⟨g2,0,none⟩) 1 c2,.slice (some ⟨g,a2,none⟩) lb cb]).run Tryz.prog w=.ok (.value (.bool false)) w:=fun a2 lb cb=>by
  rw[run_callFunc_extern Tryz.func209 (by kernel_rfl) (by kernel_rfl) (by kernel_rfl) (e:=Extern.SlicesOverlaps.overlaps #[38,38] #[4]) (by kernel_rfl),
   Lib.run_overlaps_apart w 38 4 52 ht 5 vH ⟨g2,0,none⟩ ⟨g,a2,none⟩ 1 c2 lb cb bq 52 52 cX.size cur.size (by simp[World.shape?,sG]) (by simp[World.shape?,hg]) (by omega) (by simp[World.frozen?,sG]) (by simp[World.frozen?,sG])]
  rfl
 have Ch:=fT (size:=5) (n:=1) sG ki 0
 have qY:=fT (size:=5) (n:=n) hg iw (i*5)
 have h63:c≤9223372036854775807:=by unfold maxLen at hc;omega
 have hn5:n*5≤cur.size:=by omega
 obtain⟨cur1,eR⟩:∃cur1:Array Value,cur1=(cur.toList.take ((i+1)*5)++xs.drop (i*5)++cur.toList.drop ((i+1)*5+(xs.drop (i*5)).length)).toArray:=⟨_,rfl⟩
 have xD:(xs.drop (i*5)).length=(n-i)*5:=by rw[List.length_drop,wm];omega
 have P7:∀(W:World),W.heap=w.heap→∀ty dc sc,(Builtin.copy_ #[38,38] ty #[.slice (some ⟨g,(i+1)*5,none⟩) (n-i) dc,.slice (some ⟨g,i*5,none⟩) (n+1-i) sc]).run Tryz.prog W=.ok (goInt (n-i:Nat)) (W.setRow g cur1):=fun W hW ty dc sc=>by
  have:=b7 (P:=Tryz.prog) W 38 38 ty 52 5 g ((i+1)*5) (n-i) dc ⟨g,i*5,none⟩ (n+1-i) sc cur 52 (xs.drop (i*5)) ht hz (by rw[hW];exact hg) (by rw[xD];simp only[Nat.min_def];split<;>omega)
   (fun j v hj=>by have:=qY j v hj;simpa only[World.cell?,hW] using this) (by omega) (fun q hq=>h1 q (List.mem_of_mem_drop hq))
  rw[this,eR]
  congr 2
  simp only[Nat.min_def];split<;>omega
 have Fs:cur1.size=cur.size:=by rw[eR];simp;omega
 obtain⟨cur3,mz⟩:∃cur3:Array Value,cur3=(cur1.toList.take (i*5)++ys++cur1.toList.drop (i*5+ys.length)).toArray:=⟨_,rfl⟩
 have P8:∀(W:World),W.heap[g]? = some (.cells cur1 52 (0,0))→W.heap[g2]? = w.heap[g2]?→∀ty dc sc,(Builtin.copy_ #[38,38] ty #[.slice (some ⟨g,i*5,none⟩) (n+1-i) dc,.slice (some ⟨g2,0,none⟩) 1 sc]).run Tryz.prog W=.ok (goInt 1) (W.setRow g cur3):=fun W hW ZZ ty dc sc=>by
  have:=b7 (P:=Tryz.prog) W 38 38 ty 52 5 g (i*5) (n+1-i) dc ⟨g2,0,none⟩ 1 sc cur1 52 ys ht hz hW (by rw[Dp];simp only[Nat.min_def];split<;>omega)
   (fun j v hj=>by have:=Ch j v (by simpa using hj);simpa only[World.cell?,ct,ZZ] using this) (by omega) h2
  rw[this,mz]
  congr 2
  simp only[Nat.min_def];split<;>omega
 have Em:IntKind.i64.wrap ((i:Int)+1)=(i:Int)+1:=by rw[IntKind.wrap_i64];omega
 have Ny:IntKind.i64.wrap ((n:Int)+1)=(n:Int)+1:=by rw[IntKind.wrap_i64];omega
 have S5:(0:Int)≤(i:Int)+1:=by omega
 have l9:i≤n:=by omega
 have P9:((i:Int)+1).toNat=i+1:=by omega
 have Cf:¬(c=i+1):=by omega
 have hb3:(i:Int)≤(n:Int)+1:=by omega
 have hb4:¬(c=i):=by omega
 have B4:¬((i:Int)=(n:Int)):=by omega
 have Iq:¬((c:Int)<(n:Int)+1):=by omega
 have R6:cur3.size=cur.size:=by rw[mz];simp;omega
 have jm:cur3.toList.take ((n+1)*5)=xs.take (i*5)++(ys++xs.drop (i*5)):=A9 (sz:=5) (cur1:=cur1.toList) (cur3:=cur3.toList) iw (by simp;omega) (by rw[Dp]) l9 (by rw[eR]) (by rw[mz])
 clear mz eR xD iw ki
 have G7:=P8 (w.drew.setRow g cur1) (setRow_heap w.drew g cur _ 52 _ hg) (_root_.Go.setRow_other w.drew g g2 _ bq)
 have mixed:Tryz.prog.follows .mixedOrders=true:=by kernel_rfl
 go_enter Tryz.func176,Tryz.ntmps176
 go_wp2_with (simp only[R5])
 go_region_law (go_loud (refine step_copy_runI rfl _ _ 38 38 rfl (.slice (some ⟨g,(i+1)*5,none⟩) (n-i) (c-(i+1))) (.slice (some ⟨g,i*5,none⟩) (n+1-i) (c-i)) (by simp[Act.eval,Act.put]) (by simp[Act.eval,Act.put]) (P7 w.drew rfl 3 (c-(i+1)) (c-i)) ?_))
 go_wp2_with (simp only[G7])
 go_ret
 refine⟨rfl,cur3,setRow_heap _ g cur1 _ 52 _ (setRow_heap w.drew g cur _ 52 _ hg),R6,jm,⟨rfl,rfl,rfl,by simp[World.setRow],fun k hk MD=>?_⟩⟩
 have vv:k≠g:=fun e=>MD (by rw[e])
 rw[_root_.Go.setRow_other _ g k _ vv,_root_.Go.setRow_other _ g k _ vv];rfl
theorem wo{α:Type}{row xs ys row2 row3:List α}{i n sz:Nat}(hA:row.take (i*sz)=xs.take (i*sz))(hl:(n+1)*sz≤row.length)(wm:xs.length=n*sz)(hy:ys.length=sz)(hi:i≤n)
  (h2:row2=row.take (i*sz)++ys++row.drop (i*sz+ys.length)) (h3:row3=row2.take ((i+1)*sz)++xs.drop (i*sz)++row2.drop ((i+1)*sz+(xs.drop (i*sz)).length)) :
  row3.take ((n+1)*sz)=xs.take (i*sz)++(ys++xs.drop (i*sz)):=by
 have B6:i*sz≤n*sz:=Nat.mul_le_mul_right _ hi
 rw[Nat.add_mul,Nat.one_mul]at hl h3 ⊢
 generalize i*sz=a at *
 generalize n*sz=b at *
 have e1:row2.take (a+1*sz)=xs.take a++ys:=by
  rw[h2,hA,Nat.one_mul]
  exact List.take_left' (by simp only[List.length_append,List.length_take];omega)
 rw[Nat.one_mul]at e1
 rw[h3,e1]
 rw[List.take_left' (by simp only[List.length_append,List.length_take,List.length_drop];omega)]
 rw[List.append_assoc]
set_option maxHeartbeats 4000000 in
set_option maxRecDepth 100000 in
theorem G8(w:World)(g c g2 c2 n i:Nat)(xs ys:List Value)(cur cX:Array Value)(hg:w.heap[g]? = some (.cells cur 52 (0,0)))(iQ:cur.size=c*5)(iw:cur.toList.take (n*5)=xs)(wm:xs.length=n*5)
  (sG:w.heap[g2]? = some (.cells cX 52 (0,0))) (pN:cX.size=c2*5) (tJ:0<c2) (ki:cX.toList.take (1*5)=ys) (Dp:ys.length=1*5) (bq:g2≠g) (hi:i<n) (Cd:n≤c) (iv:c<n+1) (hm:n+1≤fB)
  (h1:∀q∈xs,q.oneCell'=true) (h2:∀q∈ys,q.oneCell'=true) :
  Calls Tryz.prog 176 #[.slice (some ⟨g,0,none⟩) n c,.int .i64 i,.slice (some ⟨g2,0,none⟩) 1 c2] w fun en w'=>∃G,en=.returned (.slice (some ⟨w.heap.size,0,none⟩) (n+1) G) ∧
   ∃c6:Array Value,w'.heap[w.heap.size]? = some (.cells c6 52 (0,0))∧c6.size=G*5∧n+1≤G∧G≤maxLen∧c6.toList.take ((n+1)*5)=xs.take (i*5)++(ys++xs.drop (i*5))∧w.grownBy w' (some g):=by
 have ht:Tryz.prog.underlying 38=some (.slice 52):=by kernel_rfl
 have P9:Tryz.prog.underlying 3=some (.int .i64):=by kernel_rfl
 have hz:(Tryz.prog.info? 52).map (·.size)=some 5:=by kernel_rfl
 obtain⟨i0,z0,he⟩:=cv (P:=Tryz.prog) (e:=52) (k:=.pair (.pair (.int .i64) (.int .i64)) (.pair (.sl (.pair (.pair (.int .i64) (.int .i64)) (.int .i64))) (.pair .str (.int .i64)))) (by kernel_rfl)
 have B7:z0.cells.size=5:=he.r8
 have vH:i0.size=5:=he.size
 have Cv:=he.bytes
 have Ch:=fT (size:=5) (n:=1) sG ki 0
 have qY:=fT (size:=5) (n:=n) hg iw (i*5)
 have G9:=fT (size:=5) (n:=n) hg iw 0
 have R7:g<w.heap.size:=(Array.getElem?_eq_some_iff.1 hg).1
 have Qa:g2<w.heap.size:=(Array.getElem?_eq_some_iff.1 sG).1
 unfold fB at hm
 have jA:(n+1)*i0.bytes≤140737488355328:=Nat.le_trans (Nat.mul_le_mul hm Cv) (by decide)
 have hold:(Builtin.firstCells i0.size i (.slice (some ⟨g,0,none⟩) i c)).run Tryz.prog w.drew=.ok (xs.take (i*5)).toArray w.drew:=by
  rw[vH]
  exact run_firstCells_some w.drew 5 i ⟨g,0,none⟩ i c (xs.take (i*5)) (by rw[List.length_take];omega) (fun j v hj=>by
   rw[List.getElem?_take]at hj
   split at hj
   ·exact G9 j v hj
   ·cases hj)
 obtain⟨G,hG⟩:∃G,G=grownCap w (n+1) c 52:=⟨_,rfl⟩
 obtain⟨iy,pO⟩:∃iy:Array Value,iy=(xs.take (i*5)).toArray++Builtin.zeroCells z0.cells (n+1-i)++Builtin.zeroCells z0.cells (G-(n+1)):=⟨_,rfl⟩
 have ON:i+(n+1-i)=n+1:=by omega
 have R8:∀ty,(Builtin.append_ #[38,3] ty #[.slice (some ⟨g,0,none⟩) i c,.int .i64 ((n:Int)+1-(i:Int))]).run Tryz.prog w=.ok (.slice (some ⟨w.heap.size,0,none⟩) (n+1) G) (w.drew.alloc (.cells iy 52)):=fun ty=>by
  have h:=Lib.run_append_grow_zeros w 38 3 ty 52 i0 z0 .i64 .i64 ht P9 he.info he.zero (some ⟨g,0,none⟩) i c (xs.take (i*5)) hold (n+1-i) (by omega) (by omega) (by omega) (by omega)
   (Nat.le_trans (Nat.mul_le_mul_right _ (show n+1-i≤n+1 by omega)) (by omega)) (by rw[ON];exact growslice_fits iv jA)
  rw[ON]at h
  rw[show(n:Int)+1-(i:Int)=((n+1-i:Nat):Int) by omega,pO,hG]
  exact h
 have XN:n+1≤G:=by rw[hG];exact grownCap_ge w _ _ _
 have Ju:G≤9223372036854775807:=by
  have:=grownCap_le_maxLen w (n+1) c 52 (by unfold maxLen;omega)
  rw[←hG]at this
  unfold maxLen at this
  omega
 have hRs:iy.size=G*5:=by
  rw[pO]
  simp[Builtin.zeroCells,B7,List.length_take,wm]
  rw[Nat.min_eq_left (by omega)];omega
 have UM:iy.toList.take (i*5)=xs.take (i*5):=by
  rw[pO]
  simp only[Array.toList_append,List.append_assoc]
  exact List.take_left' (by rw[List.length_take];omega)
 obtain⟨W1,oa⟩:∃W1,W1=w.drew.alloc (.cells iy 52):=⟨_,rfl⟩
 have qC:W1.heap[w.heap.size]? = some (.cells iy 52 (0,0)):=by rw[oa];exact(MapKept.heap_alloc w.drew (.cells iy 52)).1
 have rS:∀b,b<w.heap.size→W1.heap[b]? = w.heap[b]? := fun b hb=>by rw[oa];exact(Below.heap_alloc w.drew (.cells iy 52) b hb).trans rfl
 have rT:w.grownBy W1 none:=⟨by rw[oa];rfl,by rw[oa];rfl,by rw[oa];rfl,by have:=(Array.getElem?_eq_some_iff.1 qC).1;omega,fun k hk _=>rS k hk⟩
 obtain⟨row2,mA⟩:∃row2:Array Value,row2=(iy.toList.take (i*5)++ys++iy.toList.drop (i*5+ys.length)).toArray:=⟨_,rfl⟩
 have KA:row2.size=iy.size:=by rw[mA];simp;omega
 have Qb:∀(W:World),W.heap=W1.heap→∀ty dc sc,(Builtin.copy_ #[38,38] ty #[.slice (some ⟨w.heap.size,i*5,none⟩) (n+1-i) dc,.slice (some ⟨g2,0,none⟩) 1 sc]).run Tryz.prog W=.ok (goInt 1) (W.setRow w.heap.size row2):=fun W hW ty dc sc=>by
  have:=b7 (P:=Tryz.prog) W 38 38 ty 52 5 w.heap.size (i*5) (n+1-i) dc ⟨g2,0,none⟩ 1 sc iy 52 ys ht hz (by rw[hW];exact qC) (by rw[Dp];simp only[Nat.min_def];split<;>omega)
   (fun j v hj=>by have:=Ch j v (by simpa using hj);simpa only[World.cell?,ct,hW,rS g2 Qa] using this) (by omega) h2
  rw[this,mA]
  congr 2
  simp only[Nat.min_def];split<;>omega
 obtain⟨row3,mB⟩:∃row3:Array Value,row3=(row2.toList.take ((i+1)*5)++xs.drop (i*5)++row2.toList.drop ((i+1)*5+(xs.drop (i*5)).length)).toArray:=⟨_,rfl⟩
 have xD:(xs.drop (i*5)).length=(n-i)*5:=by rw[List.length_drop,wm];omega
 have R6:row3.size=iy.size:=by rw[mB];simp;omega
 have Qc:∀(W:World),W.heap=(W1.setRow w.heap.size row2).heap→∀ty dc sc,(Builtin.copy_ #[38,38] ty #[.slice (some ⟨w.heap.size,(i+1)*5,none⟩) (n-i) dc,.slice (some ⟨g,i*5,none⟩) (n-i) sc]).run Tryz.prog W=.ok (goInt (n-i:Nat)) (W.setRow w.heap.size row3):=fun W hW ty dc sc=>by
  have:=b7 (P:=Tryz.prog) W 38 38 ty 52 5 w.heap.size ((i+1)*5) (n-i) dc ⟨g,i*5,none⟩ (n-i) sc row2 52 (xs.drop (i*5)) ht hz (by rw[hW];exact setRow_heap W1 w.heap.size iy _ 52 _ qC) (by rw[xD];simp only[Nat.min_def];split<;>omega)
   (fun j v hj=>by have:=qY j v hj;simpa only[World.cell?,ct,hW,_root_.Go.setRow_other W1 w.heap.size g _ (Nat.ne_of_lt R7),rS g R7] using this) (by omega) (fun q hq=>h1 q (List.mem_of_mem_drop hq))
  rw[this,mB]
  congr 2
  simp only[Nat.min_def];split<;>omega
 have jm:row3.toList.take ((n+1)*5)=xs.take (i*5)++(ys++xs.drop (i*5)):=wo (sz:=5) (row:=iy.toList) (row2:=row2.toList) (row3:=row3.toList) UM (by simp;omega) wm (by rw[Dp]) (by omega) (by rw[mA]) (by rw[mB])
 clear mB mA pO xD iw ki UM G9 hold hG
 have Em:IntKind.i64.wrap ((i:Int)+1)=(i:Int)+1:=by rw[IntKind.wrap_i64];omega
 have Ny:IntKind.i64.wrap ((n:Int)+1)=(n:Int)+1:=by rw[IntKind.wrap_i64];omega
 have hw3:IntKind.i64.wrap ((n:Int)+1-(i:Int))=(n:Int)+1-(i:Int):=by rw[IntKind.wrap_i64];omega
 have S5:(0:Int)≤(i:Int)+1:=by omega
 have l9:i≤n:=by omega
 have aac:((i:Int)+1).toNat=i+1:=by omega
 have hGi:¬(G=i):=by omega
 have aad:¬(G=i+1):=by omega
 have hci:¬(c=i):=by omega
 have hb3:(i:Int)≤(n:Int):=by omega
 have B4:¬((i:Int)=(n:Int)):=by omega
 have Iq:(c:Int)<(n:Int)+1:=by omega
 rw[←oa]at R8
 clear oa
 have mixed:Tryz.prog.follows .mixedOrders=true:=by kernel_rfl
 go_enter Tryz.func176,Tryz.ntmps176
 go_wp2_with (first
  |(at_builtin;refine Lib.wpList_append_run _ rfl _ _ _ _ rfl _ _ rfl rfl _ _ (R8 _) ?_)
  |(at_builtin;refine wpList_copy_runI _ rfl _ _ 38 38 rfl _ _ rfl rfl (Qb _ (by rfl) _ _ _) ?_))
 go_region_law (go_loud (refine step_copy_runI rfl _ _ 38 38 rfl (.slice (some ⟨w.heap.size,(i+1)*5,none⟩) (n-i) (G-(i+1))) (.slice (some ⟨g,i*5,none⟩) (n-i) (c-i)) (by simp[Act.eval,Act.put]) (by simp[Act.eval,Act.put]) (Qc (W1.setRow w.heap.size row2).drew rfl 3 (G-(i+1)) (c-i)) ?_))
 go_wp2
 go_ret
 refine⟨G,rfl,row3,setRow_heap _ w.heap.size row2 _ 52 _ (setRow_heap W1 w.heap.size iy _ 52 _ qC),by omega,XN,Ju,jm,⟨rT.os,rT.tape,rT.output,by have:=rT.size;simpa[World.setRow] using this,fun k hk _=>?_⟩⟩
 rw[_root_.Go.setRow_other _ w.heap.size k _ (Nat.ne_of_lt hk)]
 exact(_root_.Go.setRow_other W1 w.heap.size k _ (Nat.ne_of_lt hk)).trans (rS k hk)
theorem Wh:EJ Tryz.prog 176 52 5:=fun w v u n i xs ys hv hu hi hm ME h1 h2=>by
 by_cases he:i=n
 ·subst he
  refine(Jt w v u i xs ys hv hu hm h2).mono fun en w' ⟨v',e1,e2,e3,e4⟩=>⟨v',e1,?_,e3,e4⟩
  have hl:=hv.1
  rw[List.take_of_length_le (by omega),List.drop_eq_nil_of_le (by omega),List.append_nil]
  exact e2
 ·have l9:i<n:=by omega
  rcases hv.2 with⟨h0,_⟩|⟨g,c,cur,rfl,Nz,hg,Cd,EL,iQ,iw⟩
  ·omega
  rcases hu.2 with⟨h0,_⟩|⟨g2,c2,cX,rfl,Hc,sG,_,_,pN,ki⟩
  ·omega
  have jz:ob (.slice (some ⟨g,0,none⟩) n c)=some g:=by simp only[ob];rw[if_neg (by omega)]
  have Qd:ob (.slice (some ⟨g2,0,none⟩) 1 c2)=some g2:=by simp only[ob];rw[if_neg (by omega)]
  have bq:g2≠g:=fun e=>ME g jz (by rw[Qd,e])
  by_cases iv:n+1≤c
  ·refine(EK w g c g2 c2 n i xs ys cur cX hg iQ iw hv.1 sG pN Hc ki hu.1 bq l9 iv EL h1 h2).mono fun en w' ⟨e1,c6,e2,e3,e4,e5⟩=>?_
   refine⟨_,e1,⟨?_,.inr ⟨g,c,c6,rfl,Nz,e2,iv,EL,by rw[e3,iQ],e4⟩⟩,by rw[jz];exact e5,.inl ?_⟩
   ·have hl:=hv.1;have sf:=hu.1
    simp only[List.length_append,List.length_take,List.length_drop];omega
   ·rw[jz];simp only[ob];rw[if_neg (by omega)]
  ·refine(G8 w g c g2 c2 n i xs ys cur cX hg iQ iw hv.1 sG pN Hc ki hu.1 bq l9 Cd (by omega) hm h1 h2).mono fun en w' ⟨G,e1,c6,e2,e3,e4,e5,e6,e7⟩=>?_
   refine⟨_,e1,⟨?_,.inr ⟨w.heap.size,G,c6,rfl,by omega,e2,e4,e5,e3,e6⟩⟩,by rw[jz];exact e7,.inr fun b hb=>?_⟩
   ·have hl:=hv.1;have sf:=hu.1
    simp only[List.length_append,List.length_take,List.length_drop];omega
   ·simp only[ob]at hb;rw[if_neg (by omega)]at hb;cases hb;omega
end Go.Vs
namespace Go.Vs
open Go.Proofs Go.RowKit
def Jv(P:Program)(f:FuncId)(e:TypeId)(size:Nat):Prop :=
 ∀(w:World) (v:Value) (n i j:Nat) (xs:List Value),dx w e size v n xs→i<j→j≤n→n≤fB→(∀q∈xs,q.oneCell'=true) →
  Calls P f #[v,.int .i64 i,.int .i64 j] w fun en w'=>∃v',en=.returned v'∧dx w' e size v' (i+(n-j)) (xs.take (i*size)++xs.drop (j*size))∧w.grownBy w' (ob v)∧ob v'=ob v
theorem gW{P:Program}{ops:Array Oper}{o:Oper}{a:Act}{w:World}{K:Act→World→Prop}{Q:Exit→Act→World→Prop}{E:Prop}
  (hg:o.guard=none) (d x:Operand) (dT sT:TypeId) (El:o.op=Op.call { callee:=Callee.builtin Builtin.append,args:=#[d,x],argTypes:=#[dT,sT] })
  (v u:Value) (hd:a.eval d=v) (hx:a.eval x=u) {v':Value} {w':World} (hr:(Builtin.append_ #[dT,sT] o.type #[v,u]).run P w=.ok v' w') (hK:K (a.put o.dst v') w') :
  if Region.wanted o (yielded ops a.tmps)=true then Oper.wp P o a w K Q else E:=by
 have hw:Region.wanted o (yielded ops a.tmps)=true:=by simp[Region.wanted,hg]
 rw[if_pos hw]
 unfold Oper.wp
 simp[execOp,El,resolve,invoke,builtin,hd,hx,hr,Result.andThen]
 exact hK
theorem Hd{α:Type}{cur xs cur1 cX zs:List α}{i j n sz:Nat}(iw:cur.take (n*sz)=xs)(hl:n*sz≤cur.length)(zy:i≤j)(Ns:j≤n)
  (h1:cur1=cur.take (i*sz)++xs.drop (j*sz)++cur.drop (i*sz+(xs.drop (j*sz)).length)) (h2:cX=cur1.take ((i+(n-j))*sz)++zs++cur1.drop ((i+(n-j))*sz+zs.length)) :
  cX.take ((i+(n-j))*sz)=xs.take (i*sz)++xs.drop (j*sz):=by
 have ha:i*sz≤j*sz:=Nat.mul_le_mul_right _ zy
 have hb:j*sz≤n*sz:=Nat.mul_le_mul_right _ Ns
 rw[Nat.add_mul,Nat.sub_mul]at h2 ⊢
 have wm:xs.length=n*sz:=by rw[←iw,List.length_take];omega
 generalize i*sz=a at *
 generalize j*sz=b at *
 generalize n*sz=c at *
 have e0:cur.take a=xs.take a:=by rw[←iw,List.take_take];congr 1;omega
 have e1:cur1.take (a+(c-b))=xs.take a++xs.drop b:=by
  rw[h1,e0]
  exact List.take_left' (by simp only[List.length_append,List.length_take,List.length_drop];omega)
 rw[h2,e1,List.append_assoc]
 exact List.take_left' (by simp only[List.length_append,List.length_take,List.length_drop];omega)
set_option maxHeartbeats 4000000 in
set_option maxRecDepth 100000 in
theorem He(w:World)(g c n i j X:Nat)(xs:List Value)(cur:Array Value)(hg:w.heap[g]? = some (.cells cur 52 (0,0)))(iQ:cur.size=c*5)(iw:cur.toList.take (n*5)=xs)(wm:xs.length=n*5)
  (zy:i<j) (Ns:j≤n) (Cd:n≤c) (hc:c≤maxLen) (hX:if c=j then X=0 else X=j*5)
  (h1:∀q∈xs,q.oneCell'=true) :
  Calls Tryz.prog 177 #[.slice (some ⟨g,0,none⟩) n c,.int .i64 i,.int .i64 j] w fun en w'=>en=.returned (.slice (some ⟨g,0,none⟩) (i+(n-j)) c) ∧
   ∃c6:Array Value,w'.heap[g]? = some (.cells c6 52 (0,0))∧c6.size=cur.size∧c6.toList.take ((i+(n-j))*5)=xs.take (i*5)++xs.drop (j*5)∧w.grownBy w' (some g):=by
 have ht:Tryz.prog.underlying 38=some (.slice 52):=by kernel_rfl
 have hz:(Tryz.prog.info? 52).map (·.size)=some 5:=by kernel_rfl
 obtain⟨zs,vH⟩:∃zs,yV Tryz.prog 52=some zs:=Option.isSome_iff_exists.1 (by kernel_rfl)
 obtain⟨i0,z0,S6,Sq,rfl,w4⟩:=ot vH
 obtain⟨i1,z1,he⟩:=cv (P:=Tryz.prog) (e:=52) (k:=.pair (.pair (.int .i64) (.int .i64)) (.pair (.sl (.pair (.pair (.int .i64) (.int .i64)) (.int .i64))) (.pair .str (.int .i64)))) (by kernel_rfl)
 have ei:i1=i0:=by have:=he.info;rw[S6]at this;cases this;rfl
 subst ei
 have ez:z1=z0:=by have:=he.zero;rw[Sq]at this;cases this;rfl
 subst ez
 have B7:z1.cells.size=5:=he.r8
 clear he vH
 have xD:(xs.drop (j*5)).length=(n-j)*5:=by rw[List.length_drop,wm];omega
 obtain⟨cur1,eR⟩:∃cur1:Array Value,cur1=(cur.toList.take (i*5)++xs.drop (j*5)++cur.toList.drop (i*5+(xs.drop (j*5)).length)).toArray:=⟨_,rfl⟩
 have Fs:cur1.size=cur.size:=by rw[eR];simp;omega
 have ME:∀ty sc,(Builtin.append_ #[38,38] ty #[.slice (some ⟨g,0,none⟩) i c,.slice (some ⟨g,X,none⟩) (n-j) sc]).run Tryz.prog w.drew=.ok (.slice (some ⟨g,0,none⟩) (i+(n-j)) c) (w.drew.setRow g cur1):=fun ty sc=>by
  by_cases MF:c=j
  ·have hnj:n=j:=by omega
   have:n-j=0:=by omega
   rw[this]at xD ⊢
   have FF:xs.drop (j*5)=[]:=List.eq_nil_of_length_eq_zero (by omega)
   rw[eW ht S6 _ _ _ (by omega) _ _,eR,FF]
   simp only[List.append_nil,List.length_nil,Nat.add_zero,List.take_append_drop,Array.toArray_toList]
   rw[setRow_self w.drew g cur 52 (0,0) hg]
  ·rw[if_neg MF]at hX
   subst hX
   rw[eR]
   exact nI (P:=Tryz.prog) w.drew 38 ty 52 5 g i c ⟨g,j*5,none⟩ (n-j) sc cur (xs.drop (j*5)) ht hz hg xD (fT (size:=5) (n:=n) (w:=w.drew) hg iw (j*5)) (fun q hq=>h1 q (List.mem_of_mem_drop hq)) (by omega) (by omega)
 obtain⟨cX,uW⟩:∃cX:Array Value,cX=(cur1.toList.take ((i+(n-j))*5)++(Builtin.zeroCells z1.cells (j-i)).toList++cur1.toList.drop ((i+(n-j))*5+(Builtin.zeroCells z1.cells (j-i)).toList.length)).toArray:=⟨_,rfl⟩
 have XO:(Builtin.zeroCells z1.cells (j-i)).toList.length=(j-i)*5:=by simp[Builtin.zeroCells,B7]
 have KA:cX.size=cur.size:=by rw[uW];simp[XO];omega
 have tI:∀ty sc,(Builtin.clear_ #[38] ty #[.slice (some ⟨g,(i+(n-j))*5,none⟩) (n-(i+(n-j))) sc]).run Tryz.prog (w.drew.setRow g cur1)=.ok (.tuple #[]) ((w.drew.setRow g cur1).setRow g cX):=fun ty sc=>by
  have:=qB (P:=Tryz.prog) (w.drew.setRow g cur1) 38 ty 52 5 g ((i+(n-j))*5) (j-i) sc cur1 i1 z1 ht S6 Sq B7 w4 (setRow_heap w.drew g cur _ 52 _ hg) (by omega) (by omega)
  rw[show n-(i+(n-j))=j-i by omega,this,uW]
 have jm:cX.toList.take ((i+(n-j))*5)=xs.take (i*5)++xs.drop (j*5):=Hd (cur1:=cur1.toList) iw (by simp;omega) (by omega) Ns (by rw[eR]) (by rw[uW])
 clear eR uW iw xD
 have h63:c≤9223372036854775807:=by unfold maxLen at hc;omega
 have l9:i≤n:=by omega
 have hic:¬(c=i):=by omega
 have hjc:j≤c:=by omega
 have bq:¬((i:Int)=(j:Int)):=by omega
 have n8:i≤j:=by omega
 have ae3:i≤c:=by omega
 have ae4:i+(n-j)≤n:=by omega
 have ae5:i+(n-j)≤c:=by omega
 have ae6:¬(c=i+(n-j)):=by omega
 have ae7:(i:Int)+((n-j:Nat):Int)≤(n:Int):=by omega
 have mixed:Tryz.prog.follows .mixedOrders=true:=by kernel_rfl
 by_cases MF:c=j
 ·rw[if_pos MF]at hX
  subst hX
  subst MF
  obtain rfl:n=c:=by omega
  simp only[Nat.sub_self,Nat.add_zero]at ME tI jm ⊢
  go_enter Tryz.func177,Tryz.ntmps177
  go_wp2_with fail
  go_region_law (go_loud (refine gW rfl _ _ 38 38 rfl (.slice (some ⟨g,0,none⟩) i n) (.slice (some ⟨g,0,none⟩) 0 0) (by simp[Act.eval,Act.put]) (by simp[Act.eval,Act.put]) (ME 38 0) ?_))
  go_wp2_with (simp only[tI])
  go_ret
  refine⟨rfl,cX,setRow_heap _ g cur1 _ 52 _ (setRow_heap w.drew g cur _ 52 _ hg),KA,jm,⟨rfl,rfl,rfl,by simp[World.setRow],fun k hk MD=>?_⟩⟩
  have vv:k≠g:=fun e=>MD (by rw[e])
  rw[_root_.Go.setRow_other _ g k _ vv,_root_.Go.setRow_other _ g k _ vv];rfl
 ·rw[if_neg MF]at hX
  subst hX
  go_enter Tryz.func177,Tryz.ntmps177
  go_wp2_with fail
  go_region_law (go_loud (refine gW rfl _ _ 38 38 rfl (.slice (some ⟨g,0,none⟩) i c) (.slice (some ⟨g,j*5,none⟩) (n-j) (c-j)) (by simp[Act.eval,Act.put]) (by simp[Act.eval,Act.put]) (ME 38 (c-j)) ?_))
  go_wp2_with (simp only[tI])
  go_ret
  refine⟨rfl,cX,setRow_heap _ g cur1 _ 52 _ (setRow_heap w.drew g cur _ 52 _ hg),KA,jm,⟨rfl,rfl,rfl,by simp[World.setRow],fun k hk MD=>?_⟩⟩
  have vv:k≠g:=fun e=>MD (by rw[e])
  rw[_root_.Go.setRow_other _ g k _ vv,_root_.Go.setRow_other _ g k _ vv];rfl
theorem Wi:Jv Tryz.prog 177 52 5:=fun w v n i j xs hv zy Ns hm h1=>by
 rcases hv.2 with⟨h0,_⟩|⟨g,c,cur,rfl,Nz,hg,Cd,EL,iQ,iw⟩
 ·omega
 have jz:ob (.slice (some ⟨g,0,none⟩) n c)=some g:=by simp only[ob];rw[if_neg (by omega)]
 refine(He w g c n i j (if c=j then 0 else j*5) xs cur hg iQ iw hv.1 zy Ns Cd EL (by split<;>rfl) h1).mono fun en w' ⟨e1,c6,e2,e3,e4,e5⟩=>?_
 refine⟨_,e1,⟨?_,.inr ⟨g,c,c6,rfl,Nz,e2,by omega,EL,by rw[e3,iQ],e4⟩⟩,by rw[jz];exact e5,?_⟩
 ·have hl:=hv.1
  simp only[List.length_append,List.length_take,List.length_drop];omega
 ·rw[jz];simp only[ob];rw[if_neg (by omega)]
end Go.Vs
namespace Go.Vs
open Go.Proofs
variable {P:Program}
theorem Ba{Z:Nat→Prop}{w:World}{k:K}{xs:List k.T}{vs:List Value}(hv:mN Z w k xs vs)(hl:vs.length=xs.length*k.sz):∀q∈vs,q.oneCell'=true:=fun q hq=>by
 obtain⟨p,hp⟩:=List.getElem?_of_mem hq
 have aF:p<vs.length:=(List.getElem?_eq_some_iff.1 hp).1
 have hs:=k.g8
 have hd:p / k.sz<xs.length:=Nat.div_lt_of_lt_mul (by rw[Nat.mul_comm];omega)
 have hr:=hv (p / k.sz) _ (List.getElem?_eq_getElem hd)
 refine hr.one q ?_
 have hm:=Nat.mod_add_div p k.sz
 have hml:=Nat.mod_lt p hs
 have:((vs.drop (p / k.sz*k.sz)).take k.sz)[p%k.sz]? = some q:=by
  rw[List.getElem?_take,if_pos hml,List.getElem?_drop,Nat.mul_comm,Nat.add_comm,hm,hp]
 exact List.mem_of_getElem? this
theorem Dq{Z:Nat→Prop}{w:World}{k:K}{xs:List k.T}{vs:List Value}(hv:mN Z w k xs vs)(n:Nat):mN Z w k (xs.take n) (vs.take (n*k.sz)):=fun i x hx=>by
 rw[List.getElem?_take]at hx
 split at hx
 ·rename_i hi
  have:=hv i x hx
  have e:((vs.take (n*k.sz)).drop (i*k.sz)).take k.sz=(vs.drop (i*k.sz)).take k.sz:=by
   rw[List.drop_take,List.take_take]
   congr 1
   have:(i+1)*k.sz≤n*k.sz:=Nat.mul_le_mul_right _ hi
   rw[Nat.add_mul]at this;omega
  rw[e];exact this
 ·cases hx
theorem Dt{Z:Nat→Prop}{w:World}{k:K}{xs:List k.T}{vs:List Value}(hv:mN Z w k xs vs)(n:Nat):mN Z w k (xs.drop n) (vs.drop (n*k.sz)):=fun i x hx=>by
 rw[List.getElem?_drop]at hx
 have:=hv (n+i) x hx
 rw[List.drop_drop,←Nat.add_mul];exact this
theorem tq{f:FuncId}{ty:TypeId}{k:K}(hr:EJ P f ty k.sz):gy P f (NK ty k):=by
 intro Z ψ h w B0 O N hh id e vs us g hB bz hN bg mT qX CS he
 unfold NK at he
 split at he
 rotate_left
 ·cases he
 rename_i o i j
 split at he
 rotate_left
 ·cases he
 rename_i xs ys qY Ch
 split at he
 ·cases he
 rename_i hoj
 simp only[Option.some.injEq,Prod.mk.injEq]at he
 obtain⟨kI,rfl⟩:=he
 have hhg:hh.get=h:=mT _ _ rfl
 have R9:hh.get o=some (.own (.row ty k) xs):=jD qY
 have hgj:hh.get j=some (.own (.row ty k) ys):=jD Ch
 simp only[ak,av]at qX
 obtain⟨v,_,rfl,⟨_,hv⟩,n,_,rfl,rfl,u,_,rfl,⟨_,hu⟩,rfl⟩:=qX
 simp only[pX,Bool.and_eq_true,decide_eq_true_eq,aL]at kI
 obtain⟨h0,h1,h2,h3⟩:=kI
 obtain⟨m,rfl⟩:∃m:Nat,i=m:=⟨i.toNat,by omega⟩
 subst hhg
 have hvo:v=ψ o:=hv (by rw[R9];simp)
 have huj:u=ψ j:=hu (by rw[hgj];simp)
 obtain⟨vs,C9,ud⟩:=g.row o (.row ty k) xs R9
 obtain⟨iF,Wj,wY⟩:=g.row j (.row ty k) ys hgj
 simp only[ax,aE]at CS
 have bL:N id:=hN 0 (by omega)
 have bq:o≠id:=fun e=>CS.1 (e▸bL)
 rw[h2]at Wj
 subst hvo;subst huj
 refine(hr w _ _ xs.length m vs iF C9 Wj (by omega) (by omega) (fun b hb Cf=>hoj (g.apart o j b (by rw[R9];simp) (by rw[hgj];simp) hb Cf)) (Ba ud C9.1) (Ba wY (by rw[Wj.1,h2]))).mono fun en w' ⟨v',e1,e2,e3,e4⟩=>?_
 have kk:cW ψ hh.get w w':=cW.grown e3 (fun b e=>⟨o,by rw[R9];simp,e⟩)
 have sm:=kk.same g
 have hlen:(fN xs (m:Int) ys).length=xs.length+1:=by
  simp only[fN,Int.toNat_natCast,List.length_append,List.length_take,List.length_drop];omega
 have htl:(vs.take (m*k.sz)).length=(xs.take m).length*k.sz:=by
  have:m*k.sz≤xs.length*k.sz:=Nat.mul_le_mul_right _ (by omega)
  rw[List.length_take,List.length_take,C9.1,Nat.min_eq_left this,Nat.min_eq_left (by omega)]
 have nq:mN Z w k (fN xs (m:Int) ys) (vs.take (m*k.sz)++(iF++vs.drop (m*k.sz))):=(Dq ud m).append (wY.append (Dt ud m) (by rw[Wj.1,h2])) htl
 have C2:=qf (N:=N) g hB id o bL R9 bq e3 (v:=v') (ok:=.row ty k) (y:=fN xs m ys)
  ⟨_,by rw[hlen];exact e2,nq.FD sm⟩ e4 (fun i ty cs hb=>ax.imp (p:=fun i=>¬N i) (q:=fun i=>i≠id) (fun a ha e=>ha (by rw[e];exact bL)) (bg i ty cs hb))
 have hhp:Heap.get ((id,Ob.own (.row ty k) (fN xs (m:Int) ys))::hh.del o)=dM (dM hh.get o none) id (some (.own (.row ty k) (fN xs m ys))):=by rw[zr,ua]
 refine⟨v',Z,dM ψ id v',e1,?_,?_⟩
 ·show Next Z ψ hh.get w B0 O N Z (dM ψ id v') (Heap.get ((id,Ob.own (.row ty k) (fN xs (m:Int) ys))::hh.del o)) w'
  rw[hhp];exact C2
 ·simp only[bE.v,av]
  exact⟨e2.one,fun _=>(bh _ _ _).symm⟩
theorem Bb{f:FuncId}{ty:TypeId}{k:K}(hr:Jv P f ty k.sz):gy P f (Sh ty k):=by
 intro Z ψ h w B0 O N hh id e vs us g hB bz hN bg mT qX CS he
 unfold Sh at he
 split at he
 rotate_left
 ·cases he
 rename_i o i j
 split at he
 rotate_left
 ·cases he
 rename_i xs qY
 simp only[Option.some.injEq,Prod.mk.injEq]at he
 obtain⟨kI,rfl⟩:=he
 have hhg:hh.get=h:=mT _ _ rfl
 have R9:hh.get o=some (.own (.row ty k) xs):=jD qY
 simp only[ak,av]at qX
 obtain⟨v,_,rfl,⟨_,hv⟩,n,_,rfl,rfl,u,_,rfl,rfl,rfl⟩:=qX
 simp only[jo,Bool.and_eq_true,decide_eq_true_eq,aL]at kI
 obtain⟨h0,h1,h2,h3⟩:=kI
 obtain⟨m,rfl⟩:∃m:Nat,i=m:=⟨i.toNat,by omega⟩
 obtain⟨q,rfl⟩:∃m:Nat,j=m:=⟨j.toNat,by omega⟩
 subst hhg
 have hvo:v=ψ o:=hv (by rw[R9];simp)
 obtain⟨vs,C9,ud⟩:=g.row o (.row ty k) xs R9
 simp only[ax,aE]at CS
 have bL:N id:=hN 0 (by omega)
 have bq:o≠id:=fun e=>CS.1 (e▸bL)
 subst hvo
 refine(hr w _ xs.length m q vs C9 (by omega) (by omega) (by omega) (Ba ud C9.1)).mono fun en w' ⟨v',e1,e2,e3,e4⟩=>?_
 have kk:cW ψ hh.get w w':=cW.grown e3 (fun b e=>⟨o,by rw[R9];simp,e⟩)
 have sm:=kk.same g
 have hlen:(di xs (m:Int) q).length=m+(xs.length-q):=by
  simp only[di,Int.toNat_natCast,List.length_append,List.length_take,List.length_drop];omega
 have htl:(vs.take (m*k.sz)).length=(xs.take m).length*k.sz:=by
  have:m*k.sz≤xs.length*k.sz:=Nat.mul_le_mul_right _ (by omega)
  rw[List.length_take,List.length_take,C9.1,Nat.min_eq_left this,Nat.min_eq_left (by omega)]
 have nq:mN Z w k (di xs (m:Int) q) (vs.take (m*k.sz)++vs.drop (q*k.sz)):=(Dq ud m).append (Dt ud q) htl
 have C2:=qf (N:=N) g hB id o bL R9 bq e3 (v:=v') (ok:=.row ty k) (y:=di xs m q)
  ⟨_,by rw[hlen];exact e2,nq.FD sm⟩ (.inl e4) (fun i ty cs hb=>ax.imp (p:=fun i=>¬N i) (q:=fun i=>i≠id) (fun a ha e=>ha (by rw[e];exact bL)) (bg i ty cs hb))
 have hhp:Heap.get ((id,Ob.own (.row ty k) (di xs (m:Int) q))::hh.del o)=dM (dM hh.get o none) id (some (.own (.row ty k) (di xs m q))):=by rw[zr,ua]
 refine⟨v',Z,dM ψ id v',e1,?_,?_⟩
 ·show Next Z ψ hh.get w B0 O N Z (dM ψ id v') (Heap.get ((id,Ob.own (.row ty k) (di xs (m:Int) q))::hh.del o)) w'
  rw[hhp];exact C2
 ·simp only[bE.v,av]
  exact⟨e2.one,fun _=>(bh _ _ _).symm⟩
end Go.Vs
namespace Go.Vs
open Go.Proofs Go.RowKit
set_option maxHeartbeats 4000000 in
set_option maxRecDepth 100000 in
theorem Jw(w:World)(v u:Value)(n:Nat)(xs ys:List Value)(hv:dx w 118 4 v n xs)(hu:dx w 118 4 u 1 ys)(hm:n+1≤fB)(h1:∀q∈ys,q.oneCell'=true) :
  Calls Tryz.prog 211 #[v,.int .i64 n,u] w fun en w'=>∃v',en=.returned v'∧dx w' 118 4 v' (n+1) (xs++ys)∧w.grownBy w' (ob v)∧(ob v'=ob v∨∀b,ob v'=some b→w.heap.size≤b):=by
 have ht:Tryz.prog.underlying 39=some (.slice 118):=by kernel_rfl
 obtain⟨i0,z0,he⟩:=cv (P:=Tryz.prog) (e:=118) (k:=.pair (.pair (.int .i64) (.int .i64)) (.pair .str (.int .i64))) (by kernel_rfl)
 have vG:LJ w 4 u 1 ys:=by
  refine⟨hu.1,h1,.inr ?_⟩
  rcases hu.2 with⟨h0,_⟩|⟨g,cap,cur,rfl,_,hg,_,_,hc,iw⟩
  ·cases h0
  ·refine⟨_,_,rfl,fun j q hj=>?_⟩
   rw[cg,Nat.zero_add]
   rw[←iw,List.getElem?_take]at hj
   split at hj
   ·simp[World.cell?,hg];simpa using hj
   ·cases hj
 obtain⟨v',w',dk,h4,h5,h6⟩:=dD (P:=Tryz.prog) (ty:=39) ht he hv vG hm
 obtain⟨A,c,rfl⟩:=hv.slice
 have Cd:n≤c:=by
  rcases hv.2 with⟨h0,A,e⟩|⟨g,cap,cur,e,hc,h2,h3,_⟩
  ·omega
  ·cases e;exact h3
 obtain⟨B,cu,rfl⟩:=hu.slice
 have ZY:n≤1073741824:=by unfold fB at hm;omega
 go_enter Tryz.func211,Tryz.ntmps211
 go_wp2_with (at_builtin;refine Lib.wpList_append_run _ rfl _ _ _ _ rfl _ _ rfl rfl _ _ dk ?_)
 all_goals go_ret
 all_goals first|exact⟨_,rfl,h4,h5,h6⟩|(subst_vars;exact⟨_,rfl,h4,h5,h6⟩)
set_option maxHeartbeats 4000000 in
set_option maxRecDepth 100000 in
theorem EM(w:World)(g c g2 c2 n i:Nat)(xs ys:List Value)(cur cX:Array Value)(hg:w.heap[g]? = some (.cells cur 118 (0,0)))(iQ:cur.size=c*4)(iw:cur.toList.take (n*4)=xs)(wm:xs.length=n*4)
  (sG:w.heap[g2]? = some (.cells cX 118 (0,0))) (pN:cX.size=c2*4) (tJ:0<c2) (ki:cX.toList.take (1*4)=ys) (Dp:ys.length=1*4) (bq:g2≠g) (hi:i<n) (iv:n+1≤c) (hc:c≤maxLen)
  (h1:∀q∈xs,q.oneCell'=true) (h2:∀q∈ys,q.oneCell'=true) :
  Calls Tryz.prog 211 #[.slice (some ⟨g,0,none⟩) n c,.int .i64 i,.slice (some ⟨g2,0,none⟩) 1 c2] w fun en w'=>en=.returned (.slice (some ⟨g,0,none⟩) (n+1) c) ∧
   ∃c6:Array Value,w'.heap[g]? = some (.cells c6 118 (0,0))∧c6.size=cur.size∧c6.toList.take ((n+1)*4)=xs.take (i*4)++(ys++xs.drop (i*4))∧w.grownBy w' (some g):=by
 have ht:Tryz.prog.underlying 39=some (.slice 118):=by kernel_rfl
 have hz:(Tryz.prog.info? 118).map (·.size)=some 4:=by kernel_rfl
 have vH:∀w,(Go.sizeOf 118).run Tryz.prog w=.ok 4 w:=fun w=>by
  cases hq:Tryz.prog.info? 118 with
  |none=>rw[hq]at hz;cases hz
  |some i=>rw[hq]at hz;simp at hz;simp[sizeOf,typeInfo,hq,hz]
 have R5:∀a2 lb cb,(callFunc 228 #[.slice (some ⟨g2,0,none⟩) 1 c2,.slice (some ⟨g,a2,none⟩) lb cb]).run Tryz.prog w=.ok (.value (.bool false)) w:=fun a2 lb cb=>by
  rw[run_callFunc_extern Tryz.func228 (by kernel_rfl) (by kernel_rfl) (by kernel_rfl) (e:=Extern.SlicesOverlaps.overlaps #[39,39] #[4]) (by kernel_rfl),
   Lib.run_overlaps_apart w 39 4 118 ht 4 vH ⟨g2,0,none⟩ ⟨g,a2,none⟩ 1 c2 lb cb bq 118 118 cX.size cur.size (by simp[World.shape?,sG]) (by simp[World.shape?,hg]) (by omega) (by simp[World.frozen?,sG]) (by simp[World.frozen?,sG])]
  rfl
 have Ch:=fT (size:=4) (n:=1) sG ki 0
 have qY:=fT (size:=4) (n:=n) hg iw (i*4)
 have h63:c≤9223372036854775807:=by unfold maxLen at hc;omega
 have hn5:n*4≤cur.size:=by omega
 obtain⟨cur1,eR⟩:∃cur1:Array Value,cur1=(cur.toList.take ((i+1)*4)++xs.drop (i*4)++cur.toList.drop ((i+1)*4+(xs.drop (i*4)).length)).toArray:=⟨_,rfl⟩
 have xD:(xs.drop (i*4)).length=(n-i)*4:=by rw[List.length_drop,wm];omega
 have P7:∀(W:World),W.heap=w.heap→∀ty dc sc,(Builtin.copy_ #[39,39] ty #[.slice (some ⟨g,(i+1)*4,none⟩) (n-i) dc,.slice (some ⟨g,i*4,none⟩) (n+1-i) sc]).run Tryz.prog W=.ok (goInt (n-i:Nat)) (W.setRow g cur1):=fun W hW ty dc sc=>by
  have:=b7 (P:=Tryz.prog) W 39 39 ty 118 4 g ((i+1)*4) (n-i) dc ⟨g,i*4,none⟩ (n+1-i) sc cur 118 (xs.drop (i*4)) ht hz (by rw[hW];exact hg) (by rw[xD];simp only[Nat.min_def];split<;>omega)
   (fun j v hj=>by have:=qY j v hj;simpa only[World.cell?,hW] using this) (by omega) (fun q hq=>h1 q (List.mem_of_mem_drop hq))
  rw[this,eR]
  congr 2
  simp only[Nat.min_def];split<;>omega
 have Fs:cur1.size=cur.size:=by rw[eR];simp;omega
 obtain⟨cur3,mz⟩:∃cur3:Array Value,cur3=(cur1.toList.take (i*4)++ys++cur1.toList.drop (i*4+ys.length)).toArray:=⟨_,rfl⟩
 have P8:∀(W:World),W.heap[g]? = some (.cells cur1 118 (0,0))→W.heap[g2]? = w.heap[g2]?→∀ty dc sc,(Builtin.copy_ #[39,39] ty #[.slice (some ⟨g,i*4,none⟩) (n+1-i) dc,.slice (some ⟨g2,0,none⟩) 1 sc]).run Tryz.prog W=.ok (goInt 1) (W.setRow g cur3):=fun W hW ZZ ty dc sc=>by
  have:=b7 (P:=Tryz.prog) W 39 39 ty 118 4 g (i*4) (n+1-i) dc ⟨g2,0,none⟩ 1 sc cur1 118 ys ht hz hW (by rw[Dp];simp only[Nat.min_def];split<;>omega)
   (fun j v hj=>by have:=Ch j v (by simpa using hj);simpa only[World.cell?,ct,ZZ] using this) (by omega) h2
  rw[this,mz]
  congr 2
  simp only[Nat.min_def];split<;>omega
 have Em:IntKind.i64.wrap ((i:Int)+1)=(i:Int)+1:=by rw[IntKind.wrap_i64];omega
 have Ny:IntKind.i64.wrap ((n:Int)+1)=(n:Int)+1:=by rw[IntKind.wrap_i64];omega
 have S5:(0:Int)≤(i:Int)+1:=by omega
 have l9:i≤n:=by omega
 have P9:((i:Int)+1).toNat=i+1:=by omega
 have Cf:¬(c=i+1):=by omega
 have hb3:(i:Int)≤(n:Int)+1:=by omega
 have hb4:¬(c=i):=by omega
 have B4:¬((i:Int)=(n:Int)):=by omega
 have Iq:¬((c:Int)<(n:Int)+1):=by omega
 have R6:cur3.size=cur.size:=by rw[mz];simp;omega
 have jm:cur3.toList.take ((n+1)*4)=xs.take (i*4)++(ys++xs.drop (i*4)):=A9 (sz:=4) (cur1:=cur1.toList) (cur3:=cur3.toList) iw (by simp;omega) (by rw[Dp]) l9 (by rw[eR]) (by rw[mz])
 clear mz eR xD iw ki
 have G7:=P8 (w.drew.setRow g cur1) (setRow_heap w.drew g cur _ 118 _ hg) (_root_.Go.setRow_other w.drew g g2 _ bq)
 have mixed:Tryz.prog.follows .mixedOrders=true:=by kernel_rfl
 go_enter Tryz.func211,Tryz.ntmps211
 go_wp2_with (simp only[R5])
 go_region_law (go_loud (refine step_copy_runI rfl _ _ 39 39 rfl (.slice (some ⟨g,(i+1)*4,none⟩) (n-i) (c-(i+1))) (.slice (some ⟨g,i*4,none⟩) (n+1-i) (c-i)) (by simp[Act.eval,Act.put]) (by simp[Act.eval,Act.put]) (P7 w.drew rfl 3 (c-(i+1)) (c-i)) ?_))
 go_wp2_with (simp only[G7])
 go_ret
 refine⟨rfl,cur3,setRow_heap _ g cur1 _ 118 _ (setRow_heap w.drew g cur _ 118 _ hg),R6,jm,⟨rfl,rfl,rfl,by simp[World.setRow],fun k hk MD=>?_⟩⟩
 have vv:k≠g:=fun e=>MD (by rw[e])
 rw[_root_.Go.setRow_other _ g k _ vv,_root_.Go.setRow_other _ g k _ vv];rfl
set_option maxHeartbeats 4000000 in
set_option maxRecDepth 100000 in
theorem Hf(w:World)(g c g2 c2 n i:Nat)(xs ys:List Value)(cur cX:Array Value)(hg:w.heap[g]? = some (.cells cur 118 (0,0)))(iQ:cur.size=c*4)(iw:cur.toList.take (n*4)=xs)(wm:xs.length=n*4)
  (sG:w.heap[g2]? = some (.cells cX 118 (0,0))) (pN:cX.size=c2*4) (tJ:0<c2) (ki:cX.toList.take (1*4)=ys) (Dp:ys.length=1*4) (bq:g2≠g) (hi:i<n) (Cd:n≤c) (iv:c<n+1) (hm:n+1≤fB)
  (h1:∀q∈xs,q.oneCell'=true) (h2:∀q∈ys,q.oneCell'=true) :
  Calls Tryz.prog 211 #[.slice (some ⟨g,0,none⟩) n c,.int .i64 i,.slice (some ⟨g2,0,none⟩) 1 c2] w fun en w'=>∃G,en=.returned (.slice (some ⟨w.heap.size,0,none⟩) (n+1) G) ∧
   ∃c6:Array Value,w'.heap[w.heap.size]? = some (.cells c6 118 (0,0))∧c6.size=G*4∧n+1≤G∧G≤maxLen∧c6.toList.take ((n+1)*4)=xs.take (i*4)++(ys++xs.drop (i*4))∧w.grownBy w' (some g):=by
 have ht:Tryz.prog.underlying 39=some (.slice 118):=by kernel_rfl
 have P9:Tryz.prog.underlying 3=some (.int .i64):=by kernel_rfl
 have hz:(Tryz.prog.info? 118).map (·.size)=some 4:=by kernel_rfl
 obtain⟨i0,z0,he⟩:=cv (P:=Tryz.prog) (e:=118) (k:=.pair (.pair (.int .i64) (.int .i64)) (.pair .str (.int .i64))) (by kernel_rfl)
 have B7:z0.cells.size=4:=he.r8
 have vH:i0.size=4:=he.size
 have Cv:=he.bytes
 have Ch:=fT (size:=4) (n:=1) sG ki 0
 have qY:=fT (size:=4) (n:=n) hg iw (i*4)
 have G9:=fT (size:=4) (n:=n) hg iw 0
 have R7:g<w.heap.size:=(Array.getElem?_eq_some_iff.1 hg).1
 have Qa:g2<w.heap.size:=(Array.getElem?_eq_some_iff.1 sG).1
 unfold fB at hm
 have jA:(n+1)*i0.bytes≤140737488355328:=Nat.le_trans (Nat.mul_le_mul hm Cv) (by decide)
 have hold:(Builtin.firstCells i0.size i (.slice (some ⟨g,0,none⟩) i c)).run Tryz.prog w.drew=.ok (xs.take (i*4)).toArray w.drew:=by
  rw[vH]
  exact run_firstCells_some w.drew 4 i ⟨g,0,none⟩ i c (xs.take (i*4)) (by rw[List.length_take];omega) (fun j v hj=>by
   rw[List.getElem?_take]at hj
   split at hj
   ·exact G9 j v hj
   ·cases hj)
 obtain⟨G,hG⟩:∃G,G=grownCap w (n+1) c 118:=⟨_,rfl⟩
 obtain⟨iy,pO⟩:∃iy:Array Value,iy=(xs.take (i*4)).toArray++Builtin.zeroCells z0.cells (n+1-i)++Builtin.zeroCells z0.cells (G-(n+1)):=⟨_,rfl⟩
 have ON:i+(n+1-i)=n+1:=by omega
 have R8:∀ty,(Builtin.append_ #[39,3] ty #[.slice (some ⟨g,0,none⟩) i c,.int .i64 ((n:Int)+1-(i:Int))]).run Tryz.prog w=.ok (.slice (some ⟨w.heap.size,0,none⟩) (n+1) G) (w.drew.alloc (.cells iy 118)):=fun ty=>by
  have h:=Lib.run_append_grow_zeros w 39 3 ty 118 i0 z0 .i64 .i64 ht P9 he.info he.zero (some ⟨g,0,none⟩) i c (xs.take (i*4)) hold (n+1-i) (by omega) (by omega) (by omega) (by omega)
   (Nat.le_trans (Nat.mul_le_mul_right _ (show n+1-i≤n+1 by omega)) (by omega)) (by rw[ON];exact growslice_fits iv jA)
  rw[ON]at h
  rw[show(n:Int)+1-(i:Int)=((n+1-i:Nat):Int) by omega,pO,hG]
  exact h
 have XN:n+1≤G:=by rw[hG];exact grownCap_ge w _ _ _
 have Ju:G≤9223372036854775807:=by
  have:=grownCap_le_maxLen w (n+1) c 118 (by unfold maxLen;omega)
  rw[←hG]at this
  unfold maxLen at this
  omega
 have hRs:iy.size=G*4:=by
  rw[pO]
  simp[Builtin.zeroCells,B7,List.length_take,wm]
  rw[Nat.min_eq_left (by omega)];omega
 have UM:iy.toList.take (i*4)=xs.take (i*4):=by
  rw[pO]
  simp only[Array.toList_append,List.append_assoc]
  exact List.take_left' (by rw[List.length_take];omega)
 obtain⟨W1,oa⟩:∃W1,W1=w.drew.alloc (.cells iy 118):=⟨_,rfl⟩
 have qC:W1.heap[w.heap.size]? = some (.cells iy 118 (0,0)):=by rw[oa];exact(MapKept.heap_alloc w.drew (.cells iy 118)).1
 have rS:∀b,b<w.heap.size→W1.heap[b]? = w.heap[b]? := fun b hb=>by rw[oa];exact(Below.heap_alloc w.drew (.cells iy 118) b hb).trans rfl
 have rT:w.grownBy W1 none:=⟨by rw[oa];rfl,by rw[oa];rfl,by rw[oa];rfl,by have:=(Array.getElem?_eq_some_iff.1 qC).1;omega,fun k hk _=>rS k hk⟩
 obtain⟨row2,mA⟩:∃row2:Array Value,row2=(iy.toList.take (i*4)++ys++iy.toList.drop (i*4+ys.length)).toArray:=⟨_,rfl⟩
 have KA:row2.size=iy.size:=by rw[mA];simp;omega
 have Qb:∀(W:World),W.heap=W1.heap→∀ty dc sc,(Builtin.copy_ #[39,39] ty #[.slice (some ⟨w.heap.size,i*4,none⟩) (n+1-i) dc,.slice (some ⟨g2,0,none⟩) 1 sc]).run Tryz.prog W=.ok (goInt 1) (W.setRow w.heap.size row2):=fun W hW ty dc sc=>by
  have:=b7 (P:=Tryz.prog) W 39 39 ty 118 4 w.heap.size (i*4) (n+1-i) dc ⟨g2,0,none⟩ 1 sc iy 118 ys ht hz (by rw[hW];exact qC) (by rw[Dp];simp only[Nat.min_def];split<;>omega)
   (fun j v hj=>by have:=Ch j v (by simpa using hj);simpa only[World.cell?,ct,hW,rS g2 Qa] using this) (by omega) h2
  rw[this,mA]
  congr 2
  simp only[Nat.min_def];split<;>omega
 obtain⟨row3,mB⟩:∃row3:Array Value,row3=(row2.toList.take ((i+1)*4)++xs.drop (i*4)++row2.toList.drop ((i+1)*4+(xs.drop (i*4)).length)).toArray:=⟨_,rfl⟩
 have xD:(xs.drop (i*4)).length=(n-i)*4:=by rw[List.length_drop,wm];omega
 have R6:row3.size=iy.size:=by rw[mB];simp;omega
 have Qc:∀(W:World),W.heap=(W1.setRow w.heap.size row2).heap→∀ty dc sc,(Builtin.copy_ #[39,39] ty #[.slice (some ⟨w.heap.size,(i+1)*4,none⟩) (n-i) dc,.slice (some ⟨g,i*4,none⟩) (n-i) sc]).run Tryz.prog W=.ok (goInt (n-i:Nat)) (W.setRow w.heap.size row3):=fun W hW ty dc sc=>by
  have:=b7 (P:=Tryz.prog) W 39 39 ty 118 4 w.heap.size ((i+1)*4) (n-i) dc ⟨g,i*4,none⟩ (n-i) sc row2 118 (xs.drop (i*4)) ht hz (by rw[hW];exact setRow_heap W1 w.heap.size iy _ 118 _ qC) (by rw[xD];simp only[Nat.min_def];split<;>omega)
   (fun j v hj=>by have:=qY j v hj;simpa only[World.cell?,ct,hW,_root_.Go.setRow_other W1 w.heap.size g _ (Nat.ne_of_lt R7),rS g R7] using this) (by omega) (fun q hq=>h1 q (List.mem_of_mem_drop hq))
  rw[this,mB]
  congr 2
  simp only[Nat.min_def];split<;>omega
 have jm:row3.toList.take ((n+1)*4)=xs.take (i*4)++(ys++xs.drop (i*4)):=wo (sz:=4) (row:=iy.toList) (row2:=row2.toList) (row3:=row3.toList) UM (by simp;omega) wm (by rw[Dp]) (by omega) (by rw[mA]) (by rw[mB])
 clear mB mA pO xD iw ki UM G9 hold hG
 have Em:IntKind.i64.wrap ((i:Int)+1)=(i:Int)+1:=by rw[IntKind.wrap_i64];omega
 have Ny:IntKind.i64.wrap ((n:Int)+1)=(n:Int)+1:=by rw[IntKind.wrap_i64];omega
 have hw3:IntKind.i64.wrap ((n:Int)+1-(i:Int))=(n:Int)+1-(i:Int):=by rw[IntKind.wrap_i64];omega
 have S5:(0:Int)≤(i:Int)+1:=by omega
 have l9:i≤n:=by omega
 have aac:((i:Int)+1).toNat=i+1:=by omega
 have hGi:¬(G=i):=by omega
 have aad:¬(G=i+1):=by omega
 have hci:¬(c=i):=by omega
 have hb3:(i:Int)≤(n:Int):=by omega
 have B4:¬((i:Int)=(n:Int)):=by omega
 have Iq:(c:Int)<(n:Int)+1:=by omega
 rw[←oa]at R8
 clear oa
 have mixed:Tryz.prog.follows .mixedOrders=true:=by kernel_rfl
 go_enter Tryz.func211,Tryz.ntmps211
 go_wp2_with (first
  |(at_builtin;refine Lib.wpList_append_run _ rfl _ _ _ _ rfl _ _ rfl rfl _ _ (R8 _) ?_)
  |(at_builtin;refine wpList_copy_runI _ rfl _ _ 39 39 rfl _ _ rfl rfl (Qb _ (by rfl) _ _ _) ?_))
 go_region_law (go_loud (refine step_copy_runI rfl _ _ 39 39 rfl (.slice (some ⟨w.heap.size,(i+1)*4,none⟩) (n-i) (G-(i+1))) (.slice (some ⟨g,i*4,none⟩) (n-i) (c-i)) (by simp[Act.eval,Act.put]) (by simp[Act.eval,Act.put]) (Qc (W1.setRow w.heap.size row2).drew rfl 3 (G-(i+1)) (c-i)) ?_))
 go_wp2
 go_ret
 refine⟨G,rfl,row3,setRow_heap _ w.heap.size row2 _ 118 _ (setRow_heap W1 w.heap.size iy _ 118 _ qC),by omega,XN,Ju,jm,⟨rT.os,rT.tape,rT.output,by have:=rT.size;simpa[World.setRow] using this,fun k hk _=>?_⟩⟩
 rw[_root_.Go.setRow_other _ w.heap.size k _ (Nat.ne_of_lt hk)]
 exact(_root_.Go.setRow_other W1 w.heap.size k _ (Nat.ne_of_lt hk)).trans (rS k hk)
theorem Wl:EJ Tryz.prog 211 118 4:=fun w v u n i xs ys hv hu hi hm ME h1 h2=>by
 by_cases he:i=n
 ·subst he
  refine(Jw w v u i xs ys hv hu hm h2).mono fun en w' ⟨v',e1,e2,e3,e4⟩=>⟨v',e1,?_,e3,e4⟩
  have hl:=hv.1
  rw[List.take_of_length_le (by omega),List.drop_eq_nil_of_le (by omega),List.append_nil]
  exact e2
 ·have l9:i<n:=by omega
  rcases hv.2 with⟨h0,_⟩|⟨g,c,cur,rfl,Nz,hg,Cd,EL,iQ,iw⟩
  ·omega
  rcases hu.2 with⟨h0,_⟩|⟨g2,c2,cX,rfl,Hc,sG,_,_,pN,ki⟩
  ·omega
  have jz:ob (.slice (some ⟨g,0,none⟩) n c)=some g:=by simp only[ob];rw[if_neg (by omega)]
  have Qd:ob (.slice (some ⟨g2,0,none⟩) 1 c2)=some g2:=by simp only[ob];rw[if_neg (by omega)]
  have bq:g2≠g:=fun e=>ME g jz (by rw[Qd,e])
  by_cases iv:n+1≤c
  ·refine(EM w g c g2 c2 n i xs ys cur cX hg iQ iw hv.1 sG pN Hc ki hu.1 bq l9 iv EL h1 h2).mono fun en w' ⟨e1,c6,e2,e3,e4,e5⟩=>?_
   refine⟨_,e1,⟨?_,.inr ⟨g,c,c6,rfl,Nz,e2,iv,EL,by rw[e3,iQ],e4⟩⟩,by rw[jz];exact e5,.inl ?_⟩
   ·have hl:=hv.1;have sf:=hu.1
    simp only[List.length_append,List.length_take,List.length_drop];omega
   ·rw[jz];simp only[ob];rw[if_neg (by omega)]
  ·refine(Hf w g c g2 c2 n i xs ys cur cX hg iQ iw hv.1 sG pN Hc ki hu.1 bq l9 Cd (by omega) hm h1 h2).mono fun en w' ⟨G,e1,c6,e2,e3,e4,e5,e6,e7⟩=>?_
   refine⟨_,e1,⟨?_,.inr ⟨w.heap.size,G,c6,rfl,by omega,e2,e4,e5,e3,e6⟩⟩,by rw[jz];exact e7,.inr fun b hb=>?_⟩
   ·have hl:=hv.1;have sf:=hu.1
    simp only[List.length_append,List.length_take,List.length_drop];omega
   ·simp only[ob]at hb;rw[if_neg (by omega)]at hb;cases hb;omega
set_option maxHeartbeats 4000000 in
set_option maxRecDepth 100000 in
theorem Hg(w:World)(g c n i j X:Nat)(xs:List Value)(cur:Array Value)(hg:w.heap[g]? = some (.cells cur 118 (0,0)))(iQ:cur.size=c*4)(iw:cur.toList.take (n*4)=xs)(wm:xs.length=n*4)
  (zy:i<j) (Ns:j≤n) (Cd:n≤c) (hc:c≤maxLen) (hX:if c=j then X=0 else X=j*4)
  (h1:∀q∈xs,q.oneCell'=true) :
  Calls Tryz.prog 186 #[.slice (some ⟨g,0,none⟩) n c,.int .i64 i,.int .i64 j] w fun en w'=>en=.returned (.slice (some ⟨g,0,none⟩) (i+(n-j)) c) ∧
   ∃c6:Array Value,w'.heap[g]? = some (.cells c6 118 (0,0))∧c6.size=cur.size∧c6.toList.take ((i+(n-j))*4)=xs.take (i*4)++xs.drop (j*4)∧w.grownBy w' (some g):=by
 have ht:Tryz.prog.underlying 39=some (.slice 118):=by kernel_rfl
 have hz:(Tryz.prog.info? 118).map (·.size)=some 4:=by kernel_rfl
 obtain⟨zs,vH⟩:∃zs,yV Tryz.prog 118=some zs:=Option.isSome_iff_exists.1 (by kernel_rfl)
 obtain⟨i0,z0,S6,Sq,rfl,w4⟩:=ot vH
 obtain⟨i1,z1,he⟩:=cv (P:=Tryz.prog) (e:=118) (k:=.pair (.pair (.int .i64) (.int .i64)) (.pair .str (.int .i64))) (by kernel_rfl)
 have ei:i1=i0:=by have:=he.info;rw[S6]at this;cases this;rfl
 subst ei
 have ez:z1=z0:=by have:=he.zero;rw[Sq]at this;cases this;rfl
 subst ez
 have B7:z1.cells.size=4:=he.r8
 clear he vH
 have xD:(xs.drop (j*4)).length=(n-j)*4:=by rw[List.length_drop,wm];omega
 obtain⟨cur1,eR⟩:∃cur1:Array Value,cur1=(cur.toList.take (i*4)++xs.drop (j*4)++cur.toList.drop (i*4+(xs.drop (j*4)).length)).toArray:=⟨_,rfl⟩
 have Fs:cur1.size=cur.size:=by rw[eR];simp;omega
 have ME:∀ty sc,(Builtin.append_ #[39,39] ty #[.slice (some ⟨g,0,none⟩) i c,.slice (some ⟨g,X,none⟩) (n-j) sc]).run Tryz.prog w.drew=.ok (.slice (some ⟨g,0,none⟩) (i+(n-j)) c) (w.drew.setRow g cur1):=fun ty sc=>by
  by_cases MF:c=j
  ·have hnj:n=j:=by omega
   have:n-j=0:=by omega
   rw[this]at xD ⊢
   have FF:xs.drop (j*4)=[]:=List.eq_nil_of_length_eq_zero (by omega)
   rw[eW ht S6 _ _ _ (by omega) _ _,eR,FF]
   simp only[List.append_nil,List.length_nil,Nat.add_zero,List.take_append_drop,Array.toArray_toList]
   rw[setRow_self w.drew g cur 118 (0,0) hg]
  ·rw[if_neg MF]at hX
   subst hX
   rw[eR]
   exact nI (P:=Tryz.prog) w.drew 39 ty 118 4 g i c ⟨g,j*4,none⟩ (n-j) sc cur (xs.drop (j*4)) ht hz hg xD (fT (size:=4) (n:=n) (w:=w.drew) hg iw (j*4)) (fun q hq=>h1 q (List.mem_of_mem_drop hq)) (by omega) (by omega)
 obtain⟨cX,uW⟩:∃cX:Array Value,cX=(cur1.toList.take ((i+(n-j))*4)++(Builtin.zeroCells z1.cells (j-i)).toList++cur1.toList.drop ((i+(n-j))*4+(Builtin.zeroCells z1.cells (j-i)).toList.length)).toArray:=⟨_,rfl⟩
 have XO:(Builtin.zeroCells z1.cells (j-i)).toList.length=(j-i)*4:=by simp[Builtin.zeroCells,B7]
 have KA:cX.size=cur.size:=by rw[uW];simp[XO];omega
 have tI:∀ty sc,(Builtin.clear_ #[39] ty #[.slice (some ⟨g,(i+(n-j))*4,none⟩) (n-(i+(n-j))) sc]).run Tryz.prog (w.drew.setRow g cur1)=.ok (.tuple #[]) ((w.drew.setRow g cur1).setRow g cX):=fun ty sc=>by
  have:=qB (P:=Tryz.prog) (w.drew.setRow g cur1) 39 ty 118 4 g ((i+(n-j))*4) (j-i) sc cur1 i1 z1 ht S6 Sq B7 w4 (setRow_heap w.drew g cur _ 118 _ hg) (by omega) (by omega)
  rw[show n-(i+(n-j))=j-i by omega,this,uW]
 have jm:cX.toList.take ((i+(n-j))*4)=xs.take (i*4)++xs.drop (j*4):=Hd (cur1:=cur1.toList) iw (by simp;omega) (by omega) Ns (by rw[eR]) (by rw[uW])
 clear eR uW iw xD
 have h63:c≤9223372036854775807:=by unfold maxLen at hc;omega
 have l9:i≤n:=by omega
 have hic:¬(c=i):=by omega
 have hjc:j≤c:=by omega
 have bq:¬((i:Int)=(j:Int)):=by omega
 have n8:i≤j:=by omega
 have ae3:i≤c:=by omega
 have ae4:i+(n-j)≤n:=by omega
 have ae5:i+(n-j)≤c:=by omega
 have ae6:¬(c=i+(n-j)):=by omega
 have ae7:(i:Int)+((n-j:Nat):Int)≤(n:Int):=by omega
 have mixed:Tryz.prog.follows .mixedOrders=true:=by kernel_rfl
 by_cases MF:c=j
 ·rw[if_pos MF]at hX
  subst hX
  subst MF
  obtain rfl:n=c:=by omega
  simp only[Nat.sub_self,Nat.add_zero]at ME tI jm ⊢
  go_enter Tryz.func186,Tryz.ntmps186
  go_wp2_with fail
  go_region_law (go_loud (refine gW rfl _ _ 39 39 rfl (.slice (some ⟨g,0,none⟩) i n) (.slice (some ⟨g,0,none⟩) 0 0) (by simp[Act.eval,Act.put]) (by simp[Act.eval,Act.put]) (ME 39 0) ?_))
  go_wp2_with (simp only[tI])
  go_ret
  refine⟨rfl,cX,setRow_heap _ g cur1 _ 118 _ (setRow_heap w.drew g cur _ 118 _ hg),KA,jm,⟨rfl,rfl,rfl,by simp[World.setRow],fun k hk MD=>?_⟩⟩
  have vv:k≠g:=fun e=>MD (by rw[e])
  rw[_root_.Go.setRow_other _ g k _ vv,_root_.Go.setRow_other _ g k _ vv];rfl
 ·rw[if_neg MF]at hX
  subst hX
  go_enter Tryz.func186,Tryz.ntmps186
  go_wp2_with fail
  go_region_law (go_loud (refine gW rfl _ _ 39 39 rfl (.slice (some ⟨g,0,none⟩) i c) (.slice (some ⟨g,j*4,none⟩) (n-j) (c-j)) (by simp[Act.eval,Act.put]) (by simp[Act.eval,Act.put]) (ME 39 (c-j)) ?_))
  go_wp2_with (simp only[tI])
  go_ret
  refine⟨rfl,cX,setRow_heap _ g cur1 _ 118 _ (setRow_heap w.drew g cur _ 118 _ hg),KA,jm,⟨rfl,rfl,rfl,by simp[World.setRow],fun k hk MD=>?_⟩⟩
  have vv:k≠g:=fun e=>MD (by rw[e])
  rw[_root_.Go.setRow_other _ g k _ vv,_root_.Go.setRow_other _ g k _ vv];rfl
theorem Wm:Jv Tryz.prog 186 118 4:=fun w v n i j xs hv zy Ns hm h1=>by
 rcases hv.2 with⟨h0,_⟩|⟨g,c,cur,rfl,Nz,hg,Cd,EL,iQ,iw⟩
 ·omega
 have jz:ob (.slice (some ⟨g,0,none⟩) n c)=some g:=by simp only[ob];rw[if_neg (by omega)]
 refine(Hg w g c n i j (if c=j then 0 else j*4) xs cur hg iQ iw hv.1 zy Ns Cd EL (by split<;>rfl) h1).mono fun en w' ⟨e1,c6,e2,e3,e4,e5⟩=>?_
 refine⟨_,e1,⟨?_,.inr ⟨g,c,c6,rfl,Nz,e2,by omega,EL,by rw[e3,iQ],e4⟩⟩,by rw[jz];exact e5,?_⟩
 ·have hl:=hv.1
  simp only[List.length_append,List.length_take,List.length_drop];omega
 ·rw[jz];simp only[ob];rw[if_neg (by omega)]
end Go.Vs
namespace Go.Vs
open Go.Proofs Go.RowKit
set_option maxHeartbeats 4000000 in
set_option maxRecDepth 100000 in
theorem Jx(w:World)(v u:Value)(n:Nat)(xs ys:List Value)(hv:dx w 54 6 v n xs)(hu:dx w 54 6 u 1 ys)(hm:n+1≤fB)(h1:∀q∈ys,q.oneCell'=true) :
  Calls Tryz.prog 233 #[v,.int .i64 n,u] w fun en w'=>∃v',en=.returned v'∧dx w' 54 6 v' (n+1) (xs++ys)∧w.grownBy w' (ob v)∧(ob v'=ob v∨∀b,ob v'=some b→w.heap.size≤b):=by
 have ht:Tryz.prog.underlying 42=some (.slice 54):=by kernel_rfl
 obtain⟨i0,z0,he⟩:=cv (P:=Tryz.prog) (e:=54) (k:=.pair (.pair (.pair (.int .i64) (.int .i64)) (.int .i64)) (.pair (.pair (.int .i64) (.int .i64)) (.int .i64))) (by kernel_rfl)
 have vG:LJ w 6 u 1 ys:=by
  refine⟨hu.1,h1,.inr ?_⟩
  rcases hu.2 with⟨h0,_⟩|⟨g,cap,cur,rfl,_,hg,_,_,hc,iw⟩
  ·cases h0
  ·refine⟨_,_,rfl,fun j q hj=>?_⟩
   rw[cg,Nat.zero_add]
   rw[←iw,List.getElem?_take]at hj
   split at hj
   ·simp[World.cell?,hg];simpa using hj
   ·cases hj
 obtain⟨v',w',dk,h4,h5,h6⟩:=dD (P:=Tryz.prog) (ty:=42) ht he hv vG hm
 obtain⟨A,c,rfl⟩:=hv.slice
 have Cd:n≤c:=by
  rcases hv.2 with⟨h0,A,e⟩|⟨g,cap,cur,e,hc,h2,h3,_⟩
  ·omega
  ·cases e;exact h3
 obtain⟨B,cu,rfl⟩:=hu.slice
 have ZY:n≤1073741824:=by unfold fB at hm;omega
 go_enter Tryz.func233,Tryz.ntmps233
 go_wp2_with (at_builtin;refine Lib.wpList_append_run _ rfl _ _ _ _ rfl _ _ rfl rfl _ _ dk ?_)
 all_goals go_ret
 all_goals first|exact⟨_,rfl,h4,h5,h6⟩|(subst_vars;exact⟨_,rfl,h4,h5,h6⟩)
set_option maxHeartbeats 4000000 in
set_option maxRecDepth 100000 in
theorem EN(w:World)(g c g2 c2 n i:Nat)(xs ys:List Value)(cur cX:Array Value)(hg:w.heap[g]? = some (.cells cur 54 (0,0)))(iQ:cur.size=c*6)(iw:cur.toList.take (n*6)=xs)(wm:xs.length=n*6)
  (sG:w.heap[g2]? = some (.cells cX 54 (0,0))) (pN:cX.size=c2*6) (tJ:0<c2) (ki:cX.toList.take (1*6)=ys) (Dp:ys.length=1*6) (bq:g2≠g) (hi:i<n) (iv:n+1≤c) (hc:c≤maxLen)
  (h1:∀q∈xs,q.oneCell'=true) (h2:∀q∈ys,q.oneCell'=true) :
  Calls Tryz.prog 233 #[.slice (some ⟨g,0,none⟩) n c,.int .i64 i,.slice (some ⟨g2,0,none⟩) 1 c2] w fun en w'=>en=.returned (.slice (some ⟨g,0,none⟩) (n+1) c) ∧
   ∃c6:Array Value,w'.heap[g]? = some (.cells c6 54 (0,0))∧c6.size=cur.size∧c6.toList.take ((n+1)*6)=xs.take (i*6)++(ys++xs.drop (i*6))∧w.grownBy w' (some g):=by
 have ht:Tryz.prog.underlying 42=some (.slice 54):=by kernel_rfl
 have hz:(Tryz.prog.info? 54).map (·.size)=some 6:=by kernel_rfl
 have vH:∀w,(Go.sizeOf 54).run Tryz.prog w=.ok 6 w:=fun w=>by
  cases hq:Tryz.prog.info? 54 with
  |none=>rw[hq]at hz;cases hz
  |some i=>rw[hq]at hz;simp at hz;simp[sizeOf,typeInfo,hq,hz]
 have R5:∀a2 lb cb,(callFunc 246 #[.slice (some ⟨g2,0,none⟩) 1 c2,.slice (some ⟨g,a2,none⟩) lb cb]).run Tryz.prog w=.ok (.value (.bool false)) w:=fun a2 lb cb=>by
  rw[run_callFunc_extern Tryz.func246 (by kernel_rfl) (by kernel_rfl) (by kernel_rfl) (e:=Extern.SlicesOverlaps.overlaps #[42,42] #[4]) (by kernel_rfl),
   Lib.run_overlaps_apart w 42 4 54 ht 6 vH ⟨g2,0,none⟩ ⟨g,a2,none⟩ 1 c2 lb cb bq 54 54 cX.size cur.size (by simp[World.shape?,sG]) (by simp[World.shape?,hg]) (by omega) (by simp[World.frozen?,sG]) (by simp[World.frozen?,sG])]
  rfl
 have Ch:=fT (size:=6) (n:=1) sG ki 0
 have qY:=fT (size:=6) (n:=n) hg iw (i*6)
 have h63:c≤9223372036854775807:=by unfold maxLen at hc;omega
 have hn5:n*6≤cur.size:=by omega
 obtain⟨cur1,eR⟩:∃cur1:Array Value,cur1=(cur.toList.take ((i+1)*6)++xs.drop (i*6)++cur.toList.drop ((i+1)*6+(xs.drop (i*6)).length)).toArray:=⟨_,rfl⟩
 have xD:(xs.drop (i*6)).length=(n-i)*6:=by rw[List.length_drop,wm];omega
 have P7:∀(W:World),W.heap=w.heap→∀ty dc sc,(Builtin.copy_ #[42,42] ty #[.slice (some ⟨g,(i+1)*6,none⟩) (n-i) dc,.slice (some ⟨g,i*6,none⟩) (n+1-i) sc]).run Tryz.prog W=.ok (goInt (n-i:Nat)) (W.setRow g cur1):=fun W hW ty dc sc=>by
  have:=b7 (P:=Tryz.prog) W 42 42 ty 54 6 g ((i+1)*6) (n-i) dc ⟨g,i*6,none⟩ (n+1-i) sc cur 54 (xs.drop (i*6)) ht hz (by rw[hW];exact hg) (by rw[xD];simp only[Nat.min_def];split<;>omega)
   (fun j v hj=>by have:=qY j v hj;simpa only[World.cell?,hW] using this) (by omega) (fun q hq=>h1 q (List.mem_of_mem_drop hq))
  rw[this,eR]
  congr 2
  simp only[Nat.min_def];split<;>omega
 have Fs:cur1.size=cur.size:=by rw[eR];simp;omega
 obtain⟨cur3,mz⟩:∃cur3:Array Value,cur3=(cur1.toList.take (i*6)++ys++cur1.toList.drop (i*6+ys.length)).toArray:=⟨_,rfl⟩
 have P8:∀(W:World),W.heap[g]? = some (.cells cur1 54 (0,0))→W.heap[g2]? = w.heap[g2]?→∀ty dc sc,(Builtin.copy_ #[42,42] ty #[.slice (some ⟨g,i*6,none⟩) (n+1-i) dc,.slice (some ⟨g2,0,none⟩) 1 sc]).run Tryz.prog W=.ok (goInt 1) (W.setRow g cur3):=fun W hW ZZ ty dc sc=>by
  have:=b7 (P:=Tryz.prog) W 42 42 ty 54 6 g (i*6) (n+1-i) dc ⟨g2,0,none⟩ 1 sc cur1 54 ys ht hz hW (by rw[Dp];simp only[Nat.min_def];split<;>omega)
   (fun j v hj=>by have:=Ch j v (by simpa using hj);simpa only[World.cell?,ct,ZZ] using this) (by omega) h2
  rw[this,mz]
  congr 2
  simp only[Nat.min_def];split<;>omega
 have Em:IntKind.i64.wrap ((i:Int)+1)=(i:Int)+1:=by rw[IntKind.wrap_i64];omega
 have Ny:IntKind.i64.wrap ((n:Int)+1)=(n:Int)+1:=by rw[IntKind.wrap_i64];omega
 have S5:(0:Int)≤(i:Int)+1:=by omega
 have l9:i≤n:=by omega
 have P9:((i:Int)+1).toNat=i+1:=by omega
 have Cf:¬(c=i+1):=by omega
 have hb3:(i:Int)≤(n:Int)+1:=by omega
 have hb4:¬(c=i):=by omega
 have B4:¬((i:Int)=(n:Int)):=by omega
 have Iq:¬((c:Int)<(n:Int)+1):=by omega
 have R6:cur3.size=cur.size:=by rw[mz];simp;omega
 have jm:cur3.toList.take ((n+1)*6)=xs.take (i*6)++(ys++xs.drop (i*6)):=A9 (sz:=6) (cur1:=cur1.toList) (cur3:=cur3.toList) iw (by simp;omega) (by rw[Dp]) l9 (by rw[eR]) (by rw[mz])
 clear mz eR xD iw ki
 have G7:=P8 (w.drew.setRow g cur1) (setRow_heap w.drew g cur _ 54 _ hg) (_root_.Go.setRow_other w.drew g g2 _ bq)
 have mixed:Tryz.prog.follows .mixedOrders=true:=by kernel_rfl
 go_enter Tryz.func233,Tryz.ntmps233
 go_wp2_with (simp only[R5])
 go_region_law (go_loud (refine step_copy_runI rfl _ _ 42 42 rfl (.slice (some ⟨g,(i+1)*6,none⟩) (n-i) (c-(i+1))) (.slice (some ⟨g,i*6,none⟩) (n+1-i) (c-i)) (by simp[Act.eval,Act.put]) (by simp[Act.eval,Act.put]) (P7 w.drew rfl 3 (c-(i+1)) (c-i)) ?_))
 go_wp2_with (simp only[G7])
 go_ret
 refine⟨rfl,cur3,setRow_heap _ g cur1 _ 54 _ (setRow_heap w.drew g cur _ 54 _ hg),R6,jm,⟨rfl,rfl,rfl,by simp[World.setRow],fun k hk MD=>?_⟩⟩
 have vv:k≠g:=fun e=>MD (by rw[e])
 rw[_root_.Go.setRow_other _ g k _ vv,_root_.Go.setRow_other _ g k _ vv];rfl
set_option maxHeartbeats 4000000 in
set_option maxRecDepth 100000 in
theorem Hh(w:World)(g c g2 c2 n i:Nat)(xs ys:List Value)(cur cX:Array Value)(hg:w.heap[g]? = some (.cells cur 54 (0,0)))(iQ:cur.size=c*6)(iw:cur.toList.take (n*6)=xs)(wm:xs.length=n*6)
  (sG:w.heap[g2]? = some (.cells cX 54 (0,0))) (pN:cX.size=c2*6) (tJ:0<c2) (ki:cX.toList.take (1*6)=ys) (Dp:ys.length=1*6) (bq:g2≠g) (hi:i<n) (Cd:n≤c) (iv:c<n+1) (hm:n+1≤fB)
  (h1:∀q∈xs,q.oneCell'=true) (h2:∀q∈ys,q.oneCell'=true) :
  Calls Tryz.prog 233 #[.slice (some ⟨g,0,none⟩) n c,.int .i64 i,.slice (some ⟨g2,0,none⟩) 1 c2] w fun en w'=>∃G,en=.returned (.slice (some ⟨w.heap.size,0,none⟩) (n+1) G) ∧
   ∃c6:Array Value,w'.heap[w.heap.size]? = some (.cells c6 54 (0,0))∧c6.size=G*6∧n+1≤G∧G≤maxLen∧c6.toList.take ((n+1)*6)=xs.take (i*6)++(ys++xs.drop (i*6))∧w.grownBy w' (some g):=by
 have ht:Tryz.prog.underlying 42=some (.slice 54):=by kernel_rfl
 have P9:Tryz.prog.underlying 3=some (.int .i64):=by kernel_rfl
 have hz:(Tryz.prog.info? 54).map (·.size)=some 6:=by kernel_rfl
 obtain⟨i0,z0,he⟩:=cv (P:=Tryz.prog) (e:=54) (k:=.pair (.pair (.pair (.int .i64) (.int .i64)) (.int .i64)) (.pair (.pair (.int .i64) (.int .i64)) (.int .i64))) (by kernel_rfl)
 have B7:z0.cells.size=6:=he.r8
 have vH:i0.size=6:=he.size
 have Cv:=he.bytes
 have Ch:=fT (size:=6) (n:=1) sG ki 0
 have qY:=fT (size:=6) (n:=n) hg iw (i*6)
 have G9:=fT (size:=6) (n:=n) hg iw 0
 have R7:g<w.heap.size:=(Array.getElem?_eq_some_iff.1 hg).1
 have Qa:g2<w.heap.size:=(Array.getElem?_eq_some_iff.1 sG).1
 unfold fB at hm
 have jA:(n+1)*i0.bytes≤140737488355328:=Nat.le_trans (Nat.mul_le_mul hm Cv) (by decide)
 have hold:(Builtin.firstCells i0.size i (.slice (some ⟨g,0,none⟩) i c)).run Tryz.prog w.drew=.ok (xs.take (i*6)).toArray w.drew:=by
  rw[vH]
  exact run_firstCells_some w.drew 6 i ⟨g,0,none⟩ i c (xs.take (i*6)) (by rw[List.length_take];omega) (fun j v hj=>by
   rw[List.getElem?_take]at hj
   split at hj
   ·exact G9 j v hj
   ·cases hj)
 obtain⟨G,hG⟩:∃G,G=grownCap w (n+1) c 54:=⟨_,rfl⟩
 obtain⟨iy,pO⟩:∃iy:Array Value,iy=(xs.take (i*6)).toArray++Builtin.zeroCells z0.cells (n+1-i)++Builtin.zeroCells z0.cells (G-(n+1)):=⟨_,rfl⟩
 have ON:i+(n+1-i)=n+1:=by omega
 have R8:∀ty,(Builtin.append_ #[42,3] ty #[.slice (some ⟨g,0,none⟩) i c,.int .i64 ((n:Int)+1-(i:Int))]).run Tryz.prog w=.ok (.slice (some ⟨w.heap.size,0,none⟩) (n+1) G) (w.drew.alloc (.cells iy 54)):=fun ty=>by
  have h:=Lib.run_append_grow_zeros w 42 3 ty 54 i0 z0 .i64 .i64 ht P9 he.info he.zero (some ⟨g,0,none⟩) i c (xs.take (i*6)) hold (n+1-i) (by omega) (by omega) (by omega) (by omega)
   (Nat.le_trans (Nat.mul_le_mul_right _ (show n+1-i≤n+1 by omega)) (by omega)) (by rw[ON];exact growslice_fits iv jA)
  rw[ON]at h
  rw[show(n:Int)+1-(i:Int)=((n+1-i:Nat):Int) by omega,pO,hG]
  exact h
 have XN:n+1≤G:=by rw[hG];exact grownCap_ge w _ _ _
 have Ju:G≤9223372036854775807:=by
  have:=grownCap_le_maxLen w (n+1) c 54 (by unfold maxLen;omega)
  rw[←hG]at this
  unfold maxLen at this
  omega
 have hRs:iy.size=G*6:=by
  rw[pO]
  simp[Builtin.zeroCells,B7,List.length_take,wm]
  rw[Nat.min_eq_left (by omega)];omega
 have UM:iy.toList.take (i*6)=xs.take (i*6):=by
  rw[pO]
  simp only[Array.toList_append,List.append_assoc]
  exact List.take_left' (by rw[List.length_take];omega)
 obtain⟨W1,oa⟩:∃W1,W1=w.drew.alloc (.cells iy 54):=⟨_,rfl⟩
 have qC:W1.heap[w.heap.size]? = some (.cells iy 54 (0,0)):=by rw[oa];exact(MapKept.heap_alloc w.drew (.cells iy 54)).1
 have rS:∀b,b<w.heap.size→W1.heap[b]? = w.heap[b]? := fun b hb=>by rw[oa];exact(Below.heap_alloc w.drew (.cells iy 54) b hb).trans rfl
 have rT:w.grownBy W1 none:=⟨by rw[oa];rfl,by rw[oa];rfl,by rw[oa];rfl,by have:=(Array.getElem?_eq_some_iff.1 qC).1;omega,fun k hk _=>rS k hk⟩
 obtain⟨row2,mA⟩:∃row2:Array Value,row2=(iy.toList.take (i*6)++ys++iy.toList.drop (i*6+ys.length)).toArray:=⟨_,rfl⟩
 have KA:row2.size=iy.size:=by rw[mA];simp;omega
 have Qb:∀(W:World),W.heap=W1.heap→∀ty dc sc,(Builtin.copy_ #[42,42] ty #[.slice (some ⟨w.heap.size,i*6,none⟩) (n+1-i) dc,.slice (some ⟨g2,0,none⟩) 1 sc]).run Tryz.prog W=.ok (goInt 1) (W.setRow w.heap.size row2):=fun W hW ty dc sc=>by
  have:=b7 (P:=Tryz.prog) W 42 42 ty 54 6 w.heap.size (i*6) (n+1-i) dc ⟨g2,0,none⟩ 1 sc iy 54 ys ht hz (by rw[hW];exact qC) (by rw[Dp];simp only[Nat.min_def];split<;>omega)
   (fun j v hj=>by have:=Ch j v (by simpa using hj);simpa only[World.cell?,ct,hW,rS g2 Qa] using this) (by omega) h2
  rw[this,mA]
  congr 2
  simp only[Nat.min_def];split<;>omega
 obtain⟨row3,mB⟩:∃row3:Array Value,row3=(row2.toList.take ((i+1)*6)++xs.drop (i*6)++row2.toList.drop ((i+1)*6+(xs.drop (i*6)).length)).toArray:=⟨_,rfl⟩
 have xD:(xs.drop (i*6)).length=(n-i)*6:=by rw[List.length_drop,wm];omega
 have R6:row3.size=iy.size:=by rw[mB];simp;omega
 have Qc:∀(W:World),W.heap=(W1.setRow w.heap.size row2).heap→∀ty dc sc,(Builtin.copy_ #[42,42] ty #[.slice (some ⟨w.heap.size,(i+1)*6,none⟩) (n-i) dc,.slice (some ⟨g,i*6,none⟩) (n-i) sc]).run Tryz.prog W=.ok (goInt (n-i:Nat)) (W.setRow w.heap.size row3):=fun W hW ty dc sc=>by
  have:=b7 (P:=Tryz.prog) W 42 42 ty 54 6 w.heap.size ((i+1)*6) (n-i) dc ⟨g,i*6,none⟩ (n-i) sc row2 54 (xs.drop (i*6)) ht hz (by rw[hW];exact setRow_heap W1 w.heap.size iy _ 54 _ qC) (by rw[xD];simp only[Nat.min_def];split<;>omega)
   (fun j v hj=>by have:=qY j v hj;simpa only[World.cell?,ct,hW,_root_.Go.setRow_other W1 w.heap.size g _ (Nat.ne_of_lt R7),rS g R7] using this) (by omega) (fun q hq=>h1 q (List.mem_of_mem_drop hq))
  rw[this,mB]
  congr 2
  simp only[Nat.min_def];split<;>omega
 have jm:row3.toList.take ((n+1)*6)=xs.take (i*6)++(ys++xs.drop (i*6)):=wo (sz:=6) (row:=iy.toList) (row2:=row2.toList) (row3:=row3.toList) UM (by simp;omega) wm (by rw[Dp]) (by omega) (by rw[mA]) (by rw[mB])
 clear mB mA pO xD iw ki UM G9 hold hG
 have Em:IntKind.i64.wrap ((i:Int)+1)=(i:Int)+1:=by rw[IntKind.wrap_i64];omega
 have Ny:IntKind.i64.wrap ((n:Int)+1)=(n:Int)+1:=by rw[IntKind.wrap_i64];omega
 have hw3:IntKind.i64.wrap ((n:Int)+1-(i:Int))=(n:Int)+1-(i:Int):=by rw[IntKind.wrap_i64];omega
 have S5:(0:Int)≤(i:Int)+1:=by omega
 have l9:i≤n:=by omega
 have aac:((i:Int)+1).toNat=i+1:=by omega
 have hGi:¬(G=i):=by omega
 have aad:¬(G=i+1):=by omega
 have hci:¬(c=i):=by omega
 have hb3:(i:Int)≤(n:Int):=by omega
 have B4:¬((i:Int)=(n:Int)):=by omega
 have Iq:(c:Int)<(n:Int)+1:=by omega
 rw[←oa]at R8
 clear oa
 have mixed:Tryz.prog.follows .mixedOrders=true:=by kernel_rfl
 go_enter Tryz.func233,Tryz.ntmps233
 go_wp2_with (first
  |(at_builtin;refine Lib.wpList_append_run _ rfl _ _ _ _ rfl _ _ rfl rfl _ _ (R8 _) ?_)
  |(at_builtin;refine wpList_copy_runI _ rfl _ _ 42 42 rfl _ _ rfl rfl (Qb _ (by rfl) _ _ _) ?_))
 go_region_law (go_loud (refine step_copy_runI rfl _ _ 42 42 rfl (.slice (some ⟨w.heap.size,(i+1)*6,none⟩) (n-i) (G-(i+1))) (.slice (some ⟨g,i*6,none⟩) (n-i) (c-i)) (by simp[Act.eval,Act.put]) (by simp[Act.eval,Act.put]) (Qc (W1.setRow w.heap.size row2).drew rfl 3 (G-(i+1)) (c-i)) ?_))
 go_wp2
 go_ret
 refine⟨G,rfl,row3,setRow_heap _ w.heap.size row2 _ 54 _ (setRow_heap W1 w.heap.size iy _ 54 _ qC),by omega,XN,Ju,jm,⟨rT.os,rT.tape,rT.output,by have:=rT.size;simpa[World.setRow] using this,fun k hk _=>?_⟩⟩
 rw[_root_.Go.setRow_other _ w.heap.size k _ (Nat.ne_of_lt hk)]
 exact(_root_.Go.setRow_other W1 w.heap.size k _ (Nat.ne_of_lt hk)).trans (rS k hk)
theorem Wn:EJ Tryz.prog 233 54 6:=fun w v u n i xs ys hv hu hi hm ME h1 h2=>by
 by_cases he:i=n
 ·subst he
  refine(Jx w v u i xs ys hv hu hm h2).mono fun en w' ⟨v',e1,e2,e3,e4⟩=>⟨v',e1,?_,e3,e4⟩
  have hl:=hv.1
  rw[List.take_of_length_le (by omega),List.drop_eq_nil_of_le (by omega),List.append_nil]
  exact e2
 ·have l9:i<n:=by omega
  rcases hv.2 with⟨h0,_⟩|⟨g,c,cur,rfl,Nz,hg,Cd,EL,iQ,iw⟩
  ·omega
  rcases hu.2 with⟨h0,_⟩|⟨g2,c2,cX,rfl,Hc,sG,_,_,pN,ki⟩
  ·omega
  have jz:ob (.slice (some ⟨g,0,none⟩) n c)=some g:=by simp only[ob];rw[if_neg (by omega)]
  have Qd:ob (.slice (some ⟨g2,0,none⟩) 1 c2)=some g2:=by simp only[ob];rw[if_neg (by omega)]
  have bq:g2≠g:=fun e=>ME g jz (by rw[Qd,e])
  by_cases iv:n+1≤c
  ·refine(EN w g c g2 c2 n i xs ys cur cX hg iQ iw hv.1 sG pN Hc ki hu.1 bq l9 iv EL h1 h2).mono fun en w' ⟨e1,c6,e2,e3,e4,e5⟩=>?_
   refine⟨_,e1,⟨?_,.inr ⟨g,c,c6,rfl,Nz,e2,iv,EL,by rw[e3,iQ],e4⟩⟩,by rw[jz];exact e5,.inl ?_⟩
   ·have hl:=hv.1;have sf:=hu.1
    simp only[List.length_append,List.length_take,List.length_drop];omega
   ·rw[jz];simp only[ob];rw[if_neg (by omega)]
  ·refine(Hh w g c g2 c2 n i xs ys cur cX hg iQ iw hv.1 sG pN Hc ki hu.1 bq l9 Cd (by omega) hm h1 h2).mono fun en w' ⟨G,e1,c6,e2,e3,e4,e5,e6,e7⟩=>?_
   refine⟨_,e1,⟨?_,.inr ⟨w.heap.size,G,c6,rfl,by omega,e2,e4,e5,e3,e6⟩⟩,by rw[jz];exact e7,.inr fun b hb=>?_⟩
   ·have hl:=hv.1;have sf:=hu.1
    simp only[List.length_append,List.length_take,List.length_drop];omega
   ·simp only[ob]at hb;rw[if_neg (by omega)]at hb;cases hb;omega
end Go.Vs
namespace Go.Vs
open Go.Proofs Go.RowKit
def K0(P:Program)(f:FuncId)(e:TypeId)(size:Nat):Prop :=
 ∀(w:World) (n:Nat),n≤fB→Calls P f #[.slice none 0 0,.int .i64 n] w fun en w'=>∃v',en=.returned v'∧dx w' e size v' 0 []∧w.grownBy w' none∧∀b,ob v'=some b→w.heap.size≤b
set_option maxHeartbeats 4000000 in
set_option maxRecDepth 100000 in
theorem S7:K0 Tryz.prog 220 33 3:=fun w n hm=>by
 have ht:Tryz.prog.underlying 50=some (.slice 33):=by kernel_rfl
 have P9:Tryz.prog.underlying 3=some (.int .i64):=by kernel_rfl
 obtain⟨i0,z0,he⟩:=cv (P:=Tryz.prog) (e:=33) (k:=.pair (.pair (.int .i64) (.int .i64)) (.int .i64)) (by kernel_rfl)
 have B7:z0.cells.size=3:=he.r8
 have vH:i0.size=3:=he.size
 have Cv:=he.bytes
 unfold fB at hm
 by_cases hn:n=0
 ·subst hn
  have jz:ob (.slice none 0 0)=none:=rfl
  go_enter Tryz.func220,Tryz.ntmps220
  go_wp2
  go_ret
  exact⟨_,rfl,⟨by simp,.inl ⟨rfl,none,rfl⟩⟩,World.grownBy.refl w _,fun b hb=>by simp[ob]at hb⟩
 ·have jA:n*i0.bytes≤281474976710656:=Nat.le_trans (Nat.mul_le_mul hm Cv) (by decide)
  obtain⟨G,hG⟩:∃G,G=grownCap w n 0 33:=⟨_,rfl⟩
  obtain⟨iy,pO⟩:∃iy,iy=Builtin.zeroCells z0.cells n++Builtin.zeroCells z0.cells (G-n):=⟨_,rfl⟩
  obtain⟨W1,oa⟩:∃W1,W1=w.drew.alloc (.cells iy 33):=⟨_,rfl⟩
  have R8:∀ty,(Builtin.append_ #[50,3] ty #[.slice none 0 0,.int .i64 n]).run Tryz.prog w=.ok (.slice (some ⟨w.heap.size,0,none⟩) n G) W1:=fun ty=>by
   rw[oa,pO,hG]
   exact Lib.run_append_nil_zeros w 50 3 ty 33 i0 z0 .i64 .i64 ht P9 he.info he.zero n (by omega) (by omega) (by omega) jA
  have XN:n≤G:=by rw[hG];exact grownCap_ge w _ _ _
  have Ju:G≤9223372036854775807:=by
   have:=grownCap_le_maxLen w n 0 33 (by unfold maxLen;omega)
   rw[←hG]at this
   unfold maxLen at this
   omega
  have hRs:iy.size=G*3:=by
   rw[pO]
   simp[Builtin.zeroCells,B7]
   omega
  have qC:W1.heap[w.heap.size]? = some (.cells iy 33 (0,0)):=by rw[oa];exact(MapKept.heap_alloc w.drew (.cells iy 33)).1
  have rS:∀b,b<w.heap.size→W1.heap[b]? = w.heap[b]? := fun b hb=>by rw[oa];exact(Below.heap_alloc w.drew (.cells iy 33) b hb).trans rfl
  have rT:w.grownBy W1 none:=⟨by rw[oa];rfl,by rw[oa];rfl,by rw[oa];rfl,by have:=(Array.getElem?_eq_some_iff.1 qC).1;omega,fun k hk _=>rS k hk⟩
  clear pO oa hG
  have hn0:¬((n:Int)<0):=by omega
  have Uu:0<(n:Int):=by omega
  have XD:IntKind.i64.wrap (n:Int)=n:=by rw[IntKind.wrap_i64];omega
  have hG0:¬(G=0):=by omega
  go_enter Tryz.func220,Tryz.ntmps220
  go_wp2_with (at_builtin;refine Lib.wpList_append_run _ rfl _ _ _ _ rfl _ _ rfl rfl _ _ (R8 _) ?_)
  go_ret
  refine⟨.slice (some ⟨w.heap.size,0,none⟩) 0 G,rfl,⟨by simp,.inr ⟨w.heap.size,G,iy,rfl,by omega,qC,by omega,Ju,hRs,by simp⟩⟩,rT,fun b hb=>?_⟩
  simp only[ob]at hb;rw[if_neg (by omega)]at hb;cases hb;omega
theorem Hi{P:Program}{f:FuncId}{ty:TypeId}{k:K}(hr:K0 P f ty k.sz):gy P f (NL ty k):=by
 intro Z ψ h w B0 O N hh id e vs us g hB bz hN bg mT qX CS he
 unfold NL at he
 split at he
 rotate_left
 ·cases he
 rename_i n
 simp only[Option.some.injEq,Prod.mk.injEq]at he
 obtain⟨kI,rfl⟩:=he
 simp only[y0,Bool.and_eq_true,decide_eq_true_eq]at kI
 obtain⟨h0,h1⟩:=kI
 obtain⟨m,rfl⟩:∃m:Nat,n=m:=⟨n.toNat,by omega⟩
 simp only[ak,av]at qX
 obtain⟨v,_,rfl,rfl,u,_,rfl,rfl,rfl⟩:=qX
 have bL:N id:=hN 0 (by omega)
 refine(hr w m (by omega)).mono fun en w' ⟨v',e1,e2,e3,e4⟩=>?_
 have kk:cW ψ h w w':=cW.grown e3 (fun b e=>by cases e)
 have C2:=qe (N:=N) g hB id ty bL (k:=k) (xs:=[]) (vs:=[]) kk (fun b hb=>e3.block b (g.bM hb) (by simp)) e2 (fun i x hx=>by simp at hx) e4 (fun i ty cs hb=>ax.imp (p:=fun i=>¬N i) (q:=fun i=>i≠id) (fun a ha e=>ha (by rw[e];exact bL)) (bg i ty cs hb))
 refine⟨v',Z,dM ψ id v',e1,?_,?_⟩
 ·have hhp:(bE.new (.bF id) [(id,Ob.own (.row ty k) [])]).hp h=dM h id (some (.own (.row ty k) [])):=hP id _ h
  rw[hhp];exact C2
 ·simp only[bE.v,av]
  exact⟨e2.one,fun _=>(bh _ _ _).symm⟩
end Go.Vs
namespace Go.Vs
open Go.Proofs Go.RowKit
end Go.Vs
namespace Go.Vs
variable {P:Program}
def yc(P:Program)(g:TypeId→K→Bool):List Field→Nat→K→Bool
 |[],_,_=>false
 |[f],off,k=>(f.name != "_")&&(decide (f.offset=off)&&(decide (P.cellsOf f.type=k.sz)&&g f.type k))
 |f::f'::r,off,.pair a b=>(f.name != "_")&&(decide (f.offset=off)&&(decide (P.cellsOf f.type=a.sz)&&(g f.type a&&yc P g (f'::r) (off+a.sz) b)))
 |_,_,_=>false
def Qe(P:Program):Nat→TypeId→K→Bool
 |0,_,_=>false
 |d+1,t,k =>
  match P.underlying t,k with
  |some (.int a),.int b=>decide (a=b)
  |some .bool,.bool=>true
  |some .string,.str=>true
  |some (.struct fs),.pair a b => !P.stoodInHeld t&&yc P (Qe P d) fs.toList 0 (.pair a b)
  |_,_=>false
def VK(w:World)(Z:Nat→Prop):(k:K)→k.T→Value→Prop
 |.pair a b,x,v=>∃cs:Array Value,v=.agg cs∧aD Z w (.pair a b) x cs.toList
 |.one k,x,v=>False
 |k,x,v=>aD Z w k x [v]
theorem yF{Z:Nat→Prop}{w:World}{d:Nat}{t:TypeId}{k:K}(hk:Qe P d t k=true)(hc:P.cellsOf t=k.sz){cs:Array Value}{off:Nat}{x:k.T}(hr:aD Z w k x ((cs.toList.drop off).take k.sz)) :
  ∃v,(part t cs off).run P w=.ok v w∧VK w Z k x v:=by
 cases d with
 |zero=>simp[Qe]at hk
 |succ d =>
  have plain:k.sz=1→(P.underlying t).map IC=some false→∃v,(part t cs off).run P w=.ok v w∧aD Z w k x [v]:=fun h1 h2=>by
   rw[h1]at hr
   have hl:=hr.len
   rw[h1,List.length_take,List.length_drop,Array.length_toList]at hl
   have aF:off<cs.size:=by omega
   refine⟨cs[off],?_,?_⟩
   ·simp[part,fO h2,aF]
   ·have:(cs.toList.drop off).take 1=[cs[off]]:=by
     rw[List.drop_eq_getElem_cons (by simpa using aF)];simp
    rwa [this]at hr
  unfold Qe at hk
  split at hk
  ·rename_i a b hu
   exact plain rfl (by rw[hu];rfl)
  ·rename_i hu
   exact plain rfl (by rw[hu];rfl)
  ·rename_i hu
   exact plain rfl (by rw[hu];rfl)
  ·rename_i fs a b hu
   obtain⟨i,hi⟩:=rZ hu
   refine⟨.agg (cs.extract off (off+P.cellsOf t)),?_,_,rfl,?_⟩
   ·have h2:(P.underlying t).map IC=some true:=by rw[hu];rfl
    simp[part,fO h2,du hi]
   ·rw[Array.toList_extract,hc]
    simpa[List.extract] using hr
  ·cases hk
def iz(em:Bool)(d:Nat)(cs:Array Value):List Field→Sem Unit
 |[]=>pure ()
 |f::fs =>
  if f.name≠ "_" then do
   let a ←part f.type cs f.offset
   Instr.checkKey em d f.type a
   iz em d cs fs
  else iz em d cs fs
theorem rU(em:Bool)(w:World)(d:Nat)(t:TypeId)(cs:Array Value)(fs:Array Field)(ht:P.underlying t=some (.struct fs)) :
  (Instr.checkKey em (d+1) t (.agg cs)).run P w=(iz em d cs fs.toList).run P w:=by
 simp only[Instr.checkKey,Sem.run_bind,run_underlying ht,Result.andThen_ok]
 rw[←Array.forIn_toList]
 generalize fs.toList=l
 clear ht
 induction l generalizing w with
 |nil=>simp[iz]
 |cons f fs ih =>
  simp only[List.forIn_cons,iz,Sem.run_bind,Sem.run_ite]
  split
  ·generalize (part f.type cs f.offset).run P w=r1
   cases r1 with
   |ok a w1 =>
    simp only[Result.andThen_ok]
    generalize (Instr.checkKey em d f.type a).run P w1=r2
    cases r2 with
    |ok b w2 =>
     simp only[Result.andThen_ok,Sem.run_pure]
     exact ih w2
    |halt x w2=>simp[Result.andThen]
   |halt x w1=>simp[Result.andThen]
  ·simp only[Sem.run_pure,Result.andThen_ok]
   exact ih w
theorem Hj{Z:Nat→Prop}{D d:Nat}(em:Bool)(hg:∀t k,Qe P d t k=true→∀(w:World) (x y:k.T) (u v:Value),VK w Z k x u→VK w Z k y v→(Op.equalIn (D+d) t u v).run P w=.ok (qO k x y) w∧(Instr.checkKey em (D+d) t u).run P w=.ok () w)(w:World)(xs ys:Array Value) :
  ∀(fs:List Field) (off:Nat) (k:K),yc P (Qe P d) fs off k=true→∀(x y:k.T),aD Z w k x ((xs.toList.drop off).take k.sz)→aD Z w k y ((ys.toList.drop off).take k.sz) →
   (Op.eqFields (D+d) xs ys fs).run P w=.ok (qO k x y) w∧(iz em (D+d) xs fs).run P w=.ok () w
 |[],_,_,h,_,_,_,_=>by simp[yc]at h
 |[f],off,k,h,x,y,hx,hy=>by
  have h':f.name≠ "_"∧f.offset=off∧P.cellsOf f.type=k.sz∧Qe P d f.type k=true:=by
   cases k<;>simpa[yc] using h
  obtain⟨h0,h1,h2,h3⟩:=h'
  subst h1
  obtain⟨u,hu,hu'⟩:=yF h3 h2 hx
  obtain⟨v,hv,zu⟩:=yF h3 h2 hy
  obtain⟨e1,e2⟩:=hg _ _ h3 w x y u v hu' zu
  constructor
  ·simp only[Op.eqFields,if_pos h0,Sem.run_bind,hu,hv,e1,Result.andThen_ok]
   cases qO k x y<;>simp
  ·simp[iz,h0,hu,e2]
 |f::f'::r,off,.pair a b,h,x,y,hx,hy=>by
  simp only[yc,Bool.and_eq_true,decide_eq_true_eq,bne_iff_ne,ne_eq]at h
  obtain⟨h0,h1,h2,h3,h4⟩:=h
  subst h1
  simp only[aD,K.sz]at hx hy
  obtain⟨us,ws,ex,Qf,hx2⟩:=hx
  obtain⟨iF,ws',ey,UN,UO⟩:=hy
  have sp:∀(zs:Array Value) (us ws:List Value),us.length=a.sz→ws.length=b.sz→(zs.toList.drop f.offset).take (a.sz+b.sz)=us++ws→us=(zs.toList.drop f.offset).take a.sz∧ws=(zs.toList.drop (f.offset+a.sz)).take b.sz:=fun zs us ws l1 l2 e=>by
   rw[List.take_add,]at e
   have hl:((zs.toList.drop f.offset).take a.sz).length=us.length:=by
    have:=congrArg List.length e
    simp only[List.length_append,List.length_take,List.length_drop]at this ⊢
    omega
   obtain⟨e1,e2⟩:=List.append_inj e hl
   exact⟨e1.symm,by rw[←e2,List.drop_drop]⟩
  obtain⟨rfl,rfl⟩:=sp xs us ws Qf.len hx2.len ex
  obtain⟨rfl,rfl⟩:=sp ys iF ws' UN.len UO.len ey
  obtain⟨u,hu,hu'⟩:=yF h3 h2 Qf
  obtain⟨v,hv,zu⟩:=yF h3 h2 UN
  obtain⟨e1,e2⟩:=hg _ _ h3 w x.1 y.1 u v hu' zu
  obtain⟨e3,e4⟩:=Hj em hg w xs ys (f'::r) (f.offset+a.sz) b h4 x.2 y.2 hx2 UO
  constructor
  ·rw[Op.eqFields,if_pos h0]
   simp only[Sem.run_bind,hu,hv,e1,Result.andThen_ok,Sem.run_ite,e3,qO]
   cases qO a x.1 y.1<;>simp
  ·rw[iz,if_pos h0]
   simp only[Sem.run_bind,hu,e2,Result.andThen_ok]
   exact e4
 |f::f'::r,off,.int _,h,_,_,_,_=>by simp[yc]at h
 |f::f'::r,off,.bool,h,_,_,_,_=>by simp[yc]at h
 |f::f'::r,off,.str,h,_,_,_,_=>by simp[yc]at h
 |f::f'::r,off,.sl _,h,_,_,_,_=>by simp[yc]at h
 |f::f'::r,off,.one _,h,_,_,_,_=>by simp[yc]at h
 |f::f'::r,off,.mp _ _,h,_,_,_,_=>by simp[yc]at h
theorem K1{Z:Nat→Prop}(D:Nat)(em:Bool):∀(d:Nat) (t:TypeId) (k:K),Qe P d t k=true→∀(w:World) (x y:k.T) (u v:Value),VK w Z k x u→VK w Z k y v →
  (Op.equalIn (D+d) t u v).run P w=.ok (qO k x y) w∧(Instr.checkKey em (D+d) t u).run P w=.ok () w
 |0,_,_,h,_,_,_,_,_,_,_=>by simp[Qe]at h
 |d+1,t,k,h,w,x,y,u,v,hu,hv=>by
  rw[←Nat.add_assoc]
  unfold Qe at h
  split at h
  ·rename_i a b ht
   simp only[decide_eq_true_eq]at h;subst h
   simp only[VK,aD,List.cons.injEq,and_true]at hu hv
   subst hu;subst hv
   exact⟨run_equalIn_int w _ _ _ _ _ _ ht,by simp[Instr.checkKey,run_underlying ht]⟩
  ·rename_i ht
   simp only[VK,aD,List.cons.injEq,and_true]at hu hv
   subst hu;subst hv
   exact⟨run_equalIn_bool' w _ _ _ _ ht,by simp[Instr.checkKey,run_underlying ht]⟩
  ·rename_i ht
   simp only[VK,aD,List.cons.injEq,and_true]at hu hv
   subst hu;subst hv
   exact⟨(run_equalIn_string w _ _ _ _ ht).trans (congrArg (fun b=>Result.ok b w) (beq_toListBytes (show ByteArray from x) (show ByteArray from y)).symm),by simp[Instr.checkKey,run_underlying ht]⟩
  ·rename_i fs a b ht
   simp only[Bool.and_eq_true,Bool.not_eq_true']at h
   obtain⟨hs,hf⟩:=h
   obtain⟨xs,rfl,hx⟩:=hu
   obtain⟨ys,rfl,hy⟩:=hv
   have S8:P.fieldsOf t=fs:=by simp[Program.fieldsOf,ht]
   have wm:=hx.len
   have Dp:=hy.len
   obtain⟨e1,e2⟩:=Hj (D:=D) (Z:=Z) em (fun t k hk w x y u v hu hv=>K1 D em d t k hk w x y u v hu hv) w xs ys fs.toList 0 (.pair a b) hf x y
    (by rw[List.drop_zero,List.take_of_length_le (by omega)];exact hx) (by rw[List.drop_zero,List.take_of_length_le (by omega)];exact hy)
   constructor
   ·rw[run_equalIn_struct w (D+d) t xs ys (by rw[S8];exact ht) hs,S8];exact e1
   ·rw[rU em w (D+d) t xs fs ht];exact e2
  ·cases h
theorem MG{d:Nat}{t:TypeId}{a b:K}(hd:d≤10000)(hk:Qe P d t (.pair a b)=true)(hg:P.eqGuardType P.depth t=false):ly P t (.pair a b):=fun Z w x y xs ys hx hy=>by
 have e:10000-d+d=10000:=by omega
 have key:=fun em=>K1 (Z:=Z) (10000-d) em d t (.pair a b) hk w x y (.agg xs) (.agg ys) ⟨xs,rfl,hx⟩ ⟨ys,rfl,hy⟩
 rw[e]at key
 exact⟨(key true).1,fun op p q=>run_eqGuard_agg w op t p q xs ys hg,fun em=>(key em).2⟩
end Go.Vs
namespace Go.Vs
open Go.Proofs
theorem Qg{f:FuncId}{g:aJ}(h:Sg f=some g):(f,g)∈sgs:=by
 unfold Sg at h
 obtain⟨p,hp,rfl⟩:=Option.map_eq_some_iff.1 h
 have h1:=List.mem_of_find?_eq_some hp
 have h2:=List.find?_some hp
 have:p.1=f:=by simpa using h2
 subst this
 exact h1
theorem kT:∀f g,Sg f=some g→iU Tryz.prog (f%1000):=fun f g h=>by
 have hm:=Qg h
 have key:(sgs.all fun p=>match Tryz.prog.funcs[p.1%1000]? with|some fn => !(fn.name== "runtime.NumGoroutine")&&fn.body.isSome|none=>false)=true:=by kernel_rfl
 have:=List.all_eq_true.1 key _ hm
 simp only at this
 split at this
 ·rename_i fn hf
  simp only[Bool.and_eq_true,Bool.not_eq_true']at this
  exact⟨fn,hf,this.1,this.2⟩
 ·cases this
theorem rz:Tryz.prog.follows .mixedOrders=true:=by kernel_rfl
theorem Bc:∀t k,Eqs t=some k→ly Tryz.prog t k:=fun t k h=>by
 unfold Eqs at h
 obtain⟨p,hp,rfl⟩:=Option.map_eq_some_iff.1 h
 have h1:=List.mem_of_find?_eq_some hp
 have h2:=List.find?_some hp
 have e:p.1=t:=by simpa using h2
 subst e
 simp only[eqs,List.mem_cons,List.not_mem_nil,or_false]at h1
 rcases h1 with rfl|rfl|rfl|rfl|rfl|rfl
 all_goals exact MG (d:=5) (by omega) (by kernel_rfl) (by kernel_rfl)
end Go.Vs
set_option maxRecDepth 1000000
set_option maxHeartbeats 0
namespace Go.Vs
open Go.Proofs
def Ta:aJ:={ ps:=[.own],bs:=[.own (.row 52 dm)],rs:=[.own (.row 52 dm)] }
def Tb:aJ:={ ps:=[.own],bs:=[.own (.row 118 eg)],rs:=[.own (.row 118 eg)] }
def kU:aJ:={ ps:=[.agg 2],bs:=[.own (.row 52 dm),.own (.row 118 eg)],rs:=[.agg [.own (.row 52 dm),.own (.row 118 eg)]] }
def rB(ty:TypeId)(k:K)(h:Heap)(id:Nat):List AV→Option (Bool×bE)
 |[.bF a]=>match dN h (.row ty k) (.bF a) with
  |some xs=>some (aL 0 xs.length,.new (.bF (id+128)) [(id+128,.own (.row ty k) xs)])
  |_=>none
 |_=>none
def afc:aJ:={ ps:=[],bs:=[],rs:=[],x:=some (rB 52 dm) }
def afd:aJ:={ ps:=[],bs:=[],rs:=[],x:=some (rB 118 eg) }
def Wo:List (Nat×aJ):=[(500127,Ta),(500128,Tb)]
def UP(f:FuncId):Option aJ:=(Wo.find? (fun p=>p.1==f)).map (fun p=>p.2)
def Wp:List (Nat×aJ):=[(110,xZ),(500096,kU),(500127,afc),(500128,afd)]
def Sa(f:FuncId):Option aJ:=(Wp.find? (fun p=>p.1==f)).map (fun p=>p.2)
def Hk:Shape:=⟨[(14,.int .i64),(15,.int .i64)],[(.slot 2,20000,.box 41 [.own (.row 52 dm),.own (.row 118 eg)]),(.slot 3,20001,.box 41 [.own (.row 52 dm),.own (.row 118 eg)])],[(6,1000,(.row 52 (.pair (.pair (.int .i64) (.int .i64)) (.pair (.sl (.pair (.pair (.int .i64) (.int .i64)) (.int .i64))) (.pair .str (.int .i64)))))),(9,1020,(.row 118 (.pair (.pair (.int .i64) (.int .i64)) (.pair .str (.int .i64)))))],[]⟩
def An0(f:FuncId)(key:Nat):Option Shape:=none
def Wq(f:FuncId)(key:Nat):Option Shape:=if f=500096 then(if key=3 then some Hk else none) else none
noncomputable def Qh(SG:FuncId→Option aJ)(AN:FuncId→Nat→Option Shape)(f:FuncId)(g:aJ)(fn:Func)(F:FT)(J:JT g)(x:g.A):Option g.B:=az Tryz.prog Eqs SG F fn.ntmps (AN f) J (qc Tryz.prog g fn) fuel [.code (fn.body.getD .skip)] (entry g x)
noncomputable def Wr(SG:FuncId→Option aJ)(AN:FuncId→Nat→Option Shape)(f j:Nat)(g:aJ)(fn:Func)(sh:Shape)(F:FT)(J:JT g)(x:sh.T):Option g.B:=az Tryz.prog Eqs SG F fn.ntmps (AN f) J (qc Tryz.prog g fn) fuel (round (aN Tryz.prog (f%1000) j)) (an sh x)
theorem aah(F:FT)(J:JT Ta)(x:(Unit×((List ag)×Unit))):Qh UP An0 500127 Ta Tryz.f127 F J x =
  cond (List.isEmpty x.2.1)
   (p6 2 fun(j1:Nat) =>
   cond ((j1==0)==true)
    (some ((([]:List ag),()),x.2))
    (cond (aL (List.length ([]:List ag)) (List.length x.2.1))
     (some (((([]:List ag)++x.2.1),()),x.2))
     (none)))
   (cond (aL (List.length ([]:List ag)) (List.length x.2.1))
    (some (((([]:List ag)++x.2.1),()),x.2))
    (none)):=by kernel_rfl
theorem aai(F:FT)(J:JT Tb)(x:(Unit×((List ah)×Unit))):Qh UP An0 500128 Tb Tryz.f128 F J x =
  cond (List.isEmpty x.2.1)
   (p6 2 fun(j1:Nat) =>
   cond ((j1==0)==true)
    (some ((([]:List ah),()),x.2))
    (cond (aL (List.length ([]:List ah)) (List.length x.2.1))
     (some (((([]:List ah)++x.2.1),()),x.2))
     (none)))
   (cond (aL (List.length ([]:List ah)) (List.length x.2.1))
    (some (((([]:List ah)++x.2.1),()),x.2))
    (none)):=by kernel_rfl
theorem aaj(F:FT)(J:JT xZ)(x:(((List ab)×Unit)×Unit)):Qh Sa Wq 110 xZ Tryz.f110 F J x =
  cond (List.isEmpty x.1.1)
   (p6 2 fun(j1:Nat) =>
   cond ((j1==0)==true)
    (some ((([]:List ab),()),()))
    (cond (aL (List.length ([]:List ab)) (List.length x.1.1))
     (some (((([]:List ab)++x.1.1),()),()))
     (none)))
   (cond (aL (List.length ([]:List ab)) (List.length x.1.1))
    (some (((([]:List ab)++x.1.1),()),()))
    (none)):=by kernel_rfl
theorem aak(F:FT)(J:JT kU)(x:(Unit×((List ag)×((List ah)×Unit)))):Qh Sa Wq 500096 kU Tryz.f96 F J x =
  cond (aL 0 (List.length x.2.1))
   (cond (aL 0 (List.length x.2.2.1))
    (J Hk (aN Tryz.prog 96 0) (((((List.length x.2.1):Nat):Int),((0:Int),())),(((([]:List ag),(([]:List ah),())),((x.2.1,x.2.2),())),(x.2.1,x.2.2))))
    (none))
   (none):=by kernel_rfl
theorem K2(F:FT)(J:JT kU)(x:((Int×(Int×Unit))×((((List ag)×((List ah)×Unit))×(((List ag)×((List ah)×Unit))×Unit))×((List ag)×((List ah)×Unit))))):Wr Sa Wq 500096 0 kU Tryz.f96 Hk F J x =
  cond (decide (x.1.2.1<x.1.1))
   (cond ((decide ((0:Int)≤x.1.2.1))&&(decide (x.1.2.1<(((List.length x.2.1.2.1.1):Nat):Int))))
    (((x.2.1.2.1.1)[(Int.toNat x.1.2.1)]?).bind fun(y1:ag) =>
    (F 110 xZ ((y1.2.1,()),())).bind fun(y2:(((List ab)×Unit)×Unit)) =>
    cond ((decide ((0:Int)≤x.1.2.1))&&(decide (x.1.2.1<(((List.length x.2.1.2.1.1):Nat):Int))))
     (((x.2.1.2.1.1)[(Int.toNat x.1.2.1)]?).bind fun(y3:ag) =>
     J Hk (aN Tryz.prog 96 0) ((x.1.1,((IntKind.wrap .i64 (x.1.2.1+(1:Int))),())),(((x.2.1.1.1,x.2.1.1.2),(((List.set x.2.1.2.1.1 (Int.toNat x.1.2.1) (y3.1,(y2.1.1,y3.2.2))),x.2.1.2.1.2),())),(x.2.2.1,x.2.2.2))))
     (none))
    (none))
   (some (((x.2.1.2.1.1,x.2.1.2.1.2),()),(x.2.2.1,x.2.2.2))):=by kernel_rfl
end Go.Vs
namespace Go.Vs
open Go.Proofs
variable {P:Program}
theorem sH{f:FuncId}{ty:TypeId}{k:K}(hf:f%1000=f)(hc:∀(xs:List k.T),aL 0 xs.length=true→CX P f ⟨[.own],[.own (.row ty k)],[.own (.row ty k)],none⟩ ((),(xs,())) ((xs,()),(xs,()))):gy P f (rB ty k):=by
 intro Z ψ h w B0 O N hh id e vs us g hB bz hN bg mT qX CS he
 unfold rB at he
 split at he
 rotate_left
 ·cases he
 rename_i a
 split at he
 rotate_left
 ·cases he
 rename_i xs qY
 simp only[Option.some.injEq,Prod.mk.injEq]at he
 obtain⟨kI,rfl⟩:=he
 have ha:h a=some (.own (.row ty k) xs):=bz _ _ (jD qY)
 have Jy:h a≠none:=by rw[ha];simp
 simp only[ak,av]at qX
 obtain⟨v1,_,rfl,⟨_,ud⟩,rfl⟩:=qX
 have ud:=ud Jy
 subst ud
 simp only[ax,aE]at CS
 have XP:N (id+128):=hN 128 (by omega)
 have na:¬N a:=CS.1
 have a0:a≠id+128:=fun e=>na (e▸XP)
 let ψ0:Nat→Value:=fun i=>if i=1000 then ψ a else ψ i
 have p0:ψ0 1000=ψ a:=if_pos rfl
 let g0:aJ:=⟨[.own],[.own (.row ty k)],[.own (.row ty k)],none⟩
 have l9:oG g0 ((),(xs,()))=Heap.get [(1000,.own (.row ty k) xs)]:=rfl
 have i0:oG g0 ((),(xs,())) 1000=some (.own (.row ty k) xs):=rfl
 have iN:∀i,oG g0 ((),(xs,())) i≠none→i=1000:=fun i hi=>by
  by_cases e0:i=1000
  ·exact e0
  rw[l9]at hi
  simp[Heap.get,Ne.symm e0]at hi
 have Td:∀q,Own ψ0 (oG g0 ((),(xs,()))) q→ob (ψ a)=some q:=fun q ⟨i,h1,h2⟩=>by
  have:=iN i h1
  subst this
  rw[←p0];exact h2
 have oh:∀q,Own ψ0 (oG g0 ((),(xs,()))) q→Own ψ h q:=fun q hq=>⟨a,Jy,Td q hq⟩
 have G0:Good Z ψ0 (oG g0 ((),(xs,()))) w w.heap.size (Own ψ0 (oG g0 ((),(xs,())))):=by
  refine⟨fun i ty cs k=>?_,fun i ok x k=>?_,fun i q h1 h2=>⟨fun hz=>?_,.inr ⟨i,h1,h2⟩⟩,fun i j q h1 h2 h3 h4=>?_,g.jx⟩
  ·have:=iN i (by rw[k];simp)
   subst this
   rw[i0]at k;cases k
  ·have:=iN i (by rw[k];simp)
   subst this
   rw[i0]at k;cases k;rw[p0];exact g.row a _ _ ha
  ·have:=iN i h1
   subst this
   rw[p0]at h2;exact(g.live a q Jy h2).1 hz
  ·rw[iN i h1,iN j h2]
 have c0:(ψ a).cells=#[ψ a]∧(ψ a).oneCell'=true:=(g.row a _ _ ha).one
 have R0:ak Z ψ0 (oG g0 ((),(xs,()))) w (Ef g0 ((),(xs,()))) [ψ a]:=by
  show ak Z ψ0 (oG g0 ((),(xs,()))) w [.bF 1000] [ψ a]
  simp only[ak,av]
  exact⟨ψ a,[],rfl,⟨c0,fun _=>p0.symm⟩,rfl⟩
 have XQ:=hc xs kI Z ψ0 w [ψ a] G0 R0
 rw[hf]at XQ
 refine XQ.mono fun en w' ⟨V,Z',ψ',e1,zs,zf,kp,gd,bL,hr⟩=>?_
 have q0:ψ' 1000=ψ a:=(bL 1000 (by show 1000∈[1000];simp)).trans p0
 have o0:(jF g0 ((xs,()),(xs,()))).get 1000=some (.own (.row ty k) xs):=rfl
 have o2:(jF g0 ((xs,()),(xs,()))).get 3000=some (.own (.row ty k) xs):=rfl
 have gd:Good Z' ψ' (jF g0 ((xs,()),(xs,()))).get w' w.heap.size (Own ψ0 (oG g0 ((),(xs,())))):=gd
 have hr:av Z' ψ' (jF g0 ((xs,()),(xs,()))).get w' (.bF 3000) V:=hr
 generalize (jF g0 ((xs,()),(xs,()))).get=out at *
 have keep:cW ψ h w w':=⟨kp.os,kp.tape,kp.output,kp.size,fun q hq hn=>kp.block q hq fun ho=>hn (oh q ho)⟩
 have sm:cp Z w w':=keep.same g
 have cK:∀i q,i≠a→h i≠none→ob (ψ i)=some q→w'.heap[q]? = w.heap[q]? := fun i q k1 h1 h2 =>
  kp.block q (g.bM ⟨i,h1,h2⟩) fun ho=>k1 (g.apart i a q h1 Jy h2 (Td q ho))
 let dP:Nat→Value:=fun i=>if i=id+128 then ψ' 3000 else ψ i
 let H:Hp:=(bE.new (.bF (id+128)) [(id+128,.own (.row ty k) xs)]).hp h
 have s0:dP (id+128)=ψ' 3000:=if_pos rfl
 have sn:∀i,i≠id+128→dP i=ψ i:=fun i k1=>if_neg k1
 have H0:H (id+128)=some (.own (.row ty k) xs):=by show(bE.hp h _) _=_;simp[bE.hp,Heap.get]
 have Hn:∀i,i≠id+128→H i=h i:=fun i k1=>by show(bE.hp h _) _=_;simp[bE.hp,Heap.get,Ne.symm k1]
 have two:∀q,ob (ψ' 3000)=some q→¬Z' q∧(w.heap.size≤q∨ob (ψ a)=some q):=fun q h2=>by
  obtain⟨h3,h4⟩:=gd.live 3000 q (by rw[o2];simp) h2
  exact⟨h3,h4.imp (fun h=>h) (Td q)⟩
 have one:∀q,ob (ψ a)=some q→¬Z' q:=fun q h2=>(gd.live 1000 q (by rw[o0];simp) (by rw[q0];exact h2)).1
 have Te:∀q,ob (ψ' 3000)=some q→ob (ψ a)=some q→False:=fun q h2 h3=>by
  have:=gd.apart 3000 1000 q (by rw[o2];simp) (by rw[o0];simp) h2 (by rw[q0];exact h3)
  omega
 have fresh:∀q,ob (ψ' 3000)=some q→w.heap.size≤q:=fun q h2=>(two q h2).2.resolve_right (Te q h2)
 have ids:∀i,H i≠none→(h i≠none∧dP i=ψ i)∨N i:=fun i hi=>by
  by_cases k1:i=id+128
  ·exact .inr (k1▸XP)
  ·rw[Hn i k1]at hi
   exact .inl ⟨hi,sn i k1⟩
 have live:∀i q,i≠id+128→h i≠none→ob (ψ i)=some q→¬Z' q:=fun i q k1 h1 h2 hz=>by
  by_cases k3:i=a
  ·subst k3;exact one q h2 hz
  rcases zf q hz with k|k|k
  ·exact(g.live i q h1 h2).1 k
  ·exact k3 (g.apart i a q h1 Jy h2 (Td q k))
  ·have:=g.bM ⟨i,h1,h2⟩;omega
 refine⟨V,Z',dP,e1,⟨zs,fun q hq=>(zf q hq).imp (fun h=>h) fun k=>k.imp (oh q) fun h=>h,keep,ids,⟨fun i xO cs k=>?_,fun i ok x k=>?_,fun i q h1 h2=>?_,fun i j q h1 h2 h3 h4=>?_,gd.jx⟩⟩,?_⟩
 ·have k1:i≠id+128:=fun e=>by rw[e]at k;have k:H (id+128)=some (.box xO cs):=k;rw[H0]at k;cases k
  have k3:i≠a:=fun e=>by rw[e]at k;have k:H a=some (.box xO cs):=k;rw[(Hn a a0).trans ha]at k;cases k
  have pH:h i=some (.box xO cs):=(Hn i k1).symm.trans k
  obtain⟨gg,vs,f1,f2,f3,f4⟩:=g.box i xO cs pH
  exact⟨gg,vs,(sn i k1).trans f1,(cK i gg k3 (by rw[pH];simp) (by rw[f1];rfl)).trans f2,f3.move zs sm (fun j hj bq=>(ids j bq).resolve_right hj) (bg i xO cs pH),f4⟩
 ·by_cases k1:i=id+128
  ·subst k1
   have k:H (id+128)=some (.own ok x):=k
   rw[H0]at k;cases k
   rw[s0];exact gd.row 3000 _ _ o2
  have pH:h i=some (.own ok x):=(Hn i k1).symm.trans k
  rw[sn i k1]
  by_cases k3:i=a
  ·subst k3
   rw[ha]at pH;cases pH
   rw[←q0];exact gd.row 1000 _ _ o0
  exact(g.row i ok x pH).kept zs sm fun q hq=>cK i q k3 (by rw[pH];simp) hq
 ·by_cases k1:i=id+128
  ·subst k1
   have h2:ob (dP (id+128))=some q:=h2
   rw[s0]at h2
   exact⟨(two q h2).1,.inl (Nat.le_trans hB (fresh q h2))⟩
  ·have h1:h i≠none:=by rw[←Hn i k1];exact h1
   rw[sn i k1]at h2
   exact⟨live i q k1 h1 h2,(g.live i q h1 h2).2⟩
 ·have lt:∀j,j≠id+128→H j≠none→ob (dP j)=some q→q<w.heap.size:=fun j k1 k2 k3=>by
   rw[Hn j k1]at k2
   rw[sn j k1]at k3
   exact g.bM ⟨j,k2,k3⟩
  by_cases k1:i=id+128<;>by_cases k2:j=id+128
  ·exact k1.trans k2.symm
  ·subst k1
   have h3:ob (dP (id+128))=some q:=h3
   rw[s0]at h3
   have:=fresh q h3
   have:=lt j k2 h2 h4
   omega
  ·subst k2
   have h4:ob (dP (id+128))=some q:=h4
   rw[s0]at h4
   have:=fresh q h4
   have:=lt i k1 h1 h3
   omega
  ·rw[sn i k1]at h3
   rw[sn j k2]at h4
   exact g.apart i j q (by rw[←Hn i k1];exact h1) (by rw[←Hn j k2];exact h2) h3 h4
 ·simp only[av]at hr
  show av Z' dP H w' (.bF (id+128)) V
  simp only[av]
  exact⟨hr.1,fun _=>(hr.2 (by rw[o2];simp)).trans s0.symm⟩
end Go.Vs
namespace Go.Vs
open Go.Proofs
variable {P:Program}
theorem EO(hc:∀(xs:List dm.T) (ys:List eg.T),oM xs ys=true→CX P 96 kU ((),(xs,(ys,()))) (((xs,(ys,())),()),(xs,(ys,())))):gy P 96 Ew:=by
 intro Z ψ h w B0 O N hh id e vs us g hB bz hN bg mT qX CS he
 unfold Ew at he
 split at he
 rotate_left
 ·cases he
 rename_i a b
 split at he
 rotate_left
 ·cases he
 rename_i xs ys qY Ch
 split at he
 ·cases he
 rename_i B6
 simp only[Option.some.injEq,Prod.mk.injEq]at he
 obtain⟨kI,rfl⟩:=he
 have ha:h a=some (.own (.row 52 dm) xs):=bz _ _ (jD qY)
 have hb:h b=some (.own (.row 118 eg) ys):=bz _ _ (jD Ch)
 have Jy:h a≠none:=by rw[ha];simp
 have Cv:h b≠none:=by rw[hb];simp
 simp only[ak,av]at qX
 obtain⟨v,_,rfl,⟨cs,rfl,v1,_,LL,⟨_,ud⟩,v2,_,rfl,⟨_,wY⟩,rfl⟩,rfl⟩:=qX
 have ud:=ud Jy
 have wY:=wY Cv
 subst ud wY
 simp only[ax,aE]at CS
 have XP:N (id+128):=hN 128 (by omega)
 have nR1:N (id+129):=hN 129 (by omega)
 have na:¬N a:=CS.1.1
 have nb:¬N b:=CS.1.2.1
 have a0:a≠id+128:=fun e=>na (e▸XP)
 have a1:a≠id+129:=fun e=>na (e▸nR1)
 have b0:b≠id+128:=fun e=>nb (e▸XP)
 have b1:b≠id+129:=fun e=>nb (e▸nR1)
 let ψ0:Nat→Value:=fun i=>if i=1000 then ψ a else if i=1020 then ψ b else ψ i
 have p0:ψ0 1000=ψ a:=if_pos rfl
 have p1:ψ0 1020=ψ b:=(if_neg (by decide)).trans (if_pos rfl)
 have l9:oG kU ((),(xs,(ys,())))=Heap.get [(1000,.own (.row 52 dm) xs),(1020,.own (.row 118 eg) ys)]:=rfl
 have i0:oG kU ((),(xs,(ys,()))) 1000=some (.own (.row 52 dm) xs):=rfl
 have i1:oG kU ((),(xs,(ys,()))) 1020=some (.own (.row 118 eg) ys):=rfl
 have iN:∀i,oG kU ((),(xs,(ys,()))) i≠none→i=1000∨i=1020:=fun i hi=>by
  by_cases e0:i=1000
  ·exact .inl e0
  by_cases e1:i=1020
  ·exact .inr e1
  rw[l9]at hi
  simp[Heap.get,Ne.symm e0,Ne.symm e1]at hi
 have Td:∀q,Own ψ0 (oG kU ((),(xs,(ys,())))) q→ob (ψ a)=some q∨ob (ψ b)=some q:=fun q ⟨i,h1,h2⟩=>by
  rcases iN i h1 with rfl|rfl
  ·exact .inl (by rw[←p0];exact h2)
  ·exact .inr (by rw[←p1];exact h2)
 have oh:∀q,Own ψ0 (oG kU ((),(xs,(ys,())))) q→Own ψ h q:=fun q hq=>(Td q hq).elim (fun k=>⟨a,Jy,k⟩) fun k=>⟨b,Cv,k⟩
 have G0:Good Z ψ0 (oG kU ((),(xs,(ys,())))) w w.heap.size (Own ψ0 (oG kU ((),(xs,(ys,()))))):=by
  refine⟨fun i ty cs k=>?_,fun i ok x k=>?_,fun i q h1 h2=>⟨fun hz=>?_,.inr ⟨i,h1,h2⟩⟩,fun i j q h1 h2 h3 h4=>?_,g.jx⟩
  ·rcases iN i (by rw[k];simp) with rfl|rfl
   ·rw[i0]at k;cases k
   ·rw[i1]at k;cases k
  ·rcases iN i (by rw[k];simp) with rfl|rfl
   ·rw[i0]at k;cases k;rw[p0];exact g.row a _ _ ha
   ·rw[i1]at k;cases k;rw[p1];exact g.row b _ _ hb
  ·rcases iN i h1 with rfl|rfl
   ·rw[p0]at h2;exact(g.live a q Jy h2).1 hz
   ·rw[p1]at h2;exact(g.live b q Cv h2).1 hz
  ·rcases iN i h1 with rfl|rfl<;>rcases iN j h2 with rfl|rfl
   ·rfl
   ·rw[p0]at h3;rw[p1]at h4;exact absurd (g.apart a b q Jy Cv h3 h4) B6
   ·rw[p1]at h3;rw[p0]at h4;exact absurd (g.apart a b q Jy Cv h4 h3) B6
   ·rfl
 have c0:(ψ a).cells=#[ψ a]∧(ψ a).oneCell'=true:=(g.row a _ _ ha).one
 have c1:(ψ b).cells=#[ψ b]∧(ψ b).oneCell'=true:=(g.row b _ _ hb).one
 have R0:ak Z ψ0 (oG kU ((),(xs,(ys,())))) w (Ef kU ((),(xs,(ys,())))) [.agg cs]:=by
  show ak Z ψ0 (oG kU ((),(xs,(ys,())))) w [.agg [.bF 1000,.bF 1020]] [.agg cs]
  simp only[ak,av]
  exact⟨.agg cs,[],rfl,⟨cs,rfl,ψ a,[ψ b],LL,⟨c0,fun _=>p0.symm⟩,ψ b,[],rfl,⟨c1,fun _=>p1.symm⟩,rfl⟩,rfl⟩
 refine(hc xs ys kI Z ψ0 w [.agg cs] G0 R0).mono fun en w' ⟨V,Z',ψ',e1,zs,zf,kp,gd,bL,hr⟩=>?_
 have q0:ψ' 1000=ψ a:=(bL 1000 (by show 1000∈[1000,1020];simp)).trans p0
 have q1:ψ' 1020=ψ b:=(bL 1020 (by show 1020∈[1000,1020];simp)).trans p1
 have o0:(jF kU (((xs,(ys,())),()),(xs,(ys,())))).get 1000=some (.own (.row 52 dm) xs):=rfl
 have o1:(jF kU (((xs,(ys,())),()),(xs,(ys,())))).get 1020=some (.own (.row 118 eg) ys):=rfl
 have o2:(jF kU (((xs,(ys,())),()),(xs,(ys,())))).get 3000=some (.own (.row 52 dm) xs):=rfl
 have o3:(jF kU (((xs,(ys,())),()),(xs,(ys,())))).get 3001=some (.own (.row 118 eg) ys):=rfl
 generalize (jF kU (((xs,(ys,())),()),(xs,(ys,())))).get=out at *
 have keep:cW ψ h w w':=⟨kp.os,kp.tape,kp.output,kp.size,fun q hq hn=>kp.block q hq fun ho=>hn (oh q ho)⟩
 have sm:cp Z w w':=keep.same g
 have cK:∀i q,i≠a→i≠b→h i≠none→ob (ψ i)=some q→w'.heap[q]? = w.heap[q]? := fun i q k1 k2 h1 h2 =>
  kp.block q (g.bM ⟨i,h1,h2⟩) fun ho=>(Td q ho).elim (fun k=>k1 (g.apart i a q h1 Jy h2 k)) fun k=>k2 (g.apart i b q h1 Cv h2 k)
 let κ:Nat→Nat:=fun i=>if i=id+128 then 3000 else if i=id+129 then 3001 else if i=a then 1000 else 1020
 let Sb:Nat→Prop:=fun i=>i=id+128∨i=id+129∨i=a∨i=b
 let dP:Nat→Value:=fun i=>if i=id+128 then ψ' 3000 else if i=id+129 then ψ' 3001 else ψ i
 let H:Hp:=(bE.new (.agg [.bF (id+128),.bF (id+129)]) [(id+128,.own (.row 52 dm) xs),(id+129,.own (.row 118 eg) ys)]).hp h
 have s0:dP (id+128)=ψ' 3000:=if_pos rfl
 have s1:dP (id+129)=ψ' 3001:=(if_neg (by omega)).trans (if_pos rfl)
 have sn:∀i,i≠id+128→i≠id+129→dP i=ψ i:=fun i k1 k2=>(if_neg k1).trans (if_neg k2)
 have H0:H (id+128)=some (.own (.row 52 dm) xs):=by show(bE.hp h _) _=_;simp[bE.hp,Heap.get]
 have H1:H (id+129)=some (.own (.row 118 eg) ys):=by show(bE.hp h _) _=_;simp[bE.hp,Heap.get]
 have Hn:∀i,i≠id+128→i≠id+129→H i=h i:=fun i k1 k2=>by show(bE.hp h _) _=_;simp[bE.hp,Heap.get,Ne.symm k1,Ne.symm k2]
 have Ha:H a=some (.own (.row 52 dm) xs):=(Hn a a0 a1).trans ha
 have Hb:H b=some (.own (.row 118 eg) ys):=(Hn b b0 b1).trans hb
 have kap:∀i,Sb i→out (κ i)≠none∧ψ' (κ i)=dP i:=fun i hi=>by
  rcases hi with rfl|rfl|rfl|rfl
  ·have:κ (id+128)=3000:=if_pos rfl
   rw[this,o2,s0];exact⟨by simp,rfl⟩
  ·have:κ (id+129)=3001:=(if_neg (by omega)).trans (if_pos rfl)
   rw[this,o3,s1];exact⟨by simp,rfl⟩
  ·have:κ i=1000:=(if_neg a0).trans ((if_neg a1).trans (if_pos rfl))
   rw[this,o0,q0,sn i a0 a1];exact⟨by simp,rfl⟩
  ·have:κ i=1020:=(if_neg b0).trans ((if_neg b1).trans (if_neg (fun k=>B6 k.symm)))
   rw[this,o1,q1,sn i b0 b1];exact⟨by simp,rfl⟩
 have afg:∀i j,Sb i→Sb j→κ i=κ j→i=j:=fun i j hi hj hk=>by
  have v1:κ (id+128)=3000:=if_pos rfl
  have v2:κ (id+129)=3001:=(if_neg (by omega)).trans (if_pos rfl)
  have v3:κ a=1000:=(if_neg a0).trans ((if_neg a1).trans (if_pos rfl))
  have v4:κ b=1020:=(if_neg b0).trans ((if_neg b1).trans (if_neg (fun k=>B6 k.symm)))
  rcases hi with rfl|rfl|rfl|rfl<;>rcases hj with rfl|rfl|rfl|rfl<;>first|rfl|(rw[v1]at hk;first|(rw[v2]at hk;cases hk)|(rw[v3]at hk;cases hk)|(rw[v4]at hk;cases hk))|(rw[v2]at hk;first|(rw[v1]at hk;cases hk)|(rw[v3]at hk;cases hk)|(rw[v4]at hk;cases hk))|(rw[v3,v4]at hk;cases hk)|(rw[v4,v3]at hk;cases hk)
 have back:∀i q,Sb i→ob (dP i)=some q→¬Z' q∧(w.heap.size≤q∨ob (ψ a)=some q∨ob (ψ b)=some q):=fun i q hi h2=>by
  obtain⟨k1,k2⟩:=kap i hi
  rw[←k2]at h2
  obtain⟨h3,h4⟩:=gd.live (κ i) q k1 h2
  exact⟨h3,h4.imp (fun h=>h) (Td q)⟩
 have rest:∀i,¬Sb i→i≠id+128∧i≠id+129∧i≠a∧i≠b:=fun i hi=>⟨fun k=>hi (.inl k),fun k=>hi (.inr (.inl k)),fun k=>hi (.inr (.inr (.inl k))),fun k=>hi (.inr (.inr (.inr k)))⟩
 have mixed:∀i j q,Sb i→¬Sb j→h j≠none→ob (dP i)=some q→ob (ψ j)=some q→False:=fun i j q hi hj h2 h3 h4=>by
  obtain⟨_,_,k3,k4⟩:=rest j hj
  rcases (back i q hi h3).2 with k|k|k
  ·have:=g.bM ⟨j,h2,h4⟩;omega
  ·exact k3 (g.apart j a q h2 Jy h4 k)
  ·exact k4 (g.apart j b q h2 Cv h4 k)
 have ids:∀i,H i≠none→(h i≠none∧dP i=ψ i)∨N i:=fun i hi=>by
  by_cases k1:i=id+128
  ·exact .inr (k1▸XP)
  by_cases k2:i=id+129
  ·exact .inr (k2▸nR1)
  ·rw[Hn i k1 k2]at hi
   exact .inl ⟨hi,sn i k1 k2⟩
 refine⟨V,Z',dP,e1,⟨zs,fun q hq=>(zf q hq).imp (fun h=>h) fun k=>k.imp (oh q) fun h=>h,keep,ids,⟨fun i ty cs k=>?_,fun i ok x k=>?_,fun i q h1 h2=>?_,fun i j q h1 h2 h3 h4=>?_,gd.jx⟩⟩,?_⟩
 ·have k1:i≠id+128:=fun e=>by rw[e]at k;have k:H (id+128)=some (.box ty cs):=k;rw[H0]at k;cases k
  have k2:i≠id+129:=fun e=>by rw[e]at k;have k:H (id+129)=some (.box ty cs):=k;rw[H1]at k;cases k
  have k3:i≠a:=fun e=>by rw[e]at k;have k:H a=some (.box ty cs):=k;rw[Ha]at k;cases k
  have k4:i≠b:=fun e=>by rw[e]at k;have k:H b=some (.box ty cs):=k;rw[Hb]at k;cases k
  have pH:h i=some (.box ty cs):=(Hn i k1 k2).symm.trans k
  obtain⟨gg,vs,f1,f2,f3,f4⟩:=g.box i ty cs pH
  exact⟨gg,vs,(sn i k1 k2).trans f1,(cK i gg k3 k4 (by rw[pH];simp) (by rw[f1];rfl)).trans f2,f3.move zs sm (fun j hj bq=>(ids j bq).resolve_right hj) (bg i ty cs pH),f4⟩
 ·by_cases k1:i=id+128
  ·subst k1
   have k:H (id+128)=some (.own ok x):=k
   rw[H0]at k;cases k
   rw[s0];exact gd.row 3000 _ _ o2
  by_cases k2:i=id+129
  ·subst k2
   have k:H (id+129)=some (.own ok x):=k
   rw[H1]at k;cases k
   rw[s1];exact gd.row 3001 _ _ o3
  have pH:h i=some (.own ok x):=(Hn i k1 k2).symm.trans k
  rw[sn i k1 k2]
  by_cases k3:i=a
  ·subst k3
   rw[ha]at pH;cases pH
   rw[←q0];exact gd.row 1000 _ _ o0
  by_cases k4:i=b
  ·subst k4
   rw[hb]at pH;cases pH
   rw[←q1];exact gd.row 1020 _ _ o1
  exact(g.row i ok x pH).kept zs sm fun q hq=>cK i q k3 k4 (by rw[pH];simp) hq
 ·by_cases h4:Sb i
  ·obtain⟨k1,k2⟩:=back i q h4 h2
   refine⟨k1,?_⟩
   rcases k2 with k|k|k
   ·exact .inl (Nat.le_trans hB k)
   ·exact(g.live a q Jy k).2
   ·exact(g.live b q Cv k).2
  ·obtain⟨r1,r2,r3,r4⟩:=rest i h4
   have h1:h i≠none:=by rw[←Hn i r1 r2];exact h1
   rw[sn i r1 r2]at h2
   refine⟨fun hz=>?_,(g.live i q h1 h2).2⟩
   rcases zf q hz with k|k|k
   ·exact(g.live i q h1 h2).1 k
   ·rcases Td q k with k|k
    ·exact r3 (g.apart i a q h1 Jy h2 k)
    ·exact r4 (g.apart i b q h1 Cv h2 k)
   ·have:=g.bM ⟨i,h1,h2⟩;omega
 ·by_cases hi:Sb i<;>by_cases hj:Sb j
  ·obtain⟨k1,k2⟩:=kap i hi
   obtain⟨k3,k4⟩:=kap j hj
   rw[←k2]at h3
   rw[←k4]at h4
   exact afg i j hi hj (gd.apart _ _ q k1 k3 h3 h4)
  ·obtain⟨r1,r2,r3,r4⟩:=rest j hj
   rw[sn j r1 r2]at h4
   exact(mixed i j q hi hj (by rw[←Hn j r1 r2];exact h2) h3 h4).elim
  ·obtain⟨r1,r2,r3,r4⟩:=rest i hi
   rw[sn i r1 r2]at h3
   exact(mixed j i q hj hi (by rw[←Hn i r1 r2];exact h1) h4 h3).elim
  ·obtain⟨r1,r2,_,_⟩:=rest i hi
   obtain⟨t1,t2,_,_⟩:=rest j hj
   rw[sn i r1 r2]at h3
   rw[sn j t1 t2]at h4
   exact g.apart i j q (by rw[←Hn i r1 r2];exact h1) (by rw[←Hn j t1 t2];exact h2) h3 h4
 ·have hr:av Z' ψ' out w' (.agg [.bF 3000,.bF 3001]) V:=hr
  simp only[av,ak]at hr
  obtain⟨vs,rfl,u1,_,qX,⟨d1,d2⟩,u2,_,rfl,⟨d3,d4⟩,rfl⟩:=hr
  show av Z' dP H w' (.agg [.bF (id+128),.bF (id+129)]) (.agg vs)
  simp only[av,ak]
  exact⟨vs,rfl,u1,[u2],qX,⟨d1,fun _=>(d2 (by rw[o2];simp)).trans s0.symm⟩,u2,[],rfl,⟨d3,fun _=>(d4 (by rw[o3];simp)).trans s1.symm⟩,rfl⟩
end Go.Vs
namespace Go.Vs
open Go.Proofs
abbrev Tf:(f:FuncId)→(g:aJ)→Option (g.A→Option g.B):=fun _ _=>none
section
variable (SG:FuncId→Option aJ) (AN:FuncId→Nat→Option Shape)
noncomputable abbrev Tg:FT:=Fix Tryz.prog Eqs SG AN Tf
noncomputable abbrev LXG(f:FuncId)(g:aJ)(fn:Func):JT g:=Lp Tryz.prog Eqs SG AN Tf f g fn
end
theorem EP{SG:FuncId→Option aJ}{AN:FuncId→Nat→Option Shape}{f:FuncId}{g:aJ}{fn:Func}{x:g.A}{y:g.B}(hb:body Tryz.prog (f%1000)=some (fn,fn.body.getD .skip))(hc:(decide (g.ps.length≤fn.ntmps)&&decide (g.bs.length≤8))=true)
  (h:Qh SG AN f g fn (Tg SG AN) (LXG SG AN f g fn) x=some y):Tg SG AN f g x=some y:=KC rfl hb hc h
theorem Qi{SG:FuncId→Option aJ}{AN:FuncId→Nat→Option Shape}{f j:Nat}{g:aJ}{fn:Func}{sh:Shape}{x:sh.T}{y:g.B}(hs:(match aN Tryz.prog (f%1000) j with | .inLoop _::_=>true|_=>false)=true)
  (h:Wr SG AN f j g fn sh (Tg SG AN) (LXG SG AN f g fn) x=some y):LXG SG AN f g fn sh (aN Tryz.prog (f%1000) j) x=some y:=by
 unfold Wr at h
 generalize aN Tryz.prog (f%1000) j=s at hs h ⊢
 split at hs
 ·exact OZ h
 ·cases hs
theorem Qj{α β:Type}{o:Option α}{f:α→Option β}{a:α}{r:Option β}(h:o=some a)(k:f a=r):o.bind f=r:=by rw[h];exact k
theorem Be{α:Type}{c:Bool}{x y r:α}(h:c=true)(k:x=r):cond c x y=r:=by subst h;exact k
theorem Th{α:Type}{c:Bool}{x y r:α}(h:c=false)(k:y=r):cond c x y=r:=by subst h;exact k
theorem Qk{R:Type}{f:Nat→Option R}{r:R}(h0:f 0=some r)(h1:f 1=some r):p6 2 f=some r :=
 kR (by omega) fun j hj=>by
  rcases j with _|_|j
  ·exact h0
  ·exact h1
  ·omega
theorem aal(xs:List ag)(h:aL 0 xs.length=true):Tg UP An0 500127 Ta ((),(xs,()))=some ((xs,()),(xs,())):=by
 refine EP (fn:=Tryz.f127) (by kernel_rfl) (by kernel_rfl) ((aah _ _ _).trans ?_)
 cases xs with
 |nil=>exact Be rfl (Qk rfl rfl)
 |cons x r=>exact Th rfl (Be h rfl)
theorem aam(xs:List ah)(h:aL 0 xs.length=true):Tg UP An0 500128 Tb ((),(xs,()))=some ((xs,()),(xs,())):=by
 refine EP (fn:=Tryz.f128) (by kernel_rfl) (by kernel_rfl) ((aai _ _ _).trans ?_)
 cases xs with
 |nil=>exact Be rfl (Qk rfl rfl)
 |cons x r=>exact Th rfl (Be h rfl)
theorem K3{f:FuncId}{g:aJ}(h:UP f=some g):(f,g)∈Wo:=by
 unfold UP at h
 obtain⟨p,hp,rfl⟩:=Option.map_eq_some_iff.1 h
 have h1:=List.mem_of_find?_eq_some hp
 have h2:=List.find?_some hp
 have:p.1=f:=by simpa using h2
 subst this
 exact h1
theorem K4{f:FuncId}{g:aJ}(h:Sa f=some g):(f,g)∈Wp:=by
 unfold Sa at h
 obtain⟨p,hp,rfl⟩:=Option.map_eq_some_iff.1 h
 have h1:=List.mem_of_find?_eq_some hp
 have h2:=List.find?_some hp
 have:p.1=f:=by simpa using h2
 subst this
 exact h1
noncomputable def Jz(l:List (Nat×aJ)):Bool:=l.all fun p=>match Tryz.prog.funcs[p.1%1000]? with|some fn => !(fn.name== "runtime.NumGoroutine")&&fn.body.isSome|none=>false
theorem yG{l:List (Nat×aJ)}(key:Jz l=true){f:FuncId}{g:aJ}(hm:(f,g)∈l):iU Tryz.prog (f%1000):=by
 have:=List.all_eq_true.1 key _ hm
 simp only at this
 split at this
 ·rename_i fn hf
  simp only[Bool.and_eq_true,Bool.not_eq_true']at this
  exact⟨fn,hf,this.1,this.2⟩
 ·cases this
theorem aan{f:FuncId}{g:aJ}{x:g.A}{y:g.B}(hs:UP f=some g)(h:Tg UP An0 f g x=some y):CX Tryz.prog f g x y :=
 yz (fun f g u hf hu=>by
  have hm:=K3 hf
  simp only[Wo,List.mem_cons,List.not_mem_nil,or_false,Prod.mk.injEq]at hm
  rcases hm with⟨_,rfl⟩|⟨_,rfl⟩<;>cases hu) Bc (fun f g hf=>yG (by kernel_rfl) (K3 hf)) rz (fun f g u x y _ hu _=>by cases hu) hs h
theorem Ti:gy Tryz.prog 127 (rB 52 dm):=sH rfl fun xs h=>by
 have:=aan (by kernel_rfl) (aal xs h)
 exact this
theorem Tj:gy Tryz.prog 128 (rB 118 eg):=sH rfl fun xs h=>by
 have:=aan (by kernel_rfl) (aam xs h)
 exact this
theorem aao(l:List ab)(hl:l.length≤50000000):Tg Sa Wq 110 xZ ((l,()),())=some ((l,()),()):=by
 refine EP (fn:=Tryz.f110) (by kernel_rfl) (by kernel_rfl) ((aaj _ _ _).trans ?_)
 cases l with
 |nil=>exact Be rfl (Qk rfl rfl)
 |cons x r=>exact Th rfl (Be (decide_eq_true (show 0+(x::r).length≤1073741824 by omega)) rfl)
theorem Ql{i n:Nat}(h:i<n)(hn:n≤50000000):IntKind.wrap .i64 ((i:Int)+1)=((i+1:Nat):Int):=by
 unfold IntKind.wrap
 simp only[IntKind.bits,IntKind.signed]
 simp
 split<;>omega
theorem aap(xs:List ag)(ys:List ah)(h:oM xs ys=true):Tg Sa Wq 500096 kU ((),(xs,(ys,())))=some (((xs,(ys,())),()),(xs,(ys,()))):=by
 unfold oM at h
 simp only[Bool.and_eq_true,decide_eq_true_eq,List.all_eq_true]at h
 obtain⟨hx,hy,hr⟩:=h
 refine EP (fn:=Tryz.f96) (by kernel_rfl) (by kernel_rfl) ((aak _ _ _).trans ?_)
 refine Be (decide_eq_true (show 0+xs.length≤1073741824 by omega)) (Be (decide_eq_true (show 0+ys.length≤1073741824 by omega)) ?_)
 have loop:∀(n i:Nat) (out:List ag),i+n=xs.length→out=xs→LXG Sa Wq 500096 kU Tryz.f96 Hk (aN Tryz.prog 96 0) ((((xs.length:Nat):Int),((i:Int),())),(((([]:List ag),(([]:List ah),())),((out,(ys,())),())),(xs,(ys,()))))=some (((xs,(ys,())),()),(xs,(ys,()))):=by
  intro n
  induction n with
  |zero =>
   intro i out hi ho
   subst ho
   refine Qi (j:=0) (by kernel_rfl) ((K2 _ _ _).trans ?_)
   exact Th (decide_eq_false (show ¬((i:Int)<((out.length:Nat):Int)) by omega)) rfl
  |succ n ih =>
   intro i out hi ho
   have aF:i<xs.length:=by omega
   have Qf:out[i]? = some xs[i]:=by rw[ho];exact List.getElem?_eq_getElem aF
   have Tk:out.length=xs.length:=by rw[ho]
   have c1:(decide ((0:Int)≤(i:Int))&&decide ((i:Int)<((out.length:Nat):Int)))=true:=by
    rw[decide_eq_true (show(0:Int)≤(i:Int) by omega),decide_eq_true (show(i:Int)<((out.length:Nat):Int) by omega)];rfl
   refine Qi (j:=0) (by kernel_rfl) ((K2 _ _ _).trans ?_)
   refine Be (decide_eq_true (show((i:Int)<((xs.length:Nat):Int)) by omega)) (Be c1 (Qj Qf ?_))
   refine Qj (aao xs[i].2.1 (hr _ (List.getElem_mem aF))) ?_
   refine Be c1 (Qj Qf ?_)
   have hs:out.set i (xs[i].1,(xs[i].2.1,xs[i].2.2))=xs:=by
    subst ho;exact List.set_getElem_self aF
   have:=ih (i+1) (out.set i (xs[i].1,(xs[i].2.1,xs[i].2.2))) (by omega) hs
   rw[←Ql aF hx]at this
   exact this
 exact loop xs.length 0 xs (by omega) rfl
theorem afh{f:FuncId}{g:aJ}{x:g.A}{y:g.B}(hs:Sa f=some g)(h:Tg Sa Wq f g x=some y):CX Tryz.prog f g x y :=
 yz (fun f g u hf hu=>by
  have hm:=K4 hf
  simp only[Wp,List.mem_cons,List.not_mem_nil,or_false,Prod.mk.injEq]at hm
  rcases hm with⟨_,rfl⟩|⟨_,rfl⟩|⟨rfl,rfl⟩|⟨rfl,rfl⟩
  ·cases hu
  ·cases hu
  ·cases hu;intro Z ψ h w B0 O N hh id e vs us;exact Ti
  ·cases hu;intro Z ψ h w B0 O N hh id e vs us;exact Tj) Bc (fun f g hf=>yG (by kernel_rfl) (K4 hf)) rz (fun f g u x y _ hu _=>by cases hu) hs h
theorem MH:gy Tryz.prog 96 Ew:=EO fun xs ys h=>by
 have:=afh (by kernel_rfl) (aap xs ys h)
 exact this
end Go.Vs
namespace Go.Vs
open Go.Proofs Go.RowKit
abbrev UQ:Array Value:=#[.slice none 0 0,.slice none 0 0,.slice none 0 0,.int .i64 0,.slice none 0 0]
theorem Tl(w:World):Calls Tryz.prog 24 #[] w fun e w'=>e=.returned (.pointer (some ⟨w.heap.size,0,none⟩))∧w'=w.alloc (.cells UQ 100):=by
 go_enter Tryz.func24,Tryz.ntmps24
 go_wp2
 go_ret
 exact⟨rfl,rfl⟩
theorem JA:gy Tryz.prog 24 Wb:=by
 intro Z ψ h w B0 O N hh id e vs us g hB bz hN bg mT qX CS he
 unfold Wb at he
 split at he
 rotate_left
 ·cases he
 simp only[Option.some.injEq,Prod.mk.injEq,true_and]at he
 subst he
 simp only[ak]at qX
 subst qX
 have k0:aD Z w RY (kG RY) UQ.toList:=by
  have z:∀(k:K),aD Z w (.sl k) [] [.slice none 0 0]:=fun k=>⟨_,rfl,none,0,rfl,Nat.le_refl _,fun _=>rfl,fun i x h=>by simp at h⟩
  exact⟨[.slice none 0 0,.slice none 0 0,.slice none 0 0],[.int .i64 0,.slice none 0 0],rfl,⟨[.slice none 0 0,.slice none 0 0],[.slice none 0 0],rfl,⟨[.slice none 0 0],[.slice none 0 0],rfl,z _,z _⟩,z _⟩,[.int .i64 0],[.slice none 0 0],rfl,rfl,z _⟩
 have n0:N (id+128):=hN 128 (by omega)
 have b1:=tX g hB (id+128) 100 n0 (fZ (h:=h) (ψ:=ψ) k0) k0.one (fun i ty cs hb=>ax.imp (p:=fun j=>¬N j) (q:=fun j=>j≠id+128) (fun j hj e=>hj (by rw[e];exact n0)) (bg i ty cs hb)) (by show ax _ [.sl false dm [],.sl false eg [],.sl false cH [],.int .i64 0,.sl false kd []];simp[ax,aE])
 refine(Tl w).mono fun en w' ⟨e1,e2⟩=>?_
 subst e2
 have hH:(bE.new (.ref (id+128) 0 0 0) [(id+128,.box 100 (enc RY (kG RY)))]).hp h=dM h (id+128) (some (.box 100 (enc RY (kG RY)))):=by
  funext i
  show(match Heap.get _ i with|some o=>some o|none=>h i)=_
  unfold dM
  by_cases h2:i=id+128
  ·subst h2;simp[Heap.get]
  ·simp[Heap.get,h2,Ne.symm h2]
 refine⟨_,Z,dM ψ (id+128) (.pointer (some ⟨w.heap.size,0,none⟩)),e1,?_,?_⟩
 ·rw[hH]
  refine⟨fun _ h=>h,fun _ h=>.inl h,⟨rfl,rfl,rfl,by rw[World.size_alloc];omega,fun q hq _=>?_⟩,fun i hi=>?_,b1.dL⟩
  ·rw[heap_alloc_old _ _ hq]
  ·rcases b1.ids i hi with⟨h3,h4⟩|h3
   ·exact .inl ⟨h3,h4⟩
   ·exact .inr h3
 ·rw[hH]
  simp only[bE.v,av]
  refine⟨_,rfl,fun _=>?_⟩
  rw[bh]
  rfl
end Go.Vs
namespace Go.Vs
open Go.Proofs
theorem Qm:∀f g u,Sg f=some g→g.x=some u→gy Tryz.prog (f%1000) u:=fun f g u h hu=>by
 have hm:=Qg h
 have key:(sgs.all fun p=>(p.2.x.isNone || (p.1==176 || (p.1==211 || (p.1==233 || (p.1==177 || (p.1==186 || (p.1==220 || (p.1==500096 || (p.1==24))))))))))=true:=by kernel_rfl
 have:=List.all_eq_true.1 key _ hm
 simp only[hu,Option.isNone_some,Bool.false_or,Bool.or_eq_true,beq_iff_eq]at this
 rcases this with rfl|rfl|rfl|rfl|rfl|rfl|rfl|rfl
 ·have e:Sg 176=some UB:=by kernel_rfl
  rw[e]at h;cases h;cases hu;intro Z ψ h w B0 O N hh id e vs us;exact tq (k:=dm) Wh
 ·have e:Sg 211=some UE:=by kernel_rfl
  rw[e]at h;cases h;cases hu;intro Z ψ h w B0 O N hh id e vs us;exact tq (k:=eg) Wl
 ·have e:Sg 233=some UF:=by kernel_rfl
  rw[e]at h;cases h;cases hu;intro Z ψ h w B0 O N hh id e vs us;exact tq (k:=cH) Wn
 ·have e:Sg 177=some UC:=by kernel_rfl
  rw[e]at h;cases h;cases hu;intro Z ψ h w B0 O N hh id e vs us;exact Bb (k:=dm) Wi
 ·have e:Sg 186=some UD:=by kernel_rfl
  rw[e]at h;cases h;cases hu;intro Z ψ h w B0 O N hh id e vs us;exact Bb (k:=eg) Wm
 ·have e:Sg 220=some UG:=by kernel_rfl
  rw[e]at h;cases h;cases hu;intro Z ψ h w B0 O N hh id e vs us;exact Hi (k:=bm) S7
 ·have e:Sg 500096=some G2:=by kernel_rfl
  rw[e]at h;cases h;cases hu;intro Z ψ h w B0 O N hh id e vs us;exact MH
 ·have e:Sg 24=some UJ:=by kernel_rfl
  rw[e]at h;cases h;cases hu;intro Z ψ h w B0 O N hh id e vs us;exact JA
end Go.Vs
