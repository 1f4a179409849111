/- slices.Insert, slices.Delete, slices.Grow and slices.Clone at rows of one's own; what is asked of the program as a whole. -/
import Derived.Test.YtpkfpbpbkabkdaaGreatEngineA
import Derived.Laws.CopyRow
import Derived.Lib.AppendZerosOnto
import Derived.Lib.Overlaps
import Derived.Test.YtpkfpbpbkabkdaaGreatProg
import Derived.WalkKit
import Derived.Lib.Walk
import Derived.Shelf.Spec.SlicesInsert
import Derived.Laws.NewBlocks
import Derived.Test.YtpkfpbpbkabkdaaGreatEngineC
import Derived.Test.YtpkfpbpbkabkdaaGreatEngineB
import Derived.Test.YtpkfpbpbkabkdaaGreatEngineD
import Derived.Laws.StructEq
import Derived.KernelRfl
namespace Go.Vs
variable {P:Program} {w:World}
theorem bR(w:World)(dT sT ty elem:TypeId)(sz g o R1 Zr:Nat)(a:Addr)(R4 Zs:Nat)(cur:Array Value)(t:TypeId)(cs:List Value)
  (hu:P.underlying dT=some (.slice elem)) (hs:(P.info? elem).map (·.size)=some sz)
  (hg:w.heap[g]? = some (.cells cur t (0,0))) (hn:cs.length=Nat.min R4 R1*sz)
  (uu:∀(j:Nat) v,cs[j]? = some v→w.cell? (a.add j)=some v) (OL:o+cs.length≤cur.size) (h1:∀v∈cs,v.oneCell'=true) :
  (Builtin.copy_ #[dT,sT] ty #[.slice (some ⟨g,o,none⟩) R1 Zr,.slice (some a) R4 Zs]).run P w =
   .ok (goInt (Nat.min R4 R1)) (w.setRow g (cur.toList.take o++cs++cur.toList.drop (o+cs.length)).toArray):=by
 have hl:=run_loadCells_list (P:=P) w a cs uu
 have sO:=run_storeCells_at P g o t cs 0 cur w hg (by simpa using OL) h1
 cases hq:P.info? elem with
 |none=>simp[hq]at hs
 |some i =>
  have hi:i.size=sz:=by simpa[hq] using hs
  simp only[Nat.add_zero]at sO
  simp[Builtin.copy_,run_underlying hu,Builtin.lenOf,Builtin.firstCells,sizeOf,typeInfo,hq,hi,←hn,hl,sO]
theorem mN(w:World)(t ty e:TypeId)(sz g n c:Nat)(a:Addr)(m mc:Nat)(cur:Array Value)(news:List Value)(ht:P.underlying t=some (.slice e))(hs:(P.info? e).map (·.size)=some sz)
  (hg:w.heap[g]? = some (.cells cur e (0,0))) (hl:news.length=m*sz) (uu:∀(j:Nat) v,news[j]? = some v→w.cell? (a.add j)=some v) (h1:∀v∈news,v.oneCell'=true) (gT:n+m≤c) (il:c*sz≤cur.size) :
  (Builtin.append_ #[t,t] ty #[.slice (some ⟨g,0,none⟩) n c,.slice (some a) m mc]).run P w=.ok (.slice (some ⟨g,0,none⟩) (n+m) c) (w.setRow g (cur.toList.take (n*sz)++news++cur.toList.drop (n*sz+news.length)).toArray):=by
 have hle:n*sz+m*sz≤c*sz:=by rw[←Nat.add_mul];exact Nat.mul_le_mul_right _ gT
 have VF:=run_loadCells_list (P:=P) w a news uu
 have sO:=run_storeCells_at P g (n*sz) e news 0 cur w hg (by omega) h1
 simp only[Nat.add_zero]at sO
 have ha:(⟨g,0,none⟩:Addr).add (n*sz)=⟨g,n*sz,none⟩:=by rw[bW,Nat.zero_add]
 cases hq:P.info? e with
 |none=>simp[hq]at hs
 |some i =>
  have hi:i.size=sz:=by simpa[hq] using hs
  simp[Builtin.append_,run_underlying ht,Builtin.lenOf,Builtin.firstCells,sizeOf,typeInfo,hq,hi,←hl,VF,gT,ha,sO]
theorem pN(w:World)(t ty e:TypeId)(sz g o k c:Nat)(cur:Array Value)(i:TypeInfo)(z:Value)(ht:P.underlying t=some (.slice e))(hi:P.info? e=some i)(hz:i.zero=some z)(ux:z.cells.size=sz)(h1:∀v∈z.cells.toList,v.oneCell'=true)
  (hg:w.heap[g]? = some (.cells cur e (0,0))) (hk:0<k) (OL:o+k*sz≤cur.size) :
  (Builtin.clear_ #[t] ty #[.slice (some ⟨g,o,none⟩) k c]).run P w=.ok (.tuple #[]) (w.setRow g (cur.toList.take o++(Builtin.zeroCells z.cells k).toList++cur.toList.drop (o+(Builtin.zeroCells z.cells k).toList.length)).toArray):=by
 have hl:(Builtin.zeroCells z.cells k).toList.length=k*sz:=by simp[Builtin.zeroCells,ux]
 have Ch:∀v∈(Builtin.zeroCells z.cells k).toList,v.oneCell'=true:=fun v hv=>by
  simp only[Builtin.zeroCells,Array.toList_map,List.mem_map]at hv
  obtain⟨q,hq,rfl⟩:=hv
  have hq':q<k*z.cells.size:=by simpa using hq
  have hp:0<z.cells.size:=by
   rcases Nat.eq_zero_or_pos z.cells.size with h|h
   ·rw[h,Nat.mul_zero]at hq';omega
   ·exact h
  have aG:q%z.cells.size<z.cells.size:=Nat.mod_lt _ hp
  rw[getElem!_pos z.cells _ aG]
  exact h1 _ (by simp)
 have sO:=run_storeCells_at P g o e (Builtin.zeroCells z.cells k).toList 0 cur w hg (by omega) Ch
 simp only[Nat.add_zero]at sO
 obtain⟨m,rfl⟩:∃m,k=m+1:=⟨k-1,by omega⟩
 simp[Builtin.clear_,run_underlying ht,zeroValue,typeInfo,hi,hz,sO]
end Go.Vs
set_option linter.unusedVariables false
set_option linter.unusedSimpArgs false
namespace Go.Vs
open Go.Proofs Go.RowKit
def CM(P:Program)(f:FuncId)(e:TypeId)(size:Nat):Prop :=
 ∀(w:World) (v u:Value) (n i:Nat) (xs ys:List Value),db w e size v n xs→db w e size u 1 ys→i≤n→n+1≤eP→(∀b,ob v=some b→ob u≠some b) →
  (∀q∈xs,q.oneCell'=true)→(∀q∈ys,q.oneCell'=true) →
  Calls P f #[v,.int .i64 i,u] w fun en w'=>∃v',en=.returned v'∧db w' e size v' (n+1) (xs.take (i*size)++(ys++xs.drop (i*size)))∧w.grownBy w' (ob v)∧(ob v'=ob v∨∀b,ob v'=some b→w.heap.size≤b)
set_option maxHeartbeats 4000000 in
set_option maxRecDepth 100000 in
theorem GU(w:World)(v u:Value)(n:Nat)(xs ys:List Value)(hv:db w 52 5 v n xs)(hu:db w 52 5 u 1 ys)(hm:n+1≤eP)(h1:∀q∈ys,q.oneCell'=true) :
  Calls Tryz.prog 176 #[v,.int .i64 n,u] w fun en w'=>∃v',en=.returned v'∧db w' 52 5 v' (n+1) (xs++ys)∧w.grownBy w' (ob v)∧(ob v'=ob v∨∀b,ob v'=some b→w.heap.size≤b):=by
 have ht:Tryz.prog.underlying 38=some (.slice 52):=by kernel_rfl
 obtain⟨i0,z0,he⟩:=cf (P:=Tryz.prog) (e:=52) (k:=.pair (.pair (.int .i64) (.int .i64)) (.pair (.sl (.pair (.pair (.int .i64) (.int .i64)) (.int .i64))) (.pair .str (.int .i64)))) (by kernel_rfl)
 have uu:Jj w 5 u 1 ys:=by
  refine⟨hu.1,h1,.inr ?_⟩
  rcases hu.2 with⟨h0,_⟩|⟨g,cap,cur,rfl,_,hg,_,_,hc,gV⟩
  ·cases h0
  ·refine⟨_,_,rfl,fun j q hj=>?_⟩
   rw[bW,Nat.zero_add]
   rw[←gV,List.getElem?_take]at hj
   split at hj
   ·simp[World.cell?,hg];simpa using hj
   ·cases hj
 obtain⟨v',w',cY,h4,h5,h6⟩:=dk (P:=Tryz.prog) (ty:=38) ht he hv uu hm
 obtain⟨A,c,rfl⟩:=hv.slice
 have Ar:n≤c:=by
  rcases hv.2 with⟨h0,A,e⟩|⟨g,cap,cur,e,hc,h2,h3,_⟩
  ·omega
  ·cases e;exact h3
 obtain⟨B,cu,rfl⟩:=hu.slice
 have VG:n≤1073741824:=by unfold eP at hm;omega
 go_enter Tryz.func176,Tryz.ntmps176
 go_wp2_with (at_builtin;refine Lib.wpList_append_run _ rfl _ _ _ _ rfl _ _ rfl rfl _ _ cY ?_)
 all_goals go_ret
 all_goals first|exact⟨_,rfl,h4,h5,h6⟩|(subst_vars;exact⟨_,rfl,h4,h5,h6⟩)
theorem yY{α:Type}{cur xs ys cur1 cur3:List α}{i n sz:Nat}(gV:cur.take (n*sz)=xs)(hl:(n+1)*sz≤cur.length)(hy:ys.length=sz)(hi:i≤n)
  (h1:cur1=cur.take ((i+1)*sz)++xs.drop (i*sz)++cur.drop ((i+1)*sz+(xs.drop (i*sz)).length)) (h3:cur3=cur1.take (i*sz)++ys++cur1.drop (i*sz+ys.length)) :
  cur3.take ((n+1)*sz)=xs.take (i*sz)++(ys++xs.drop (i*sz)):=by
 have Ai:i*sz≤n*sz:=Nat.mul_le_mul_right _ hi
 rw[Nat.add_mul,Nat.one_mul]at hl h1 ⊢
 have uU:xs.length=n*sz:=by rw[←gV,List.length_take];omega
 generalize i*sz=a at *
 generalize n*sz=b at *
 have e1:cur1.take a=xs.take a:=by
  rw[h1,List.append_assoc,List.take_append_of_le_length (by rw[List.length_take];omega),List.take_take,←gV,List.take_take]
  congr 1;omega
 have e2:cur1.drop (a+ys.length)=xs.drop a++cur.drop (a+1*sz+(xs.drop a).length):=by
  rw[h1,List.append_assoc,Nat.one_mul,hy]
  exact List.drop_left' (by rw[List.length_take];omega)
 rw[h3,e1,e2,←List.append_assoc,←List.append_assoc]
 rw[List.take_left' (by simp only[List.length_append,List.length_take,List.length_drop];omega)]
theorem fw{w:World}{e size:Nat}{g n:Nat}{cur:Array Value}{xs:List Value}(hg:w.heap[g]? = some (.cells cur e (0,0)))(gV:cur.toList.take (n*size)=xs)(o:Nat):∀(j:Nat) q,(xs.drop o)[j]? = some q→w.cell? ((⟨g,o,none⟩:Addr).add j)=some q:=fun j q hj=>by
 rw[bW]
 rw[List.getElem?_drop,←gV,List.getElem?_take]at hj
 split at hj
 ·simp[World.cell?,hg];simpa using hj
 ·cases hj
set_option maxHeartbeats 4000000 in
set_option maxRecDepth 100000 in
theorem CN(w:World)(g c g2 c2 n i:Nat)(xs ys:List Value)(cur cH:Array Value)(hg:w.heap[g]? = some (.cells cur 52 (0,0)))(il:cur.size=c*5)(gV:cur.toList.take (n*5)=xs)(uU:xs.length=n*5)
  (ru:w.heap[g2]? = some (.cells cH 52 (0,0))) (oG:cH.size=c2*5) (ud:0<c2) (jM:cH.toList.take (1*5)=ys) (Bx:ys.length=1*5) (aU:g2≠g) (hi:i<n) (gT:n+1≤c) (hc:c≤maxLen)
  (h1:∀q∈xs,q.oneCell'=true) (h2:∀q∈ys,q.oneCell'=true) :
  Calls Tryz.prog 176 #[.slice (some ⟨g,0,none⟩) n c,.int .i64 i,.slice (some ⟨g2,0,none⟩) 1 c2] w fun en w'=>en=.returned (.slice (some ⟨g,0,none⟩) (n+1) c) ∧
   ∃cJ:Array Value,w'.heap[g]? = some (.cells cJ 52 (0,0))∧cJ.size=cur.size∧cJ.toList.take ((n+1)*5)=xs.take (i*5)++(ys++xs.drop (i*5))∧w.grownBy w' (some g):=by
 have ht:Tryz.prog.underlying 38=some (.slice 52):=by kernel_rfl
 have hz:(Tryz.prog.info? 52).map (·.size)=some 5:=by kernel_rfl
 have ux:∀w,(Go.sizeOf 52).run Tryz.prog w=.ok 5 w:=fun w=>by
  cases hq:Tryz.prog.info? 52 with
  |none=>rw[hq]at hz;cases hz
  |some i=>rw[hq]at hz;simp at hz;simp[sizeOf,typeInfo,hq,hz]
 have Oa:∀a2 lb cb,(callFunc 209 #[.slice (some ⟨g2,0,none⟩) 1 c2,.slice (some ⟨g,a2,none⟩) lb cb]).run Tryz.prog w=.ok (.value (.bool false)) w:=fun a2 lb cb=>by
  rw[run_callFunc_extern Tryz.func209 (by kernel_rfl) (by kernel_rfl) (by kernel_rfl) (e:=Extern.SlicesOverlaps.overlaps #[38,38] #[4]) (by kernel_rfl),
   Lib.run_overlaps_apart w 38 4 52 ht 5 ux ⟨g2,0,none⟩ ⟨g,a2,none⟩ 1 c2 lb cb aU 52 52 cH.size cur.size (by simp[World.shape?,ru]) (by simp[World.shape?,hg]) (by omega) (by simp[World.frozen?,ru]) (by simp[World.frozen?,ru])]
  rfl
 have Aw:=fw (size:=5) (n:=1) ru jM 0
 have qf:=fw (size:=5) (n:=n) hg gV (i*5)
 have XZ:c≤9223372036854775807:=by unfold maxLen at hc;omega
 have hn5:n*5≤cur.size:=by omega
 obtain⟨cur1,dR⟩:∃cur1:Array Value,cur1=(cur.toList.take ((i+1)*5)++xs.drop (i*5)++cur.toList.drop ((i+1)*5+(xs.drop (i*5)).length)).toArray:=⟨_,rfl⟩
 have wz:(xs.drop (i*5)).length=(n-i)*5:=by rw[List.length_drop,uU];omega
 have Mu:∀(W:World),W.heap=w.heap→∀ty dc sc,(Builtin.copy_ #[38,38] ty #[.slice (some ⟨g,(i+1)*5,none⟩) (n-i) dc,.slice (some ⟨g,i*5,none⟩) (n+1-i) sc]).run Tryz.prog W=.ok (goInt (n-i:Nat)) (W.setRow g cur1):=fun W hW ty dc sc=>by
  have:=bR (P:=Tryz.prog) W 38 38 ty 52 5 g ((i+1)*5) (n-i) dc ⟨g,i*5,none⟩ (n+1-i) sc cur 52 (xs.drop (i*5)) ht hz (by rw[hW];exact hg) (by rw[wz];simp only[Nat.min_def];split<;>omega)
   (fun j v hj=>by have:=qf j v hj;simpa only[World.cell?,hW] using this) (by omega) (fun q hq=>h1 q (List.mem_of_mem_drop hq))
  rw[this,dR]
  congr 2
  simp only[Nat.min_def];split<;>omega
 have Dh:cur1.size=cur.size:=by rw[dR];simp;omega
 obtain⟨cur3,lN⟩:∃cur3:Array Value,cur3=(cur1.toList.take (i*5)++ys++cur1.toList.drop (i*5+ys.length)).toArray:=⟨_,rfl⟩
 have Mv:∀(W:World),W.heap[g]? = some (.cells cur1 52 (0,0))→W.heap[g2]? = w.heap[g2]?→∀ty dc sc,(Builtin.copy_ #[38,38] ty #[.slice (some ⟨g,i*5,none⟩) (n+1-i) dc,.slice (some ⟨g2,0,none⟩) 1 sc]).run Tryz.prog W=.ok (goInt 1) (W.setRow g cur3):=fun W hW VH ty dc sc=>by
  have:=bR (P:=Tryz.prog) W 38 38 ty 52 5 g (i*5) (n+1-i) dc ⟨g2,0,none⟩ 1 sc cur1 52 ys ht hz hW (by rw[Bx];simp only[Nat.min_def];split<;>omega)
   (fun j v hj=>by have:=Aw j v (by simpa using hj);simpa only[World.cell?,cd,VH] using this) (by omega) h2
  rw[this,lN]
  congr 2
  simp only[Nat.min_def];split<;>omega
 have GH:IntKind.i64.wrap ((i:Int)+1)=(i:Int)+1:=by rw[IntKind.wrap_i64];omega
 have Pb:IntKind.i64.wrap ((n:Int)+1)=(n:Int)+1:=by rw[IntKind.wrap_i64];omega
 have Pc:(0:Int)≤(i:Int)+1:=by omega
 have lr:i≤n:=by omega
 have Oc:((i:Int)+1).toNat=i+1:=by omega
 have Au:¬(c=i+1):=by omega
 have VI:(i:Int)≤(n:Int)+1:=by omega
 have VJ:¬(c=i):=by omega
 have Af:¬((i:Int)=(n:Int)):=by omega
 have FN:¬((c:Int)<(n:Int)+1):=by omega
 have Od:cur3.size=cur.size:=by rw[lN];simp;omega
 have nS:cur3.toList.take ((n+1)*5)=xs.take (i*5)++(ys++xs.drop (i*5)):=yY (sz:=5) (cur1:=cur1.toList) (cur3:=cur3.toList) gV (by simp;omega) (by rw[Bx]) lr (by rw[dR]) (by rw[lN])
 clear lN dR wz gV jM
 have EC:=Mv (w.drew.setRow g cur1) (setRow_heap w.drew g cur _ 52 _ hg) (_root_.Go.setRow_other w.drew g g2 _ aU)
 have mixed:Tryz.prog.follows .mixedOrders=true:=by kernel_rfl
 go_enter Tryz.func176,Tryz.ntmps176
 go_wp2_with (simp only[Oa])
 go_region_law (go_loud (refine step_copy_runI rfl _ _ 38 38 rfl (.slice (some ⟨g,(i+1)*5,none⟩) (n-i) (c-(i+1))) (.slice (some ⟨g,i*5,none⟩) (n+1-i) (c-i)) (by simp[Act.eval,Act.put]) (by simp[Act.eval,Act.put]) (Mu w.drew rfl 3 (c-(i+1)) (c-i)) ?_))
 go_wp2_with (simp only[EC])
 go_ret
 refine⟨rfl,cur3,setRow_heap _ g cur1 _ 52 _ (setRow_heap w.drew g cur _ 52 _ hg),Od,nS,⟨rfl,rfl,rfl,by simp[World.setRow],fun k hk J1=>?_⟩⟩
 have wA:k≠g:=fun e=>J1 (by rw[e])
 rw[_root_.Go.setRow_other _ g k _ wA,_root_.Go.setRow_other _ g k _ wA];rfl
theorem uV{α:Type}{row xs ys row2 row3:List α}{i n sz:Nat}(hA:row.take (i*sz)=xs.take (i*sz))(hl:(n+1)*sz≤row.length)(uU:xs.length=n*sz)(hy:ys.length=sz)(hi:i≤n)
  (h2:row2=row.take (i*sz)++ys++row.drop (i*sz+ys.length)) (h3:row3=row2.take ((i+1)*sz)++xs.drop (i*sz)++row2.drop ((i+1)*sz+(xs.drop (i*sz)).length)) :
  row3.take ((n+1)*sz)=xs.take (i*sz)++(ys++xs.drop (i*sz)):=by
 have Ai:i*sz≤n*sz:=Nat.mul_le_mul_right _ hi
 rw[Nat.add_mul,Nat.one_mul]at hl h3 ⊢
 generalize i*sz=a at *
 generalize n*sz=b at *
 have e1:row2.take (a+1*sz)=xs.take a++ys:=by
  rw[h2,hA,Nat.one_mul]
  exact List.take_left' (by simp only[List.length_append,List.length_take];omega)
 rw[Nat.one_mul]at e1
 rw[h3,e1]
 rw[List.take_left' (by simp only[List.length_append,List.length_take,List.length_drop];omega)]
 rw[List.append_assoc]
set_option maxHeartbeats 4000000 in
set_option maxRecDepth 100000 in
theorem ED(w:World)(g c g2 c2 n i:Nat)(xs ys:List Value)(cur cH:Array Value)(hg:w.heap[g]? = some (.cells cur 52 (0,0)))(il:cur.size=c*5)(gV:cur.toList.take (n*5)=xs)(uU:xs.length=n*5)
  (ru:w.heap[g2]? = some (.cells cH 52 (0,0))) (oG:cH.size=c2*5) (ud:0<c2) (jM:cH.toList.take (1*5)=ys) (Bx:ys.length=1*5) (aU:g2≠g) (hi:i<n) (Ar:n≤c) (gT:c<n+1) (hm:n+1≤eP)
  (h1:∀q∈xs,q.oneCell'=true) (h2:∀q∈ys,q.oneCell'=true) :
  Calls Tryz.prog 176 #[.slice (some ⟨g,0,none⟩) n c,.int .i64 i,.slice (some ⟨g2,0,none⟩) 1 c2] w fun en w'=>∃G,en=.returned (.slice (some ⟨w.heap.size,0,none⟩) (n+1) G) ∧
   ∃cJ:Array Value,w'.heap[w.heap.size]? = some (.cells cJ 52 (0,0))∧cJ.size=G*5∧n+1≤G∧G≤maxLen∧cJ.toList.take ((n+1)*5)=xs.take (i*5)++(ys++xs.drop (i*5))∧w.grownBy w' (some g):=by
 have ht:Tryz.prog.underlying 38=some (.slice 52):=by kernel_rfl
 have Oc:Tryz.prog.underlying 3=some (.int .i64):=by kernel_rfl
 have hz:(Tryz.prog.info? 52).map (·.size)=some 5:=by kernel_rfl
 obtain⟨i0,z0,he⟩:=cf (P:=Tryz.prog) (e:=52) (k:=.pair (.pair (.int .i64) (.int .i64)) (.pair (.sl (.pair (.pair (.int .i64) (.int .i64)) (.int .i64))) (.pair .str (.int .i64)))) (by kernel_rfl)
 have J2:z0.cells.size=5:=he.qY
 have ux:i0.size=5:=he.size
 have AH:=he.bytes
 have Aw:=fw (size:=5) (n:=1) ru jM 0
 have qf:=fw (size:=5) (n:=n) hg gV (i*5)
 have EE:=fw (size:=5) (n:=n) hg gV 0
 have Oe:g<w.heap.size:=(Array.getElem?_eq_some_iff.1 hg).1
 have Mw:g2<w.heap.size:=(Array.getElem?_eq_some_iff.1 ru).1
 unfold eP at hm
 have iW:(n+1)*i0.bytes≤140737488355328:=Nat.le_trans (Nat.mul_le_mul hm AH) (by decide)
 have hold:(Builtin.firstCells i0.size i (.slice (some ⟨g,0,none⟩) i c)).run Tryz.prog w.drew=.ok (xs.take (i*5)).toArray w.drew:=by
  rw[ux]
  exact run_firstCells_some w.drew 5 i ⟨g,0,none⟩ i c (xs.take (i*5)) (by rw[List.length_take];omega) (fun j v hj=>by
   rw[List.getElem?_take]at hj
   split at hj
   ·exact EE j v hj
   ·cases hj)
 obtain⟨G,hG⟩:∃G,G=grownCap w (n+1) c 52:=⟨_,rfl⟩
 obtain⟨gW,oH⟩:∃gW:Array Value,gW=(xs.take (i*5)).toArray++Builtin.zeroCells z0.cells (n+1-i)++Builtin.zeroCells z0.cells (G-(n+1)):=⟨_,rfl⟩
 have O4:i+(n+1-i)=n+1:=by omega
 have Og:∀ty,(Builtin.append_ #[38,3] ty #[.slice (some ⟨g,0,none⟩) i c,.int .i64 ((n:Int)+1-(i:Int))]).run Tryz.prog w=.ok (.slice (some ⟨w.heap.size,0,none⟩) (n+1) G) (w.drew.alloc (.cells gW 52)):=fun ty=>by
  have h:=Lib.run_append_grow_zeros w 38 3 ty 52 i0 z0 .i64 .i64 ht Oc he.info he.zero (some ⟨g,0,none⟩) i c (xs.take (i*5)) hold (n+1-i) (by omega) (by omega) (by omega) (by omega)
   (Nat.le_trans (Nat.mul_le_mul_right _ (show n+1-i≤n+1 by omega)) (by omega)) (by rw[O4];exact growslice_fits gT iW)
  rw[O4]at h
  rw[show(n:Int)+1-(i:Int)=((n+1-i:Nat):Int) by omega,oH,hG]
  exact h
 have TD:n+1≤G:=by rw[hG];exact grownCap_ge w _ _ _
 have GW:G≤9223372036854775807:=by
  have:=grownCap_le_maxLen w (n+1) c 52 (by unfold maxLen;omega)
  rw[←hG]at this
  unfold maxLen at this
  omega
 have X0:gW.size=G*5:=by
  rw[oH]
  simp[Builtin.zeroCells,J2,List.length_take,uU]
  rw[Nat.min_eq_left (by omega)];omega
 have QO:gW.toList.take (i*5)=xs.take (i*5):=by
  rw[oH]
  simp only[Array.toList_append,List.append_assoc]
  exact List.take_left' (by rw[List.length_take];omega)
 obtain⟨W1,nh⟩:∃W1,W1=w.drew.alloc (.cells gW 52):=⟨_,rfl⟩
 have pO:W1.heap[w.heap.size]? = some (.cells gW 52 (0,0)):=by rw[nh];exact(MapKept.heap_alloc w.drew (.cells gW 52)).1
 have qQ:∀b,b<w.heap.size→W1.heap[b]? = w.heap[b]? := fun b hb=>by rw[nh];exact(Below.heap_alloc w.drew (.cells gW 52) b hb).trans rfl
 have qR:w.grownBy W1 none:=⟨by rw[nh];rfl,by rw[nh];rfl,by rw[nh];rfl,by have:=(Array.getElem?_eq_some_iff.1 pO).1;omega,fun k hk _=>qQ k hk⟩
 obtain⟨row2,lO⟩:∃row2:Array Value,row2=(gW.toList.take (i*5)++ys++gW.toList.drop (i*5+ys.length)).toArray:=⟨_,rfl⟩
 have Ia:row2.size=gW.size:=by rw[lO];simp;omega
 have Mx:∀(W:World),W.heap=W1.heap→∀ty dc sc,(Builtin.copy_ #[38,38] ty #[.slice (some ⟨w.heap.size,i*5,none⟩) (n+1-i) dc,.slice (some ⟨g2,0,none⟩) 1 sc]).run Tryz.prog W=.ok (goInt 1) (W.setRow w.heap.size row2):=fun W hW ty dc sc=>by
  have:=bR (P:=Tryz.prog) W 38 38 ty 52 5 w.heap.size (i*5) (n+1-i) dc ⟨g2,0,none⟩ 1 sc gW 52 ys ht hz (by rw[hW];exact pO) (by rw[Bx];simp only[Nat.min_def];split<;>omega)
   (fun j v hj=>by have:=Aw j v (by simpa using hj);simpa only[World.cell?,cd,hW,qQ g2 Mw] using this) (by omega) h2
  rw[this,lO]
  congr 2
  simp only[Nat.min_def];split<;>omega
 obtain⟨row3,lP⟩:∃row3:Array Value,row3=(row2.toList.take ((i+1)*5)++xs.drop (i*5)++row2.toList.drop ((i+1)*5+(xs.drop (i*5)).length)).toArray:=⟨_,rfl⟩
 have wz:(xs.drop (i*5)).length=(n-i)*5:=by rw[List.length_drop,uU];omega
 have Od:row3.size=gW.size:=by rw[lP];simp;omega
 have My:∀(W:World),W.heap=(W1.setRow w.heap.size row2).heap→∀ty dc sc,(Builtin.copy_ #[38,38] ty #[.slice (some ⟨w.heap.size,(i+1)*5,none⟩) (n-i) dc,.slice (some ⟨g,i*5,none⟩) (n-i) sc]).run Tryz.prog W=.ok (goInt (n-i:Nat)) (W.setRow w.heap.size row3):=fun W hW ty dc sc=>by
  have:=bR (P:=Tryz.prog) W 38 38 ty 52 5 w.heap.size ((i+1)*5) (n-i) dc ⟨g,i*5,none⟩ (n-i) sc row2 52 (xs.drop (i*5)) ht hz (by rw[hW];exact setRow_heap W1 w.heap.size gW _ 52 _ pO) (by rw[wz];simp only[Nat.min_def];split<;>omega)
   (fun j v hj=>by have:=qf j v hj;simpa only[World.cell?,cd,hW,_root_.Go.setRow_other W1 w.heap.size g _ (Nat.ne_of_lt Oe),qQ g Oe] using this) (by omega) (fun q hq=>h1 q (List.mem_of_mem_drop hq))
  rw[this,lP]
  congr 2
  simp only[Nat.min_def];split<;>omega
 have nS:row3.toList.take ((n+1)*5)=xs.take (i*5)++(ys++xs.drop (i*5)):=uV (sz:=5) (row:=gW.toList) (row2:=row2.toList) (row3:=row3.toList) QO (by simp;omega) uU (by rw[Bx]) (by omega) (by rw[lO]) (by rw[lP])
 clear lP lO oH wz gV jM QO EE hold hG
 have GH:IntKind.i64.wrap ((i:Int)+1)=(i:Int)+1:=by rw[IntKind.wrap_i64];omega
 have Pb:IntKind.i64.wrap ((n:Int)+1)=(n:Int)+1:=by rw[IntKind.wrap_i64];omega
 have hw3:IntKind.i64.wrap ((n:Int)+1-(i:Int))=(n:Int)+1-(i:Int):=by rw[IntKind.wrap_i64];omega
 have Pc:(0:Int)≤(i:Int)+1:=by omega
 have lr:i≤n:=by omega
 have VL:((i:Int)+1).toNat=i+1:=by omega
 have hGi:¬(G=i):=by omega
 have VM:¬(G=i+1):=by omega
 have hci:¬(c=i):=by omega
 have VI:(i:Int)≤(n:Int):=by omega
 have Af:¬((i:Int)=(n:Int)):=by omega
 have FN:(c:Int)<(n:Int)+1:=by omega
 rw[←nh]at Og
 clear nh
 have mixed:Tryz.prog.follows .mixedOrders=true:=by kernel_rfl
 go_enter Tryz.func176,Tryz.ntmps176
 go_wp2_with (first
  |(at_builtin;refine Lib.wpList_append_run _ rfl _ _ _ _ rfl _ _ rfl rfl _ _ (Og _) ?_)
  |(at_builtin;refine wpList_copy_runI _ rfl _ _ 38 38 rfl _ _ rfl rfl (Mx _ (by rfl) _ _ _) ?_))
 go_region_law (go_loud (refine step_copy_runI rfl _ _ 38 38 rfl (.slice (some ⟨w.heap.size,(i+1)*5,none⟩) (n-i) (G-(i+1))) (.slice (some ⟨g,i*5,none⟩) (n-i) (c-i)) (by simp[Act.eval,Act.put]) (by simp[Act.eval,Act.put]) (My (W1.setRow w.heap.size row2).drew rfl 3 (G-(i+1)) (c-i)) ?_))
 go_wp2
 go_ret
 refine⟨G,rfl,row3,setRow_heap _ w.heap.size row2 _ 52 _ (setRow_heap W1 w.heap.size gW _ 52 _ pO),by omega,TD,GW,nS,⟨qR.os,qR.tape,qR.output,by have:=qR.size;simpa[World.setRow] using this,fun k hk _=>?_⟩⟩
 rw[_root_.Go.setRow_other _ w.heap.size k _ (Nat.ne_of_lt hk)]
 exact(_root_.Go.setRow_other W1 w.heap.size k _ (Nat.ne_of_lt hk)).trans (qQ k hk)
theorem R5:CM Tryz.prog 176 52 5:=fun w v u n i xs ys hv hu hi hm J3 h1 h2=>by
 by_cases he:i=n
 ·subst he
  refine(GU w v u i xs ys hv hu hm h2).mono fun en w' ⟨v',e1,e2,e3,e4⟩=>⟨v',e1,?_,e3,e4⟩
  have hl:=hv.1
  rw[List.take_of_length_le (by omega),List.drop_eq_nil_of_le (by omega),List.append_nil]
  exact e2
 ·have lr:i<n:=by omega
  rcases hv.2 with⟨h0,_⟩|⟨g,c,cur,rfl,KW,hg,Ar,CO,il,gV⟩
  ·omega
  rcases hu.2 with⟨h0,_⟩|⟨g2,c2,cH,rfl,EF,ru,_,_,oG,jM⟩
  ·omega
  have iV:ob (.slice (some ⟨g,0,none⟩) n c)=some g:=by simp only[ob];rw[if_neg (by omega)]
  have Mz:ob (.slice (some ⟨g2,0,none⟩) 1 c2)=some g2:=by simp only[ob];rw[if_neg (by omega)]
  have aU:g2≠g:=fun e=>J3 g iV (by rw[Mz,e])
  by_cases gT:n+1≤c
  ·refine(CN w g c g2 c2 n i xs ys cur cH hg il gV hv.1 ru oG EF jM hu.1 aU lr gT CO h1 h2).mono fun en w' ⟨e1,cJ,e2,e3,e4,e5⟩=>?_
   refine⟨_,e1,⟨?_,.inr ⟨g,c,cJ,rfl,KW,e2,gT,CO,by rw[e3,il],e4⟩⟩,by rw[iV];exact e5,.inl ?_⟩
   ·have hl:=hv.1;have wH:=hu.1
    simp only[List.length_append,List.length_take,List.length_drop];omega
   ·rw[iV];simp only[ob];rw[if_neg (by omega)]
  ·refine(ED w g c g2 c2 n i xs ys cur cH hg il gV hv.1 ru oG EF jM hu.1 aU lr Ar (by omega) hm h1 h2).mono fun en w' ⟨G,e1,cJ,e2,e3,e4,e5,e6,e7⟩=>?_
   refine⟨_,e1,⟨?_,.inr ⟨w.heap.size,G,cJ,rfl,by omega,e2,e4,e5,e3,e6⟩⟩,by rw[iV];exact e7,.inr fun b hb=>?_⟩
   ·have hl:=hv.1;have wH:=hu.1
    simp only[List.length_append,List.length_take,List.length_drop];omega
   ·simp only[ob]at hb;rw[if_neg (by omega)]at hb;cases hb;omega
end Go.Vs
namespace Go.Vs
open Go.Proofs Go.RowKit
def GX(P:Program)(f:FuncId)(e:TypeId)(size:Nat):Prop :=
 ∀(w:World) (v:Value) (n i j:Nat) (xs:List Value),db w e size v n xs→i<j→j≤n→n≤eP→(∀q∈xs,q.oneCell'=true) →
  Calls P f #[v,.int .i64 i,.int .i64 j] w fun en w'=>∃v',en=.returned v'∧db w' e size v' (i+(n-j)) (xs.take (i*size)++xs.drop (j*size))∧w.grownBy w' (ob v)∧ob v'=ob v
theorem gu{P:Program}{ops:Array Oper}{o:Oper}{a:Act}{w:World}{K:Act→World→Prop}{Q:Exit→Act→World→Prop}{E:Prop}
  (hg:o.guard=none) (d x:Operand) (dT sT:TypeId) (Cu:o.op=Op.call { callee:=Callee.builtin Builtin.append,args:=#[d,x],argTypes:=#[dT,sT] })
  (v u:Value) (hd:a.eval d=v) (hx:a.eval x=u) {v':Value} {w':World} (hr:(Builtin.append_ #[dT,sT] o.type #[v,u]).run P w=.ok v' w') (hK:K (a.put o.dst v') w') :
  if Region.wanted o (yielded ops a.tmps)=true then Oper.wp P o a w K Q else E:=by
 have hw:Region.wanted o (yielded ops a.tmps)=true:=by simp[Region.wanted,hg]
 rw[if_pos hw]
 unfold Oper.wp
 simp[execOp,Cu,resolve,invoke,builtin,hd,hx,hr,Result.andThen]
 exact hK
theorem EG{α:Type}{cur xs cur1 cH zs:List α}{i j n sz:Nat}(gV:cur.take (n*sz)=xs)(hl:n*sz≤cur.length)(xQ:i≤j)(KQ:j≤n)
  (h1:cur1=cur.take (i*sz)++xs.drop (j*sz)++cur.drop (i*sz+(xs.drop (j*sz)).length)) (h2:cH=cur1.take ((i+(n-j))*sz)++zs++cur1.drop ((i+(n-j))*sz+zs.length)) :
  cH.take ((i+(n-j))*sz)=xs.take (i*sz)++xs.drop (j*sz):=by
 have ha:i*sz≤j*sz:=Nat.mul_le_mul_right _ xQ
 have hb:j*sz≤n*sz:=Nat.mul_le_mul_right _ KQ
 rw[Nat.add_mul,Nat.sub_mul]at h2 ⊢
 have uU:xs.length=n*sz:=by rw[←gV,List.length_take];omega
 generalize i*sz=a at *
 generalize j*sz=b at *
 generalize n*sz=c at *
 have e0:cur.take a=xs.take a:=by rw[←gV,List.take_take];congr 1;omega
 have e1:cur1.take (a+(c-b))=xs.take a++xs.drop b:=by
  rw[h1,e0]
  exact List.take_left' (by simp only[List.length_append,List.length_take,List.length_drop];omega)
 rw[h2,e1,List.append_assoc]
 exact List.take_left' (by simp only[List.length_append,List.length_take,List.length_drop];omega)
set_option maxHeartbeats 4000000 in
set_option maxRecDepth 100000 in
theorem EH(w:World)(g c n i j X:Nat)(xs:List Value)(cur:Array Value)(hg:w.heap[g]? = some (.cells cur 52 (0,0)))(il:cur.size=c*5)(gV:cur.toList.take (n*5)=xs)(uU:xs.length=n*5)
  (xQ:i<j) (KQ:j≤n) (Ar:n≤c) (hc:c≤maxLen) (hX:if c=j then X=0 else X=j*5)
  (h1:∀q∈xs,q.oneCell'=true) :
  Calls Tryz.prog 177 #[.slice (some ⟨g,0,none⟩) n c,.int .i64 i,.int .i64 j] w fun en w'=>en=.returned (.slice (some ⟨g,0,none⟩) (i+(n-j)) c) ∧
   ∃cJ:Array Value,w'.heap[g]? = some (.cells cJ 52 (0,0))∧cJ.size=cur.size∧cJ.toList.take ((i+(n-j))*5)=xs.take (i*5)++xs.drop (j*5)∧w.grownBy w' (some g):=by
 have ht:Tryz.prog.underlying 38=some (.slice 52):=by kernel_rfl
 have hz:(Tryz.prog.info? 52).map (·.size)=some 5:=by kernel_rfl
 obtain⟨zs,ux⟩:∃zs,xk Tryz.prog 52=some zs:=Option.isSome_iff_exists.1 (by kernel_rfl)
 obtain⟨i0,z0,R6,OF,rfl,vE⟩:=ns ux
 obtain⟨i1,z1,he⟩:=cf (P:=Tryz.prog) (e:=52) (k:=.pair (.pair (.int .i64) (.int .i64)) (.pair (.sl (.pair (.pair (.int .i64) (.int .i64)) (.int .i64))) (.pair .str (.int .i64)))) (by kernel_rfl)
 have ei:i1=i0:=by have:=he.info;rw[R6]at this;cases this;rfl
 subst ei
 have ez:z1=z0:=by have:=he.zero;rw[OF]at this;cases this;rfl
 subst ez
 have J2:z1.cells.size=5:=he.qY
 clear he ux
 have wz:(xs.drop (j*5)).length=(n-j)*5:=by rw[List.length_drop,uU];omega
 obtain⟨cur1,dR⟩:∃cur1:Array Value,cur1=(cur.toList.take (i*5)++xs.drop (j*5)++cur.toList.drop (i*5+(xs.drop (j*5)).length)).toArray:=⟨_,rfl⟩
 have Dh:cur1.size=cur.size:=by rw[dR];simp;omega
 have J3:∀ty sc,(Builtin.append_ #[38,38] ty #[.slice (some ⟨g,0,none⟩) i c,.slice (some ⟨g,X,none⟩) (n-j) sc]).run Tryz.prog w.drew=.ok (.slice (some ⟨g,0,none⟩) (i+(n-j)) c) (w.drew.setRow g cur1):=fun ty sc=>by
  by_cases J4:c=j
  ·have hnj:n=j:=by omega
   have:n-j=0:=by omega
   rw[this]at wz ⊢
   have Dz:xs.drop (j*5)=[]:=List.eq_nil_of_length_eq_zero (by omega)
   rw[dU ht R6 _ _ _ (by omega) _ _,dR,Dz]
   simp only[List.append_nil,List.length_nil,Nat.add_zero,List.take_append_drop,Array.toArray_toList]
   rw[setRow_self w.drew g cur 52 (0,0) hg]
  ·rw[if_neg J4]at hX
   subst hX
   rw[dR]
   exact mN (P:=Tryz.prog) w.drew 38 ty 52 5 g i c ⟨g,j*5,none⟩ (n-j) sc cur (xs.drop (j*5)) ht hz hg wz (fw (size:=5) (n:=n) (w:=w.drew) hg gV (j*5)) (fun q hq=>h1 q (List.mem_of_mem_drop hq)) (by omega) (by omega)
 obtain⟨cH,tJ⟩:∃cH:Array Value,cH=(cur1.toList.take ((i+(n-j))*5)++(Builtin.zeroCells z1.cells (j-i)).toList++cur1.toList.drop ((i+(n-j))*5+(Builtin.zeroCells z1.cells (j-i)).toList.length)).toArray:=⟨_,rfl⟩
 have TE:(Builtin.zeroCells z1.cells (j-i)).toList.length=(j-i)*5:=by simp[Builtin.zeroCells,J2]
 have Ia:cH.size=cur.size:=by rw[tJ];simp[TE];omega
 have rM:∀ty sc,(Builtin.clear_ #[38] ty #[.slice (some ⟨g,(i+(n-j))*5,none⟩) (n-(i+(n-j))) sc]).run Tryz.prog (w.drew.setRow g cur1)=.ok (.tuple #[]) ((w.drew.setRow g cur1).setRow g cH):=fun ty sc=>by
  have:=pN (P:=Tryz.prog) (w.drew.setRow g cur1) 38 ty 52 5 g ((i+(n-j))*5) (j-i) sc cur1 i1 z1 ht R6 OF J2 vE (setRow_heap w.drew g cur _ 52 _ hg) (by omega) (by omega)
  rw[show n-(i+(n-j))=j-i by omega,this,tJ]
 have nS:cH.toList.take ((i+(n-j))*5)=xs.take (i*5)++xs.drop (j*5):=EG (cur1:=cur1.toList) gV (by simp;omega) (by omega) KQ (by rw[dR]) (by rw[tJ])
 clear dR tJ gV wz
 have XZ:c≤9223372036854775807:=by unfold maxLen at hc;omega
 have lr:i≤n:=by omega
 have hic:¬(c=i):=by omega
 have hjc:j≤c:=by omega
 have aU:¬((i:Int)=(j:Int)):=by omega
 have ng:i≤j:=by omega
 have Zt:i≤c:=by omega
 have Zu:i+(n-j)≤n:=by omega
 have Zv:i+(n-j)≤c:=by omega
 have Zw:¬(c=i+(n-j)):=by omega
 have Zx:(i:Int)+((n-j:Nat):Int)≤(n:Int):=by omega
 have mixed:Tryz.prog.follows .mixedOrders=true:=by kernel_rfl
 by_cases J4:c=j
 ·rw[if_pos J4]at hX
  subst hX
  subst J4
  obtain rfl:n=c:=by omega
  simp only[Nat.sub_self,Nat.add_zero]at J3 rM nS ⊢
  go_enter Tryz.func177,Tryz.ntmps177
  go_wp2_with fail
  go_region_law (go_loud (refine gu rfl _ _ 38 38 rfl (.slice (some ⟨g,0,none⟩) i n) (.slice (some ⟨g,0,none⟩) 0 0) (by simp[Act.eval,Act.put]) (by simp[Act.eval,Act.put]) (J3 38 0) ?_))
  go_wp2_with (simp only[rM])
  go_ret
  refine⟨rfl,cH,setRow_heap _ g cur1 _ 52 _ (setRow_heap w.drew g cur _ 52 _ hg),Ia,nS,⟨rfl,rfl,rfl,by simp[World.setRow],fun k hk J1=>?_⟩⟩
  have wA:k≠g:=fun e=>J1 (by rw[e])
  rw[_root_.Go.setRow_other _ g k _ wA,_root_.Go.setRow_other _ g k _ wA];rfl
 ·rw[if_neg J4]at hX
  subst hX
  go_enter Tryz.func177,Tryz.ntmps177
  go_wp2_with fail
  go_region_law (go_loud (refine gu rfl _ _ 38 38 rfl (.slice (some ⟨g,0,none⟩) i c) (.slice (some ⟨g,j*5,none⟩) (n-j) (c-j)) (by simp[Act.eval,Act.put]) (by simp[Act.eval,Act.put]) (J3 38 (c-j)) ?_))
  go_wp2_with (simp only[rM])
  go_ret
  refine⟨rfl,cH,setRow_heap _ g cur1 _ 52 _ (setRow_heap w.drew g cur _ 52 _ hg),Ia,nS,⟨rfl,rfl,rfl,by simp[World.setRow],fun k hk J1=>?_⟩⟩
  have wA:k≠g:=fun e=>J1 (by rw[e])
  rw[_root_.Go.setRow_other _ g k _ wA,_root_.Go.setRow_other _ g k _ wA];rfl
theorem R7:GX Tryz.prog 177 52 5:=fun w v n i j xs hv xQ KQ hm h1=>by
 rcases hv.2 with⟨h0,_⟩|⟨g,c,cur,rfl,KW,hg,Ar,CO,il,gV⟩
 ·omega
 have iV:ob (.slice (some ⟨g,0,none⟩) n c)=some g:=by simp only[ob];rw[if_neg (by omega)]
 refine(EH w g c n i j (if c=j then 0 else j*5) xs cur hg il gV hv.1 xQ KQ Ar CO (by split<;>rfl) h1).mono fun en w' ⟨e1,cJ,e2,e3,e4,e5⟩=>?_
 refine⟨_,e1,⟨?_,.inr ⟨g,c,cJ,rfl,KW,e2,by omega,CO,by rw[e3,il],e4⟩⟩,by rw[iV];exact e5,?_⟩
 ·have hl:=hv.1
  simp only[List.length_append,List.length_take,List.length_drop];omega
 ·rw[iV];simp only[ob];rw[if_neg (by omega)]
end Go.Vs
namespace Go.Vs
open Go.Proofs
variable {P:Program}
theorem yZ{Z:Nat→Prop}{w:World}{k:K}{xs:List k.T}{vs:List Value}(hv:l6 Z w k xs vs)(hl:vs.length=xs.length*k.sz):∀q∈vs,q.oneCell'=true:=fun q hq=>by
 obtain⟨p,hp⟩:=List.getElem?_of_mem hq
 have aG:p<vs.length:=(List.getElem?_eq_some_iff.1 hp).1
 have hs:=k.gD
 have hd:p / k.sz<xs.length:=Nat.div_lt_of_lt_mul (by rw[Nat.mul_comm];omega)
 have hr:=hv (p / k.sz) _ (List.getElem?_eq_getElem hd)
 refine hr.one q ?_
 have hm:=Nat.mod_add_div p k.sz
 have Zy:=Nat.mod_lt p hs
 have:((vs.drop (p / k.sz*k.sz)).take k.sz)[p%k.sz]? = some q:=by
  rw[List.getElem?_take,if_pos Zy,List.getElem?_drop,Nat.mul_comm,Nat.add_comm,hm,hp]
 exact List.mem_of_getElem? this
theorem By{Z:Nat→Prop}{w:World}{k:K}{xs:List k.T}{vs:List Value}(hv:l6 Z w k xs vs)(n:Nat):l6 Z w k (xs.take n) (vs.take (n*k.sz)):=fun i x hx=>by
 rw[List.getElem?_take]at hx
 split at hx
 ·rename_i hi
  have:=hv i x hx
  have e:((vs.take (n*k.sz)).drop (i*k.sz)).take k.sz=(vs.drop (i*k.sz)).take k.sz:=by
   rw[List.drop_take,List.take_take]
   congr 1
   have:(i+1)*k.sz≤n*k.sz:=Nat.mul_le_mul_right _ hi
   rw[Nat.add_mul]at this;omega
  rw[e];exact this
 ·cases hx
theorem Bz{Z:Nat→Prop}{w:World}{k:K}{xs:List k.T}{vs:List Value}(hv:l6 Z w k xs vs)(n:Nat):l6 Z w k (xs.drop n) (vs.drop (n*k.sz)):=fun i x hx=>by
 rw[List.getElem?_drop]at hx
 have:=hv (n+i) x hx
 rw[List.drop_drop,←Nat.add_mul];exact this
theorem sf{f:FuncId}{ty:TypeId}{k:K}(hr:CM P f ty k.sz):fR P f (K5 ty k):=by
 intro Z ψ h w B0 O N hh id e vs us g hB aZ hN aR mf qe A3 he
 unfold K5 at he
 split at he
 rotate_left
 ·cases he
 rename_i o i j
 split at he
 rotate_left
 ·cases he
 rename_i xs ys qf Aw
 split at he
 ·cases he
 rename_i hoj
 simp only[Option.some.injEq,Prod.mk.injEq]at he
 obtain⟨lq,rfl⟩:=he
 have Zz:hh.get=h:=mf _ _ rfl
 have Oh:hh.get o=some (.own (.row ty k) xs):=iZ qf
 have ZA:hh.get j=some (.own (.row ty k) ys):=iZ Aw
 simp only[ai,ar]at qe
 obtain⟨v,_,rfl,⟨_,hv⟩,n,_,rfl,rfl,u,_,rfl,⟨_,hu⟩,rfl⟩:=qe
 simp only[oU,Bool.and_eq_true,decide_eq_true_eq,b4]at lq
 obtain⟨h0,h1,h2,h3⟩:=lq
 obtain⟨m,rfl⟩:∃m:Nat,i=m:=⟨i.toNat,by omega⟩
 subst Zz
 have ZB:v=ψ o:=hv (by rw[Oh];simp)
 have huj:u=ψ j:=hu (by rw[ZA];simp)
 obtain⟨vs,Ic,sY⟩:=g.row o (.row ty k) xs Oh
 obtain⟨hM,R8,vC⟩:=g.row j (.row ty k) ys ZA
 simp only[au,aA]at A3
 have bw:N id:=hN 0 (by omega)
 have aU:o≠id:=fun e=>A3.1 (e▸bw)
 rw[h2]at R8
 subst ZB;subst huj
 refine(hr w _ _ xs.length m vs hM Ic R8 (by omega) (by omega) (fun b hb Au=>hoj (g.apart o j b (by rw[Oh];simp) (by rw[ZA];simp) hb Au)) (yZ sY Ic.1) (yZ vC (by rw[R8.1,h2]))).mono fun en w' ⟨v',e1,e2,e3,e4⟩=>?_
 have kk:cG ψ hh.get w w':=cG.grown e3 (fun b e=>⟨o,by rw[Oh];simp,e⟩)
 have sm:=kk.same g
 have hlen:(fh xs (m:Int) ys).length=xs.length+1:=by
  simp only[fh,Int.toNat_natCast,List.length_append,List.length_take,List.length_drop];omega
 have ZC:(vs.take (m*k.sz)).length=(xs.take m).length*k.sz:=by
  have:m*k.sz≤xs.length*k.sz:=Nat.mul_le_mul_right _ (by omega)
  rw[List.length_take,List.length_take,Ic.1,Nat.min_eq_left this,Nat.min_eq_left (by omega)]
 have mB:l6 Z w k (fh xs (m:Int) ys) (vs.take (m*k.sz)++(hM++vs.drop (m*k.sz))):=(By sY m).append (vC.append (Bz sY m) (by rw[R8.1,h2])) ZC
 have Be:=pe (N:=N) g hB id o bw Oh aU e3 (v:=v') (ok:=.row ty k) (y:=fh xs m ys)
  ⟨_,by rw[hlen];exact e2,mB.Dx sm⟩ e4 (fun i ty cs hb=>au.imp (p:=fun i=>¬N i) (q:=fun i=>i≠id) (fun a ha e=>ha (by rw[e];exact bw)) (aR i ty cs hb))
 have VN:Heap.get ((id,Ob.own (.row ty k) (fh xs (m:Int) ys))::hh.del o)=dy (dy hh.get o none) id (some (.own (.row ty k) (fh xs m ys))):=by rw[xK,sV]
 refine⟨v',Z,dy ψ id v',e1,?_,?_⟩
 ·show Next Z ψ hh.get w B0 O N Z (dy ψ id v') (Heap.get ((id,Ob.own (.row ty k) (fh xs (m:Int) ys))::hh.del o)) w'
  rw[VN];exact Be
 ·simp only[bm.v,ar]
  exact⟨e2.one,fun _=>(aS _ _ _).symm⟩
theorem y0{f:FuncId}{ty:TypeId}{k:K}(hr:GX P f ty k.sz):fR P f (Ow ty k):=by
 intro Z ψ h w B0 O N hh id e vs us g hB aZ hN aR mf qe A3 he
 unfold Ow at he
 split at he
 rotate_left
 ·cases he
 rename_i o i j
 split at he
 rotate_left
 ·cases he
 rename_i xs qf
 simp only[Option.some.injEq,Prod.mk.injEq]at he
 obtain⟨lq,rfl⟩:=he
 have Zz:hh.get=h:=mf _ _ rfl
 have Oh:hh.get o=some (.own (.row ty k) xs):=iZ qf
 simp only[ai,ar]at qe
 obtain⟨v,_,rfl,⟨_,hv⟩,n,_,rfl,rfl,u,_,rfl,rfl,rfl⟩:=qe
 simp only[iM,Bool.and_eq_true,decide_eq_true_eq,b4]at lq
 obtain⟨h0,h1,h2,h3⟩:=lq
 obtain⟨m,rfl⟩:∃m:Nat,i=m:=⟨i.toNat,by omega⟩
 obtain⟨q,rfl⟩:∃m:Nat,j=m:=⟨j.toNat,by omega⟩
 subst Zz
 have ZB:v=ψ o:=hv (by rw[Oh];simp)
 obtain⟨vs,Ic,sY⟩:=g.row o (.row ty k) xs Oh
 simp only[au,aA]at A3
 have bw:N id:=hN 0 (by omega)
 have aU:o≠id:=fun e=>A3.1 (e▸bw)
 subst ZB
 refine(hr w _ xs.length m q vs Ic (by omega) (by omega) (by omega) (yZ sY Ic.1)).mono fun en w' ⟨v',e1,e2,e3,e4⟩=>?_
 have kk:cG ψ hh.get w w':=cG.grown e3 (fun b e=>⟨o,by rw[Oh];simp,e⟩)
 have sm:=kk.same g
 have hlen:(cX xs (m:Int) q).length=m+(xs.length-q):=by
  simp only[cX,Int.toNat_natCast,List.length_append,List.length_take,List.length_drop];omega
 have ZC:(vs.take (m*k.sz)).length=(xs.take m).length*k.sz:=by
  have:m*k.sz≤xs.length*k.sz:=Nat.mul_le_mul_right _ (by omega)
  rw[List.length_take,List.length_take,Ic.1,Nat.min_eq_left this,Nat.min_eq_left (by omega)]
 have mB:l6 Z w k (cX xs (m:Int) q) (vs.take (m*k.sz)++vs.drop (q*k.sz)):=(By sY m).append (Bz sY q) ZC
 have Be:=pe (N:=N) g hB id o bw Oh aU e3 (v:=v') (ok:=.row ty k) (y:=cX xs m q)
  ⟨_,by rw[hlen];exact e2,mB.Dx sm⟩ (.inl e4) (fun i ty cs hb=>au.imp (p:=fun i=>¬N i) (q:=fun i=>i≠id) (fun a ha e=>ha (by rw[e];exact bw)) (aR i ty cs hb))
 have VN:Heap.get ((id,Ob.own (.row ty k) (cX xs (m:Int) q))::hh.del o)=dy (dy hh.get o none) id (some (.own (.row ty k) (cX xs m q))):=by rw[xK,sV]
 refine⟨v',Z,dy ψ id v',e1,?_,?_⟩
 ·show Next Z ψ hh.get w B0 O N Z (dy ψ id v') (Heap.get ((id,Ob.own (.row ty k) (cX xs (m:Int) q))::hh.del o)) w'
  rw[VN];exact Be
 ·simp only[bm.v,ar]
  exact⟨e2.one,fun _=>(aS _ _ _).symm⟩
end Go.Vs
namespace Go.Vs
open Go.Proofs Go.RowKit
set_option maxHeartbeats 4000000 in
set_option maxRecDepth 100000 in
theorem GY(w:World)(v u:Value)(n:Nat)(xs ys:List Value)(hv:db w 118 4 v n xs)(hu:db w 118 4 u 1 ys)(hm:n+1≤eP)(h1:∀q∈ys,q.oneCell'=true) :
  Calls Tryz.prog 211 #[v,.int .i64 n,u] w fun en w'=>∃v',en=.returned v'∧db w' 118 4 v' (n+1) (xs++ys)∧w.grownBy w' (ob v)∧(ob v'=ob v∨∀b,ob v'=some b→w.heap.size≤b):=by
 have ht:Tryz.prog.underlying 39=some (.slice 118):=by kernel_rfl
 obtain⟨i0,z0,he⟩:=cf (P:=Tryz.prog) (e:=118) (k:=.pair (.pair (.int .i64) (.int .i64)) (.pair .str (.int .i64))) (by kernel_rfl)
 have uu:Jj w 4 u 1 ys:=by
  refine⟨hu.1,h1,.inr ?_⟩
  rcases hu.2 with⟨h0,_⟩|⟨g,cap,cur,rfl,_,hg,_,_,hc,gV⟩
  ·cases h0
  ·refine⟨_,_,rfl,fun j q hj=>?_⟩
   rw[bW,Nat.zero_add]
   rw[←gV,List.getElem?_take]at hj
   split at hj
   ·simp[World.cell?,hg];simpa using hj
   ·cases hj
 obtain⟨v',w',cY,h4,h5,h6⟩:=dk (P:=Tryz.prog) (ty:=39) ht he hv uu hm
 obtain⟨A,c,rfl⟩:=hv.slice
 have Ar:n≤c:=by
  rcases hv.2 with⟨h0,A,e⟩|⟨g,cap,cur,e,hc,h2,h3,_⟩
  ·omega
  ·cases e;exact h3
 obtain⟨B,cu,rfl⟩:=hu.slice
 have VG:n≤1073741824:=by unfold eP at hm;omega
 go_enter Tryz.func211,Tryz.ntmps211
 go_wp2_with (at_builtin;refine Lib.wpList_append_run _ rfl _ _ _ _ rfl _ _ rfl rfl _ _ cY ?_)
 all_goals go_ret
 all_goals first|exact⟨_,rfl,h4,h5,h6⟩|(subst_vars;exact⟨_,rfl,h4,h5,h6⟩)
set_option maxHeartbeats 4000000 in
set_option maxRecDepth 100000 in
theorem CP(w:World)(g c g2 c2 n i:Nat)(xs ys:List Value)(cur cH:Array Value)(hg:w.heap[g]? = some (.cells cur 118 (0,0)))(il:cur.size=c*4)(gV:cur.toList.take (n*4)=xs)(uU:xs.length=n*4)
  (ru:w.heap[g2]? = some (.cells cH 118 (0,0))) (oG:cH.size=c2*4) (ud:0<c2) (jM:cH.toList.take (1*4)=ys) (Bx:ys.length=1*4) (aU:g2≠g) (hi:i<n) (gT:n+1≤c) (hc:c≤maxLen)
  (h1:∀q∈xs,q.oneCell'=true) (h2:∀q∈ys,q.oneCell'=true) :
  Calls Tryz.prog 211 #[.slice (some ⟨g,0,none⟩) n c,.int .i64 i,.slice (some ⟨g2,0,none⟩) 1 c2] w fun en w'=>en=.returned (.slice (some ⟨g,0,none⟩) (n+1) c) ∧
   ∃cJ:Array Value,w'.heap[g]? = some (.cells cJ 118 (0,0))∧cJ.size=cur.size∧cJ.toList.take ((n+1)*4)=xs.take (i*4)++(ys++xs.drop (i*4))∧w.grownBy w' (some g):=by
 have ht:Tryz.prog.underlying 39=some (.slice 118):=by kernel_rfl
 have hz:(Tryz.prog.info? 118).map (·.size)=some 4:=by kernel_rfl
 have ux:∀w,(Go.sizeOf 118).run Tryz.prog w=.ok 4 w:=fun w=>by
  cases hq:Tryz.prog.info? 118 with
  |none=>rw[hq]at hz;cases hz
  |some i=>rw[hq]at hz;simp at hz;simp[sizeOf,typeInfo,hq,hz]
 have Oa:∀a2 lb cb,(callFunc 228 #[.slice (some ⟨g2,0,none⟩) 1 c2,.slice (some ⟨g,a2,none⟩) lb cb]).run Tryz.prog w=.ok (.value (.bool false)) w:=fun a2 lb cb=>by
  rw[run_callFunc_extern Tryz.func228 (by kernel_rfl) (by kernel_rfl) (by kernel_rfl) (e:=Extern.SlicesOverlaps.overlaps #[39,39] #[4]) (by kernel_rfl),
   Lib.run_overlaps_apart w 39 4 118 ht 4 ux ⟨g2,0,none⟩ ⟨g,a2,none⟩ 1 c2 lb cb aU 118 118 cH.size cur.size (by simp[World.shape?,ru]) (by simp[World.shape?,hg]) (by omega) (by simp[World.frozen?,ru]) (by simp[World.frozen?,ru])]
  rfl
 have Aw:=fw (size:=4) (n:=1) ru jM 0
 have qf:=fw (size:=4) (n:=n) hg gV (i*4)
 have XZ:c≤9223372036854775807:=by unfold maxLen at hc;omega
 have hn5:n*4≤cur.size:=by omega
 obtain⟨cur1,dR⟩:∃cur1:Array Value,cur1=(cur.toList.take ((i+1)*4)++xs.drop (i*4)++cur.toList.drop ((i+1)*4+(xs.drop (i*4)).length)).toArray:=⟨_,rfl⟩
 have wz:(xs.drop (i*4)).length=(n-i)*4:=by rw[List.length_drop,uU];omega
 have Mu:∀(W:World),W.heap=w.heap→∀ty dc sc,(Builtin.copy_ #[39,39] ty #[.slice (some ⟨g,(i+1)*4,none⟩) (n-i) dc,.slice (some ⟨g,i*4,none⟩) (n+1-i) sc]).run Tryz.prog W=.ok (goInt (n-i:Nat)) (W.setRow g cur1):=fun W hW ty dc sc=>by
  have:=bR (P:=Tryz.prog) W 39 39 ty 118 4 g ((i+1)*4) (n-i) dc ⟨g,i*4,none⟩ (n+1-i) sc cur 118 (xs.drop (i*4)) ht hz (by rw[hW];exact hg) (by rw[wz];simp only[Nat.min_def];split<;>omega)
   (fun j v hj=>by have:=qf j v hj;simpa only[World.cell?,hW] using this) (by omega) (fun q hq=>h1 q (List.mem_of_mem_drop hq))
  rw[this,dR]
  congr 2
  simp only[Nat.min_def];split<;>omega
 have Dh:cur1.size=cur.size:=by rw[dR];simp;omega
 obtain⟨cur3,lN⟩:∃cur3:Array Value,cur3=(cur1.toList.take (i*4)++ys++cur1.toList.drop (i*4+ys.length)).toArray:=⟨_,rfl⟩
 have Mv:∀(W:World),W.heap[g]? = some (.cells cur1 118 (0,0))→W.heap[g2]? = w.heap[g2]?→∀ty dc sc,(Builtin.copy_ #[39,39] ty #[.slice (some ⟨g,i*4,none⟩) (n+1-i) dc,.slice (some ⟨g2,0,none⟩) 1 sc]).run Tryz.prog W=.ok (goInt 1) (W.setRow g cur3):=fun W hW VH ty dc sc=>by
  have:=bR (P:=Tryz.prog) W 39 39 ty 118 4 g (i*4) (n+1-i) dc ⟨g2,0,none⟩ 1 sc cur1 118 ys ht hz hW (by rw[Bx];simp only[Nat.min_def];split<;>omega)
   (fun j v hj=>by have:=Aw j v (by simpa using hj);simpa only[World.cell?,cd,VH] using this) (by omega) h2
  rw[this,lN]
  congr 2
  simp only[Nat.min_def];split<;>omega
 have GH:IntKind.i64.wrap ((i:Int)+1)=(i:Int)+1:=by rw[IntKind.wrap_i64];omega
 have Pb:IntKind.i64.wrap ((n:Int)+1)=(n:Int)+1:=by rw[IntKind.wrap_i64];omega
 have Pc:(0:Int)≤(i:Int)+1:=by omega
 have lr:i≤n:=by omega
 have Oc:((i:Int)+1).toNat=i+1:=by omega
 have Au:¬(c=i+1):=by omega
 have VI:(i:Int)≤(n:Int)+1:=by omega
 have VJ:¬(c=i):=by omega
 have Af:¬((i:Int)=(n:Int)):=by omega
 have FN:¬((c:Int)<(n:Int)+1):=by omega
 have Od:cur3.size=cur.size:=by rw[lN];simp;omega
 have nS:cur3.toList.take ((n+1)*4)=xs.take (i*4)++(ys++xs.drop (i*4)):=yY (sz:=4) (cur1:=cur1.toList) (cur3:=cur3.toList) gV (by simp;omega) (by rw[Bx]) lr (by rw[dR]) (by rw[lN])
 clear lN dR wz gV jM
 have EC:=Mv (w.drew.setRow g cur1) (setRow_heap w.drew g cur _ 118 _ hg) (_root_.Go.setRow_other w.drew g g2 _ aU)
 have mixed:Tryz.prog.follows .mixedOrders=true:=by kernel_rfl
 go_enter Tryz.func211,Tryz.ntmps211
 go_wp2_with (simp only[Oa])
 go_region_law (go_loud (refine step_copy_runI rfl _ _ 39 39 rfl (.slice (some ⟨g,(i+1)*4,none⟩) (n-i) (c-(i+1))) (.slice (some ⟨g,i*4,none⟩) (n+1-i) (c-i)) (by simp[Act.eval,Act.put]) (by simp[Act.eval,Act.put]) (Mu w.drew rfl 3 (c-(i+1)) (c-i)) ?_))
 go_wp2_with (simp only[EC])
 go_ret
 refine⟨rfl,cur3,setRow_heap _ g cur1 _ 118 _ (setRow_heap w.drew g cur _ 118 _ hg),Od,nS,⟨rfl,rfl,rfl,by simp[World.setRow],fun k hk J1=>?_⟩⟩
 have wA:k≠g:=fun e=>J1 (by rw[e])
 rw[_root_.Go.setRow_other _ g k _ wA,_root_.Go.setRow_other _ g k _ wA];rfl
set_option maxHeartbeats 4000000 in
set_option maxRecDepth 100000 in
theorem EI(w:World)(g c g2 c2 n i:Nat)(xs ys:List Value)(cur cH:Array Value)(hg:w.heap[g]? = some (.cells cur 118 (0,0)))(il:cur.size=c*4)(gV:cur.toList.take (n*4)=xs)(uU:xs.length=n*4)
  (ru:w.heap[g2]? = some (.cells cH 118 (0,0))) (oG:cH.size=c2*4) (ud:0<c2) (jM:cH.toList.take (1*4)=ys) (Bx:ys.length=1*4) (aU:g2≠g) (hi:i<n) (Ar:n≤c) (gT:c<n+1) (hm:n+1≤eP)
  (h1:∀q∈xs,q.oneCell'=true) (h2:∀q∈ys,q.oneCell'=true) :
  Calls Tryz.prog 211 #[.slice (some ⟨g,0,none⟩) n c,.int .i64 i,.slice (some ⟨g2,0,none⟩) 1 c2] w fun en w'=>∃G,en=.returned (.slice (some ⟨w.heap.size,0,none⟩) (n+1) G) ∧
   ∃cJ:Array Value,w'.heap[w.heap.size]? = some (.cells cJ 118 (0,0))∧cJ.size=G*4∧n+1≤G∧G≤maxLen∧cJ.toList.take ((n+1)*4)=xs.take (i*4)++(ys++xs.drop (i*4))∧w.grownBy w' (some g):=by
 have ht:Tryz.prog.underlying 39=some (.slice 118):=by kernel_rfl
 have Oc:Tryz.prog.underlying 3=some (.int .i64):=by kernel_rfl
 have hz:(Tryz.prog.info? 118).map (·.size)=some 4:=by kernel_rfl
 obtain⟨i0,z0,he⟩:=cf (P:=Tryz.prog) (e:=118) (k:=.pair (.pair (.int .i64) (.int .i64)) (.pair .str (.int .i64))) (by kernel_rfl)
 have J2:z0.cells.size=4:=he.qY
 have ux:i0.size=4:=he.size
 have AH:=he.bytes
 have Aw:=fw (size:=4) (n:=1) ru jM 0
 have qf:=fw (size:=4) (n:=n) hg gV (i*4)
 have EE:=fw (size:=4) (n:=n) hg gV 0
 have Oe:g<w.heap.size:=(Array.getElem?_eq_some_iff.1 hg).1
 have Mw:g2<w.heap.size:=(Array.getElem?_eq_some_iff.1 ru).1
 unfold eP at hm
 have iW:(n+1)*i0.bytes≤140737488355328:=Nat.le_trans (Nat.mul_le_mul hm AH) (by decide)
 have hold:(Builtin.firstCells i0.size i (.slice (some ⟨g,0,none⟩) i c)).run Tryz.prog w.drew=.ok (xs.take (i*4)).toArray w.drew:=by
  rw[ux]
  exact run_firstCells_some w.drew 4 i ⟨g,0,none⟩ i c (xs.take (i*4)) (by rw[List.length_take];omega) (fun j v hj=>by
   rw[List.getElem?_take]at hj
   split at hj
   ·exact EE j v hj
   ·cases hj)
 obtain⟨G,hG⟩:∃G,G=grownCap w (n+1) c 118:=⟨_,rfl⟩
 obtain⟨gW,oH⟩:∃gW:Array Value,gW=(xs.take (i*4)).toArray++Builtin.zeroCells z0.cells (n+1-i)++Builtin.zeroCells z0.cells (G-(n+1)):=⟨_,rfl⟩
 have O4:i+(n+1-i)=n+1:=by omega
 have Og:∀ty,(Builtin.append_ #[39,3] ty #[.slice (some ⟨g,0,none⟩) i c,.int .i64 ((n:Int)+1-(i:Int))]).run Tryz.prog w=.ok (.slice (some ⟨w.heap.size,0,none⟩) (n+1) G) (w.drew.alloc (.cells gW 118)):=fun ty=>by
  have h:=Lib.run_append_grow_zeros w 39 3 ty 118 i0 z0 .i64 .i64 ht Oc he.info he.zero (some ⟨g,0,none⟩) i c (xs.take (i*4)) hold (n+1-i) (by omega) (by omega) (by omega) (by omega)
   (Nat.le_trans (Nat.mul_le_mul_right _ (show n+1-i≤n+1 by omega)) (by omega)) (by rw[O4];exact growslice_fits gT iW)
  rw[O4]at h
  rw[show(n:Int)+1-(i:Int)=((n+1-i:Nat):Int) by omega,oH,hG]
  exact h
 have TD:n+1≤G:=by rw[hG];exact grownCap_ge w _ _ _
 have GW:G≤9223372036854775807:=by
  have:=grownCap_le_maxLen w (n+1) c 118 (by unfold maxLen;omega)
  rw[←hG]at this
  unfold maxLen at this
  omega
 have X0:gW.size=G*4:=by
  rw[oH]
  simp[Builtin.zeroCells,J2,List.length_take,uU]
  rw[Nat.min_eq_left (by omega)];omega
 have QO:gW.toList.take (i*4)=xs.take (i*4):=by
  rw[oH]
  simp only[Array.toList_append,List.append_assoc]
  exact List.take_left' (by rw[List.length_take];omega)
 obtain⟨W1,nh⟩:∃W1,W1=w.drew.alloc (.cells gW 118):=⟨_,rfl⟩
 have pO:W1.heap[w.heap.size]? = some (.cells gW 118 (0,0)):=by rw[nh];exact(MapKept.heap_alloc w.drew (.cells gW 118)).1
 have qQ:∀b,b<w.heap.size→W1.heap[b]? = w.heap[b]? := fun b hb=>by rw[nh];exact(Below.heap_alloc w.drew (.cells gW 118) b hb).trans rfl
 have qR:w.grownBy W1 none:=⟨by rw[nh];rfl,by rw[nh];rfl,by rw[nh];rfl,by have:=(Array.getElem?_eq_some_iff.1 pO).1;omega,fun k hk _=>qQ k hk⟩
 obtain⟨row2,lO⟩:∃row2:Array Value,row2=(gW.toList.take (i*4)++ys++gW.toList.drop (i*4+ys.length)).toArray:=⟨_,rfl⟩
 have Ia:row2.size=gW.size:=by rw[lO];simp;omega
 have Mx:∀(W:World),W.heap=W1.heap→∀ty dc sc,(Builtin.copy_ #[39,39] ty #[.slice (some ⟨w.heap.size,i*4,none⟩) (n+1-i) dc,.slice (some ⟨g2,0,none⟩) 1 sc]).run Tryz.prog W=.ok (goInt 1) (W.setRow w.heap.size row2):=fun W hW ty dc sc=>by
  have:=bR (P:=Tryz.prog) W 39 39 ty 118 4 w.heap.size (i*4) (n+1-i) dc ⟨g2,0,none⟩ 1 sc gW 118 ys ht hz (by rw[hW];exact pO) (by rw[Bx];simp only[Nat.min_def];split<;>omega)
   (fun j v hj=>by have:=Aw j v (by simpa using hj);simpa only[World.cell?,cd,hW,qQ g2 Mw] using this) (by omega) h2
  rw[this,lO]
  congr 2
  simp only[Nat.min_def];split<;>omega
 obtain⟨row3,lP⟩:∃row3:Array Value,row3=(row2.toList.take ((i+1)*4)++xs.drop (i*4)++row2.toList.drop ((i+1)*4+(xs.drop (i*4)).length)).toArray:=⟨_,rfl⟩
 have wz:(xs.drop (i*4)).length=(n-i)*4:=by rw[List.length_drop,uU];omega
 have Od:row3.size=gW.size:=by rw[lP];simp;omega
 have My:∀(W:World),W.heap=(W1.setRow w.heap.size row2).heap→∀ty dc sc,(Builtin.copy_ #[39,39] ty #[.slice (some ⟨w.heap.size,(i+1)*4,none⟩) (n-i) dc,.slice (some ⟨g,i*4,none⟩) (n-i) sc]).run Tryz.prog W=.ok (goInt (n-i:Nat)) (W.setRow w.heap.size row3):=fun W hW ty dc sc=>by
  have:=bR (P:=Tryz.prog) W 39 39 ty 118 4 w.heap.size ((i+1)*4) (n-i) dc ⟨g,i*4,none⟩ (n-i) sc row2 118 (xs.drop (i*4)) ht hz (by rw[hW];exact setRow_heap W1 w.heap.size gW _ 118 _ pO) (by rw[wz];simp only[Nat.min_def];split<;>omega)
   (fun j v hj=>by have:=qf j v hj;simpa only[World.cell?,cd,hW,_root_.Go.setRow_other W1 w.heap.size g _ (Nat.ne_of_lt Oe),qQ g Oe] using this) (by omega) (fun q hq=>h1 q (List.mem_of_mem_drop hq))
  rw[this,lP]
  congr 2
  simp only[Nat.min_def];split<;>omega
 have nS:row3.toList.take ((n+1)*4)=xs.take (i*4)++(ys++xs.drop (i*4)):=uV (sz:=4) (row:=gW.toList) (row2:=row2.toList) (row3:=row3.toList) QO (by simp;omega) uU (by rw[Bx]) (by omega) (by rw[lO]) (by rw[lP])
 clear lP lO oH wz gV jM QO EE hold hG
 have GH:IntKind.i64.wrap ((i:Int)+1)=(i:Int)+1:=by rw[IntKind.wrap_i64];omega
 have Pb:IntKind.i64.wrap ((n:Int)+1)=(n:Int)+1:=by rw[IntKind.wrap_i64];omega
 have hw3:IntKind.i64.wrap ((n:Int)+1-(i:Int))=(n:Int)+1-(i:Int):=by rw[IntKind.wrap_i64];omega
 have Pc:(0:Int)≤(i:Int)+1:=by omega
 have lr:i≤n:=by omega
 have VL:((i:Int)+1).toNat=i+1:=by omega
 have hGi:¬(G=i):=by omega
 have VM:¬(G=i+1):=by omega
 have hci:¬(c=i):=by omega
 have VI:(i:Int)≤(n:Int):=by omega
 have Af:¬((i:Int)=(n:Int)):=by omega
 have FN:(c:Int)<(n:Int)+1:=by omega
 rw[←nh]at Og
 clear nh
 have mixed:Tryz.prog.follows .mixedOrders=true:=by kernel_rfl
 go_enter Tryz.func211,Tryz.ntmps211
 go_wp2_with (first
  |(at_builtin;refine Lib.wpList_append_run _ rfl _ _ _ _ rfl _ _ rfl rfl _ _ (Og _) ?_)
  |(at_builtin;refine wpList_copy_runI _ rfl _ _ 39 39 rfl _ _ rfl rfl (Mx _ (by rfl) _ _ _) ?_))
 go_region_law (go_loud (refine step_copy_runI rfl _ _ 39 39 rfl (.slice (some ⟨w.heap.size,(i+1)*4,none⟩) (n-i) (G-(i+1))) (.slice (some ⟨g,i*4,none⟩) (n-i) (c-i)) (by simp[Act.eval,Act.put]) (by simp[Act.eval,Act.put]) (My (W1.setRow w.heap.size row2).drew rfl 3 (G-(i+1)) (c-i)) ?_))
 go_wp2
 go_ret
 refine⟨G,rfl,row3,setRow_heap _ w.heap.size row2 _ 118 _ (setRow_heap W1 w.heap.size gW _ 118 _ pO),by omega,TD,GW,nS,⟨qR.os,qR.tape,qR.output,by have:=qR.size;simpa[World.setRow] using this,fun k hk _=>?_⟩⟩
 rw[_root_.Go.setRow_other _ w.heap.size k _ (Nat.ne_of_lt hk)]
 exact(_root_.Go.setRow_other W1 w.heap.size k _ (Nat.ne_of_lt hk)).trans (qQ k hk)
theorem R9:CM Tryz.prog 211 118 4:=fun w v u n i xs ys hv hu hi hm J3 h1 h2=>by
 by_cases he:i=n
 ·subst he
  refine(GY w v u i xs ys hv hu hm h2).mono fun en w' ⟨v',e1,e2,e3,e4⟩=>⟨v',e1,?_,e3,e4⟩
  have hl:=hv.1
  rw[List.take_of_length_le (by omega),List.drop_eq_nil_of_le (by omega),List.append_nil]
  exact e2
 ·have lr:i<n:=by omega
  rcases hv.2 with⟨h0,_⟩|⟨g,c,cur,rfl,KW,hg,Ar,CO,il,gV⟩
  ·omega
  rcases hu.2 with⟨h0,_⟩|⟨g2,c2,cH,rfl,EF,ru,_,_,oG,jM⟩
  ·omega
  have iV:ob (.slice (some ⟨g,0,none⟩) n c)=some g:=by simp only[ob];rw[if_neg (by omega)]
  have Mz:ob (.slice (some ⟨g2,0,none⟩) 1 c2)=some g2:=by simp only[ob];rw[if_neg (by omega)]
  have aU:g2≠g:=fun e=>J3 g iV (by rw[Mz,e])
  by_cases gT:n+1≤c
  ·refine(CP w g c g2 c2 n i xs ys cur cH hg il gV hv.1 ru oG EF jM hu.1 aU lr gT CO h1 h2).mono fun en w' ⟨e1,cJ,e2,e3,e4,e5⟩=>?_
   refine⟨_,e1,⟨?_,.inr ⟨g,c,cJ,rfl,KW,e2,gT,CO,by rw[e3,il],e4⟩⟩,by rw[iV];exact e5,.inl ?_⟩
   ·have hl:=hv.1;have wH:=hu.1
    simp only[List.length_append,List.length_take,List.length_drop];omega
   ·rw[iV];simp only[ob];rw[if_neg (by omega)]
  ·refine(EI w g c g2 c2 n i xs ys cur cH hg il gV hv.1 ru oG EF jM hu.1 aU lr Ar (by omega) hm h1 h2).mono fun en w' ⟨G,e1,cJ,e2,e3,e4,e5,e6,e7⟩=>?_
   refine⟨_,e1,⟨?_,.inr ⟨w.heap.size,G,cJ,rfl,by omega,e2,e4,e5,e3,e6⟩⟩,by rw[iV];exact e7,.inr fun b hb=>?_⟩
   ·have hl:=hv.1;have wH:=hu.1
    simp only[List.length_append,List.length_take,List.length_drop];omega
   ·simp only[ob]at hb;rw[if_neg (by omega)]at hb;cases hb;omega
set_option maxHeartbeats 4000000 in
set_option maxRecDepth 100000 in
theorem EJ(w:World)(g c n i j X:Nat)(xs:List Value)(cur:Array Value)(hg:w.heap[g]? = some (.cells cur 118 (0,0)))(il:cur.size=c*4)(gV:cur.toList.take (n*4)=xs)(uU:xs.length=n*4)
  (xQ:i<j) (KQ:j≤n) (Ar:n≤c) (hc:c≤maxLen) (hX:if c=j then X=0 else X=j*4)
  (h1:∀q∈xs,q.oneCell'=true) :
  Calls Tryz.prog 186 #[.slice (some ⟨g,0,none⟩) n c,.int .i64 i,.int .i64 j] w fun en w'=>en=.returned (.slice (some ⟨g,0,none⟩) (i+(n-j)) c) ∧
   ∃cJ:Array Value,w'.heap[g]? = some (.cells cJ 118 (0,0))∧cJ.size=cur.size∧cJ.toList.take ((i+(n-j))*4)=xs.take (i*4)++xs.drop (j*4)∧w.grownBy w' (some g):=by
 have ht:Tryz.prog.underlying 39=some (.slice 118):=by kernel_rfl
 have hz:(Tryz.prog.info? 118).map (·.size)=some 4:=by kernel_rfl
 obtain⟨zs,ux⟩:∃zs,xk Tryz.prog 118=some zs:=Option.isSome_iff_exists.1 (by kernel_rfl)
 obtain⟨i0,z0,R6,OF,rfl,vE⟩:=ns ux
 obtain⟨i1,z1,he⟩:=cf (P:=Tryz.prog) (e:=118) (k:=.pair (.pair (.int .i64) (.int .i64)) (.pair .str (.int .i64))) (by kernel_rfl)
 have ei:i1=i0:=by have:=he.info;rw[R6]at this;cases this;rfl
 subst ei
 have ez:z1=z0:=by have:=he.zero;rw[OF]at this;cases this;rfl
 subst ez
 have J2:z1.cells.size=4:=he.qY
 clear he ux
 have wz:(xs.drop (j*4)).length=(n-j)*4:=by rw[List.length_drop,uU];omega
 obtain⟨cur1,dR⟩:∃cur1:Array Value,cur1=(cur.toList.take (i*4)++xs.drop (j*4)++cur.toList.drop (i*4+(xs.drop (j*4)).length)).toArray:=⟨_,rfl⟩
 have Dh:cur1.size=cur.size:=by rw[dR];simp;omega
 have J3:∀ty sc,(Builtin.append_ #[39,39] ty #[.slice (some ⟨g,0,none⟩) i c,.slice (some ⟨g,X,none⟩) (n-j) sc]).run Tryz.prog w.drew=.ok (.slice (some ⟨g,0,none⟩) (i+(n-j)) c) (w.drew.setRow g cur1):=fun ty sc=>by
  by_cases J4:c=j
  ·have hnj:n=j:=by omega
   have:n-j=0:=by omega
   rw[this]at wz ⊢
   have Dz:xs.drop (j*4)=[]:=List.eq_nil_of_length_eq_zero (by omega)
   rw[dU ht R6 _ _ _ (by omega) _ _,dR,Dz]
   simp only[List.append_nil,List.length_nil,Nat.add_zero,List.take_append_drop,Array.toArray_toList]
   rw[setRow_self w.drew g cur 118 (0,0) hg]
  ·rw[if_neg J4]at hX
   subst hX
   rw[dR]
   exact mN (P:=Tryz.prog) w.drew 39 ty 118 4 g i c ⟨g,j*4,none⟩ (n-j) sc cur (xs.drop (j*4)) ht hz hg wz (fw (size:=4) (n:=n) (w:=w.drew) hg gV (j*4)) (fun q hq=>h1 q (List.mem_of_mem_drop hq)) (by omega) (by omega)
 obtain⟨cH,tJ⟩:∃cH:Array Value,cH=(cur1.toList.take ((i+(n-j))*4)++(Builtin.zeroCells z1.cells (j-i)).toList++cur1.toList.drop ((i+(n-j))*4+(Builtin.zeroCells z1.cells (j-i)).toList.length)).toArray:=⟨_,rfl⟩
 have TE:(Builtin.zeroCells z1.cells (j-i)).toList.length=(j-i)*4:=by simp[Builtin.zeroCells,J2]
 have Ia:cH.size=cur.size:=by rw[tJ];simp[TE];omega
 have rM:∀ty sc,(Builtin.clear_ #[39] ty #[.slice (some ⟨g,(i+(n-j))*4,none⟩) (n-(i+(n-j))) sc]).run Tryz.prog (w.drew.setRow g cur1)=.ok (.tuple #[]) ((w.drew.setRow g cur1).setRow g cH):=fun ty sc=>by
  have:=pN (P:=Tryz.prog) (w.drew.setRow g cur1) 39 ty 118 4 g ((i+(n-j))*4) (j-i) sc cur1 i1 z1 ht R6 OF J2 vE (setRow_heap w.drew g cur _ 118 _ hg) (by omega) (by omega)
  rw[show n-(i+(n-j))=j-i by omega,this,tJ]
 have nS:cH.toList.take ((i+(n-j))*4)=xs.take (i*4)++xs.drop (j*4):=EG (cur1:=cur1.toList) gV (by simp;omega) (by omega) KQ (by rw[dR]) (by rw[tJ])
 clear dR tJ gV wz
 have XZ:c≤9223372036854775807:=by unfold maxLen at hc;omega
 have lr:i≤n:=by omega
 have hic:¬(c=i):=by omega
 have hjc:j≤c:=by omega
 have aU:¬((i:Int)=(j:Int)):=by omega
 have ng:i≤j:=by omega
 have Zt:i≤c:=by omega
 have Zu:i+(n-j)≤n:=by omega
 have Zv:i+(n-j)≤c:=by omega
 have Zw:¬(c=i+(n-j)):=by omega
 have Zx:(i:Int)+((n-j:Nat):Int)≤(n:Int):=by omega
 have mixed:Tryz.prog.follows .mixedOrders=true:=by kernel_rfl
 by_cases J4:c=j
 ·rw[if_pos J4]at hX
  subst hX
  subst J4
  obtain rfl:n=c:=by omega
  simp only[Nat.sub_self,Nat.add_zero]at J3 rM nS ⊢
  go_enter Tryz.func186,Tryz.ntmps186
  go_wp2_with fail
  go_region_law (go_loud (refine gu rfl _ _ 39 39 rfl (.slice (some ⟨g,0,none⟩) i n) (.slice (some ⟨g,0,none⟩) 0 0) (by simp[Act.eval,Act.put]) (by simp[Act.eval,Act.put]) (J3 39 0) ?_))
  go_wp2_with (simp only[rM])
  go_ret
  refine⟨rfl,cH,setRow_heap _ g cur1 _ 118 _ (setRow_heap w.drew g cur _ 118 _ hg),Ia,nS,⟨rfl,rfl,rfl,by simp[World.setRow],fun k hk J1=>?_⟩⟩
  have wA:k≠g:=fun e=>J1 (by rw[e])
  rw[_root_.Go.setRow_other _ g k _ wA,_root_.Go.setRow_other _ g k _ wA];rfl
 ·rw[if_neg J4]at hX
  subst hX
  go_enter Tryz.func186,Tryz.ntmps186
  go_wp2_with fail
  go_region_law (go_loud (refine gu rfl _ _ 39 39 rfl (.slice (some ⟨g,0,none⟩) i c) (.slice (some ⟨g,j*4,none⟩) (n-j) (c-j)) (by simp[Act.eval,Act.put]) (by simp[Act.eval,Act.put]) (J3 39 (c-j)) ?_))
  go_wp2_with (simp only[rM])
  go_ret
  refine⟨rfl,cH,setRow_heap _ g cur1 _ 118 _ (setRow_heap w.drew g cur _ 118 _ hg),Ia,nS,⟨rfl,rfl,rfl,by simp[World.setRow],fun k hk J1=>?_⟩⟩
  have wA:k≠g:=fun e=>J1 (by rw[e])
  rw[_root_.Go.setRow_other _ g k _ wA,_root_.Go.setRow_other _ g k _ wA];rfl
theorem Sa:GX Tryz.prog 186 118 4:=fun w v n i j xs hv xQ KQ hm h1=>by
 rcases hv.2 with⟨h0,_⟩|⟨g,c,cur,rfl,KW,hg,Ar,CO,il,gV⟩
 ·omega
 have iV:ob (.slice (some ⟨g,0,none⟩) n c)=some g:=by simp only[ob];rw[if_neg (by omega)]
 refine(EJ w g c n i j (if c=j then 0 else j*4) xs cur hg il gV hv.1 xQ KQ Ar CO (by split<;>rfl) h1).mono fun en w' ⟨e1,cJ,e2,e3,e4,e5⟩=>?_
 refine⟨_,e1,⟨?_,.inr ⟨g,c,cJ,rfl,KW,e2,by omega,CO,by rw[e3,il],e4⟩⟩,by rw[iV];exact e5,?_⟩
 ·have hl:=hv.1
  simp only[List.length_append,List.length_take,List.length_drop];omega
 ·rw[iV];simp only[ob];rw[if_neg (by omega)]
end Go.Vs
namespace Go.Vs
open Go.Proofs Go.RowKit
set_option maxHeartbeats 4000000 in
set_option maxRecDepth 100000 in
theorem GZ(w:World)(v u:Value)(n:Nat)(xs ys:List Value)(hv:db w 54 6 v n xs)(hu:db w 54 6 u 1 ys)(hm:n+1≤eP)(h1:∀q∈ys,q.oneCell'=true) :
  Calls Tryz.prog 233 #[v,.int .i64 n,u] w fun en w'=>∃v',en=.returned v'∧db w' 54 6 v' (n+1) (xs++ys)∧w.grownBy w' (ob v)∧(ob v'=ob v∨∀b,ob v'=some b→w.heap.size≤b):=by
 have ht:Tryz.prog.underlying 42=some (.slice 54):=by kernel_rfl
 obtain⟨i0,z0,he⟩:=cf (P:=Tryz.prog) (e:=54) (k:=.pair (.pair (.pair (.int .i64) (.int .i64)) (.int .i64)) (.pair (.pair (.int .i64) (.int .i64)) (.int .i64))) (by kernel_rfl)
 have uu:Jj w 6 u 1 ys:=by
  refine⟨hu.1,h1,.inr ?_⟩
  rcases hu.2 with⟨h0,_⟩|⟨g,cap,cur,rfl,_,hg,_,_,hc,gV⟩
  ·cases h0
  ·refine⟨_,_,rfl,fun j q hj=>?_⟩
   rw[bW,Nat.zero_add]
   rw[←gV,List.getElem?_take]at hj
   split at hj
   ·simp[World.cell?,hg];simpa using hj
   ·cases hj
 obtain⟨v',w',cY,h4,h5,h6⟩:=dk (P:=Tryz.prog) (ty:=42) ht he hv uu hm
 obtain⟨A,c,rfl⟩:=hv.slice
 have Ar:n≤c:=by
  rcases hv.2 with⟨h0,A,e⟩|⟨g,cap,cur,e,hc,h2,h3,_⟩
  ·omega
  ·cases e;exact h3
 obtain⟨B,cu,rfl⟩:=hu.slice
 have VG:n≤1073741824:=by unfold eP at hm;omega
 go_enter Tryz.func233,Tryz.ntmps233
 go_wp2_with (at_builtin;refine Lib.wpList_append_run _ rfl _ _ _ _ rfl _ _ rfl rfl _ _ cY ?_)
 all_goals go_ret
 all_goals first|exact⟨_,rfl,h4,h5,h6⟩|(subst_vars;exact⟨_,rfl,h4,h5,h6⟩)
set_option maxHeartbeats 4000000 in
set_option maxRecDepth 100000 in
theorem CQ(w:World)(g c g2 c2 n i:Nat)(xs ys:List Value)(cur cH:Array Value)(hg:w.heap[g]? = some (.cells cur 54 (0,0)))(il:cur.size=c*6)(gV:cur.toList.take (n*6)=xs)(uU:xs.length=n*6)
  (ru:w.heap[g2]? = some (.cells cH 54 (0,0))) (oG:cH.size=c2*6) (ud:0<c2) (jM:cH.toList.take (1*6)=ys) (Bx:ys.length=1*6) (aU:g2≠g) (hi:i<n) (gT:n+1≤c) (hc:c≤maxLen)
  (h1:∀q∈xs,q.oneCell'=true) (h2:∀q∈ys,q.oneCell'=true) :
  Calls Tryz.prog 233 #[.slice (some ⟨g,0,none⟩) n c,.int .i64 i,.slice (some ⟨g2,0,none⟩) 1 c2] w fun en w'=>en=.returned (.slice (some ⟨g,0,none⟩) (n+1) c) ∧
   ∃cJ:Array Value,w'.heap[g]? = some (.cells cJ 54 (0,0))∧cJ.size=cur.size∧cJ.toList.take ((n+1)*6)=xs.take (i*6)++(ys++xs.drop (i*6))∧w.grownBy w' (some g):=by
 have ht:Tryz.prog.underlying 42=some (.slice 54):=by kernel_rfl
 have hz:(Tryz.prog.info? 54).map (·.size)=some 6:=by kernel_rfl
 have ux:∀w,(Go.sizeOf 54).run Tryz.prog w=.ok 6 w:=fun w=>by
  cases hq:Tryz.prog.info? 54 with
  |none=>rw[hq]at hz;cases hz
  |some i=>rw[hq]at hz;simp at hz;simp[sizeOf,typeInfo,hq,hz]
 have Oa:∀a2 lb cb,(callFunc 246 #[.slice (some ⟨g2,0,none⟩) 1 c2,.slice (some ⟨g,a2,none⟩) lb cb]).run Tryz.prog w=.ok (.value (.bool false)) w:=fun a2 lb cb=>by
  rw[run_callFunc_extern Tryz.func246 (by kernel_rfl) (by kernel_rfl) (by kernel_rfl) (e:=Extern.SlicesOverlaps.overlaps #[42,42] #[4]) (by kernel_rfl),
   Lib.run_overlaps_apart w 42 4 54 ht 6 ux ⟨g2,0,none⟩ ⟨g,a2,none⟩ 1 c2 lb cb aU 54 54 cH.size cur.size (by simp[World.shape?,ru]) (by simp[World.shape?,hg]) (by omega) (by simp[World.frozen?,ru]) (by simp[World.frozen?,ru])]
  rfl
 have Aw:=fw (size:=6) (n:=1) ru jM 0
 have qf:=fw (size:=6) (n:=n) hg gV (i*6)
 have XZ:c≤9223372036854775807:=by unfold maxLen at hc;omega
 have hn5:n*6≤cur.size:=by omega
 obtain⟨cur1,dR⟩:∃cur1:Array Value,cur1=(cur.toList.take ((i+1)*6)++xs.drop (i*6)++cur.toList.drop ((i+1)*6+(xs.drop (i*6)).length)).toArray:=⟨_,rfl⟩
 have wz:(xs.drop (i*6)).length=(n-i)*6:=by rw[List.length_drop,uU];omega
 have Mu:∀(W:World),W.heap=w.heap→∀ty dc sc,(Builtin.copy_ #[42,42] ty #[.slice (some ⟨g,(i+1)*6,none⟩) (n-i) dc,.slice (some ⟨g,i*6,none⟩) (n+1-i) sc]).run Tryz.prog W=.ok (goInt (n-i:Nat)) (W.setRow g cur1):=fun W hW ty dc sc=>by
  have:=bR (P:=Tryz.prog) W 42 42 ty 54 6 g ((i+1)*6) (n-i) dc ⟨g,i*6,none⟩ (n+1-i) sc cur 54 (xs.drop (i*6)) ht hz (by rw[hW];exact hg) (by rw[wz];simp only[Nat.min_def];split<;>omega)
   (fun j v hj=>by have:=qf j v hj;simpa only[World.cell?,hW] using this) (by omega) (fun q hq=>h1 q (List.mem_of_mem_drop hq))
  rw[this,dR]
  congr 2
  simp only[Nat.min_def];split<;>omega
 have Dh:cur1.size=cur.size:=by rw[dR];simp;omega
 obtain⟨cur3,lN⟩:∃cur3:Array Value,cur3=(cur1.toList.take (i*6)++ys++cur1.toList.drop (i*6+ys.length)).toArray:=⟨_,rfl⟩
 have Mv:∀(W:World),W.heap[g]? = some (.cells cur1 54 (0,0))→W.heap[g2]? = w.heap[g2]?→∀ty dc sc,(Builtin.copy_ #[42,42] ty #[.slice (some ⟨g,i*6,none⟩) (n+1-i) dc,.slice (some ⟨g2,0,none⟩) 1 sc]).run Tryz.prog W=.ok (goInt 1) (W.setRow g cur3):=fun W hW VH ty dc sc=>by
  have:=bR (P:=Tryz.prog) W 42 42 ty 54 6 g (i*6) (n+1-i) dc ⟨g2,0,none⟩ 1 sc cur1 54 ys ht hz hW (by rw[Bx];simp only[Nat.min_def];split<;>omega)
   (fun j v hj=>by have:=Aw j v (by simpa using hj);simpa only[World.cell?,cd,VH] using this) (by omega) h2
  rw[this,lN]
  congr 2
  simp only[Nat.min_def];split<;>omega
 have GH:IntKind.i64.wrap ((i:Int)+1)=(i:Int)+1:=by rw[IntKind.wrap_i64];omega
 have Pb:IntKind.i64.wrap ((n:Int)+1)=(n:Int)+1:=by rw[IntKind.wrap_i64];omega
 have Pc:(0:Int)≤(i:Int)+1:=by omega
 have lr:i≤n:=by omega
 have Oc:((i:Int)+1).toNat=i+1:=by omega
 have Au:¬(c=i+1):=by omega
 have VI:(i:Int)≤(n:Int)+1:=by omega
 have VJ:¬(c=i):=by omega
 have Af:¬((i:Int)=(n:Int)):=by omega
 have FN:¬((c:Int)<(n:Int)+1):=by omega
 have Od:cur3.size=cur.size:=by rw[lN];simp;omega
 have nS:cur3.toList.take ((n+1)*6)=xs.take (i*6)++(ys++xs.drop (i*6)):=yY (sz:=6) (cur1:=cur1.toList) (cur3:=cur3.toList) gV (by simp;omega) (by rw[Bx]) lr (by rw[dR]) (by rw[lN])
 clear lN dR wz gV jM
 have EC:=Mv (w.drew.setRow g cur1) (setRow_heap w.drew g cur _ 54 _ hg) (_root_.Go.setRow_other w.drew g g2 _ aU)
 have mixed:Tryz.prog.follows .mixedOrders=true:=by kernel_rfl
 go_enter Tryz.func233,Tryz.ntmps233
 go_wp2_with (simp only[Oa])
 go_region_law (go_loud (refine step_copy_runI rfl _ _ 42 42 rfl (.slice (some ⟨g,(i+1)*6,none⟩) (n-i) (c-(i+1))) (.slice (some ⟨g,i*6,none⟩) (n+1-i) (c-i)) (by simp[Act.eval,Act.put]) (by simp[Act.eval,Act.put]) (Mu w.drew rfl 3 (c-(i+1)) (c-i)) ?_))
 go_wp2_with (simp only[EC])
 go_ret
 refine⟨rfl,cur3,setRow_heap _ g cur1 _ 54 _ (setRow_heap w.drew g cur _ 54 _ hg),Od,nS,⟨rfl,rfl,rfl,by simp[World.setRow],fun k hk J1=>?_⟩⟩
 have wA:k≠g:=fun e=>J1 (by rw[e])
 rw[_root_.Go.setRow_other _ g k _ wA,_root_.Go.setRow_other _ g k _ wA];rfl
set_option maxHeartbeats 4000000 in
set_option maxRecDepth 100000 in
theorem EK(w:World)(g c g2 c2 n i:Nat)(xs ys:List Value)(cur cH:Array Value)(hg:w.heap[g]? = some (.cells cur 54 (0,0)))(il:cur.size=c*6)(gV:cur.toList.take (n*6)=xs)(uU:xs.length=n*6)
  (ru:w.heap[g2]? = some (.cells cH 54 (0,0))) (oG:cH.size=c2*6) (ud:0<c2) (jM:cH.toList.take (1*6)=ys) (Bx:ys.length=1*6) (aU:g2≠g) (hi:i<n) (Ar:n≤c) (gT:c<n+1) (hm:n+1≤eP)
  (h1:∀q∈xs,q.oneCell'=true) (h2:∀q∈ys,q.oneCell'=true) :
  Calls Tryz.prog 233 #[.slice (some ⟨g,0,none⟩) n c,.int .i64 i,.slice (some ⟨g2,0,none⟩) 1 c2] w fun en w'=>∃G,en=.returned (.slice (some ⟨w.heap.size,0,none⟩) (n+1) G) ∧
   ∃cJ:Array Value,w'.heap[w.heap.size]? = some (.cells cJ 54 (0,0))∧cJ.size=G*6∧n+1≤G∧G≤maxLen∧cJ.toList.take ((n+1)*6)=xs.take (i*6)++(ys++xs.drop (i*6))∧w.grownBy w' (some g):=by
 have ht:Tryz.prog.underlying 42=some (.slice 54):=by kernel_rfl
 have Oc:Tryz.prog.underlying 3=some (.int .i64):=by kernel_rfl
 have hz:(Tryz.prog.info? 54).map (·.size)=some 6:=by kernel_rfl
 obtain⟨i0,z0,he⟩:=cf (P:=Tryz.prog) (e:=54) (k:=.pair (.pair (.pair (.int .i64) (.int .i64)) (.int .i64)) (.pair (.pair (.int .i64) (.int .i64)) (.int .i64))) (by kernel_rfl)
 have J2:z0.cells.size=6:=he.qY
 have ux:i0.size=6:=he.size
 have AH:=he.bytes
 have Aw:=fw (size:=6) (n:=1) ru jM 0
 have qf:=fw (size:=6) (n:=n) hg gV (i*6)
 have EE:=fw (size:=6) (n:=n) hg gV 0
 have Oe:g<w.heap.size:=(Array.getElem?_eq_some_iff.1 hg).1
 have Mw:g2<w.heap.size:=(Array.getElem?_eq_some_iff.1 ru).1
 unfold eP at hm
 have iW:(n+1)*i0.bytes≤140737488355328:=Nat.le_trans (Nat.mul_le_mul hm AH) (by decide)
 have hold:(Builtin.firstCells i0.size i (.slice (some ⟨g,0,none⟩) i c)).run Tryz.prog w.drew=.ok (xs.take (i*6)).toArray w.drew:=by
  rw[ux]
  exact run_firstCells_some w.drew 6 i ⟨g,0,none⟩ i c (xs.take (i*6)) (by rw[List.length_take];omega) (fun j v hj=>by
   rw[List.getElem?_take]at hj
   split at hj
   ·exact EE j v hj
   ·cases hj)
 obtain⟨G,hG⟩:∃G,G=grownCap w (n+1) c 54:=⟨_,rfl⟩
 obtain⟨gW,oH⟩:∃gW:Array Value,gW=(xs.take (i*6)).toArray++Builtin.zeroCells z0.cells (n+1-i)++Builtin.zeroCells z0.cells (G-(n+1)):=⟨_,rfl⟩
 have O4:i+(n+1-i)=n+1:=by omega
 have Og:∀ty,(Builtin.append_ #[42,3] ty #[.slice (some ⟨g,0,none⟩) i c,.int .i64 ((n:Int)+1-(i:Int))]).run Tryz.prog w=.ok (.slice (some ⟨w.heap.size,0,none⟩) (n+1) G) (w.drew.alloc (.cells gW 54)):=fun ty=>by
  have h:=Lib.run_append_grow_zeros w 42 3 ty 54 i0 z0 .i64 .i64 ht Oc he.info he.zero (some ⟨g,0,none⟩) i c (xs.take (i*6)) hold (n+1-i) (by omega) (by omega) (by omega) (by omega)
   (Nat.le_trans (Nat.mul_le_mul_right _ (show n+1-i≤n+1 by omega)) (by omega)) (by rw[O4];exact growslice_fits gT iW)
  rw[O4]at h
  rw[show(n:Int)+1-(i:Int)=((n+1-i:Nat):Int) by omega,oH,hG]
  exact h
 have TD:n+1≤G:=by rw[hG];exact grownCap_ge w _ _ _
 have GW:G≤9223372036854775807:=by
  have:=grownCap_le_maxLen w (n+1) c 54 (by unfold maxLen;omega)
  rw[←hG]at this
  unfold maxLen at this
  omega
 have X0:gW.size=G*6:=by
  rw[oH]
  simp[Builtin.zeroCells,J2,List.length_take,uU]
  rw[Nat.min_eq_left (by omega)];omega
 have QO:gW.toList.take (i*6)=xs.take (i*6):=by
  rw[oH]
  simp only[Array.toList_append,List.append_assoc]
  exact List.take_left' (by rw[List.length_take];omega)
 obtain⟨W1,nh⟩:∃W1,W1=w.drew.alloc (.cells gW 54):=⟨_,rfl⟩
 have pO:W1.heap[w.heap.size]? = some (.cells gW 54 (0,0)):=by rw[nh];exact(MapKept.heap_alloc w.drew (.cells gW 54)).1
 have qQ:∀b,b<w.heap.size→W1.heap[b]? = w.heap[b]? := fun b hb=>by rw[nh];exact(Below.heap_alloc w.drew (.cells gW 54) b hb).trans rfl
 have qR:w.grownBy W1 none:=⟨by rw[nh];rfl,by rw[nh];rfl,by rw[nh];rfl,by have:=(Array.getElem?_eq_some_iff.1 pO).1;omega,fun k hk _=>qQ k hk⟩
 obtain⟨row2,lO⟩:∃row2:Array Value,row2=(gW.toList.take (i*6)++ys++gW.toList.drop (i*6+ys.length)).toArray:=⟨_,rfl⟩
 have Ia:row2.size=gW.size:=by rw[lO];simp;omega
 have Mx:∀(W:World),W.heap=W1.heap→∀ty dc sc,(Builtin.copy_ #[42,42] ty #[.slice (some ⟨w.heap.size,i*6,none⟩) (n+1-i) dc,.slice (some ⟨g2,0,none⟩) 1 sc]).run Tryz.prog W=.ok (goInt 1) (W.setRow w.heap.size row2):=fun W hW ty dc sc=>by
  have:=bR (P:=Tryz.prog) W 42 42 ty 54 6 w.heap.size (i*6) (n+1-i) dc ⟨g2,0,none⟩ 1 sc gW 54 ys ht hz (by rw[hW];exact pO) (by rw[Bx];simp only[Nat.min_def];split<;>omega)
   (fun j v hj=>by have:=Aw j v (by simpa using hj);simpa only[World.cell?,cd,hW,qQ g2 Mw] using this) (by omega) h2
  rw[this,lO]
  congr 2
  simp only[Nat.min_def];split<;>omega
 obtain⟨row3,lP⟩:∃row3:Array Value,row3=(row2.toList.take ((i+1)*6)++xs.drop (i*6)++row2.toList.drop ((i+1)*6+(xs.drop (i*6)).length)).toArray:=⟨_,rfl⟩
 have wz:(xs.drop (i*6)).length=(n-i)*6:=by rw[List.length_drop,uU];omega
 have Od:row3.size=gW.size:=by rw[lP];simp;omega
 have My:∀(W:World),W.heap=(W1.setRow w.heap.size row2).heap→∀ty dc sc,(Builtin.copy_ #[42,42] ty #[.slice (some ⟨w.heap.size,(i+1)*6,none⟩) (n-i) dc,.slice (some ⟨g,i*6,none⟩) (n-i) sc]).run Tryz.prog W=.ok (goInt (n-i:Nat)) (W.setRow w.heap.size row3):=fun W hW ty dc sc=>by
  have:=bR (P:=Tryz.prog) W 42 42 ty 54 6 w.heap.size ((i+1)*6) (n-i) dc ⟨g,i*6,none⟩ (n-i) sc row2 54 (xs.drop (i*6)) ht hz (by rw[hW];exact setRow_heap W1 w.heap.size gW _ 54 _ pO) (by rw[wz];simp only[Nat.min_def];split<;>omega)
   (fun j v hj=>by have:=qf j v hj;simpa only[World.cell?,cd,hW,_root_.Go.setRow_other W1 w.heap.size g _ (Nat.ne_of_lt Oe),qQ g Oe] using this) (by omega) (fun q hq=>h1 q (List.mem_of_mem_drop hq))
  rw[this,lP]
  congr 2
  simp only[Nat.min_def];split<;>omega
 have nS:row3.toList.take ((n+1)*6)=xs.take (i*6)++(ys++xs.drop (i*6)):=uV (sz:=6) (row:=gW.toList) (row2:=row2.toList) (row3:=row3.toList) QO (by simp;omega) uU (by rw[Bx]) (by omega) (by rw[lO]) (by rw[lP])
 clear lP lO oH wz gV jM QO EE hold hG
 have GH:IntKind.i64.wrap ((i:Int)+1)=(i:Int)+1:=by rw[IntKind.wrap_i64];omega
 have Pb:IntKind.i64.wrap ((n:Int)+1)=(n:Int)+1:=by rw[IntKind.wrap_i64];omega
 have hw3:IntKind.i64.wrap ((n:Int)+1-(i:Int))=(n:Int)+1-(i:Int):=by rw[IntKind.wrap_i64];omega
 have Pc:(0:Int)≤(i:Int)+1:=by omega
 have lr:i≤n:=by omega
 have VL:((i:Int)+1).toNat=i+1:=by omega
 have hGi:¬(G=i):=by omega
 have VM:¬(G=i+1):=by omega
 have hci:¬(c=i):=by omega
 have VI:(i:Int)≤(n:Int):=by omega
 have Af:¬((i:Int)=(n:Int)):=by omega
 have FN:(c:Int)<(n:Int)+1:=by omega
 rw[←nh]at Og
 clear nh
 have mixed:Tryz.prog.follows .mixedOrders=true:=by kernel_rfl
 go_enter Tryz.func233,Tryz.ntmps233
 go_wp2_with (first
  |(at_builtin;refine Lib.wpList_append_run _ rfl _ _ _ _ rfl _ _ rfl rfl _ _ (Og _) ?_)
  |(at_builtin;refine wpList_copy_runI _ rfl _ _ 42 42 rfl _ _ rfl rfl (Mx _ (by rfl) _ _ _) ?_))
 go_region_law (go_loud (refine step_copy_runI rfl _ _ 42 42 rfl (.slice (some ⟨w.heap.size,(i+1)*6,none⟩) (n-i) (G-(i+1))) (.slice (some ⟨g,i*6,none⟩) (n-i) (c-i)) (by simp[Act.eval,Act.put]) (by simp[Act.eval,Act.put]) (My (W1.setRow w.heap.size row2).drew rfl 3 (G-(i+1)) (c-i)) ?_))
 go_wp2
 go_ret
 refine⟨G,rfl,row3,setRow_heap _ w.heap.size row2 _ 54 _ (setRow_heap W1 w.heap.size gW _ 54 _ pO),by omega,TD,GW,nS,⟨qR.os,qR.tape,qR.output,by have:=qR.size;simpa[World.setRow] using this,fun k hk _=>?_⟩⟩
 rw[_root_.Go.setRow_other _ w.heap.size k _ (Nat.ne_of_lt hk)]
 exact(_root_.Go.setRow_other W1 w.heap.size k _ (Nat.ne_of_lt hk)).trans (qQ k hk)
theorem Sb:CM Tryz.prog 233 54 6:=fun w v u n i xs ys hv hu hi hm J3 h1 h2=>by
 by_cases he:i=n
 ·subst he
  refine(GZ w v u i xs ys hv hu hm h2).mono fun en w' ⟨v',e1,e2,e3,e4⟩=>⟨v',e1,?_,e3,e4⟩
  have hl:=hv.1
  rw[List.take_of_length_le (by omega),List.drop_eq_nil_of_le (by omega),List.append_nil]
  exact e2
 ·have lr:i<n:=by omega
  rcases hv.2 with⟨h0,_⟩|⟨g,c,cur,rfl,KW,hg,Ar,CO,il,gV⟩
  ·omega
  rcases hu.2 with⟨h0,_⟩|⟨g2,c2,cH,rfl,EF,ru,_,_,oG,jM⟩
  ·omega
  have iV:ob (.slice (some ⟨g,0,none⟩) n c)=some g:=by simp only[ob];rw[if_neg (by omega)]
  have Mz:ob (.slice (some ⟨g2,0,none⟩) 1 c2)=some g2:=by simp only[ob];rw[if_neg (by omega)]
  have aU:g2≠g:=fun e=>J3 g iV (by rw[Mz,e])
  by_cases gT:n+1≤c
  ·refine(CQ w g c g2 c2 n i xs ys cur cH hg il gV hv.1 ru oG EF jM hu.1 aU lr gT CO h1 h2).mono fun en w' ⟨e1,cJ,e2,e3,e4,e5⟩=>?_
   refine⟨_,e1,⟨?_,.inr ⟨g,c,cJ,rfl,KW,e2,gT,CO,by rw[e3,il],e4⟩⟩,by rw[iV];exact e5,.inl ?_⟩
   ·have hl:=hv.1;have wH:=hu.1
    simp only[List.length_append,List.length_take,List.length_drop];omega
   ·rw[iV];simp only[ob];rw[if_neg (by omega)]
  ·refine(EK w g c g2 c2 n i xs ys cur cH hg il gV hv.1 ru oG EF jM hu.1 aU lr Ar (by omega) hm h1 h2).mono fun en w' ⟨G,e1,cJ,e2,e3,e4,e5,e6,e7⟩=>?_
   refine⟨_,e1,⟨?_,.inr ⟨w.heap.size,G,cJ,rfl,by omega,e2,e4,e5,e3,e6⟩⟩,by rw[iV];exact e7,.inr fun b hb=>?_⟩
   ·have hl:=hv.1;have wH:=hu.1
    simp only[List.length_append,List.length_take,List.length_drop];omega
   ·simp only[ob]at hb;rw[if_neg (by omega)]at hb;cases hb;omega
end Go.Vs
namespace Go.Vs
open Go.Proofs Go.RowKit
def Ix(P:Program)(f:FuncId)(e:TypeId)(size:Nat):Prop :=
 ∀(w:World) (n:Nat),n≤eP→Calls P f #[.slice none 0 0,.int .i64 n] w fun en w'=>∃v',en=.returned v'∧db w' e size v' 0 []∧w.grownBy w' none∧∀b,ob v'=some b→w.heap.size≤b
set_option maxHeartbeats 4000000 in
set_option maxRecDepth 100000 in
theorem Pd:Ix Tryz.prog 220 33 3:=fun w n hm=>by
 have ht:Tryz.prog.underlying 50=some (.slice 33):=by kernel_rfl
 have Oc:Tryz.prog.underlying 3=some (.int .i64):=by kernel_rfl
 obtain⟨i0,z0,he⟩:=cf (P:=Tryz.prog) (e:=33) (k:=.pair (.pair (.int .i64) (.int .i64)) (.int .i64)) (by kernel_rfl)
 have J2:z0.cells.size=3:=he.qY
 have ux:i0.size=3:=he.size
 have AH:=he.bytes
 unfold eP at hm
 by_cases hn:n=0
 ·subst hn
  have iV:ob (.slice none 0 0)=none:=rfl
  go_enter Tryz.func220,Tryz.ntmps220
  go_wp2
  go_ret
  exact⟨_,rfl,⟨by simp,.inl ⟨rfl,none,rfl⟩⟩,World.grownBy.refl w _,fun b hb=>by simp[ob]at hb⟩
 ·have iW:n*i0.bytes≤281474976710656:=Nat.le_trans (Nat.mul_le_mul hm AH) (by decide)
  obtain⟨G,hG⟩:∃G,G=grownCap w n 0 33:=⟨_,rfl⟩
  obtain⟨gW,oH⟩:∃gW,gW=Builtin.zeroCells z0.cells n++Builtin.zeroCells z0.cells (G-n):=⟨_,rfl⟩
  obtain⟨W1,nh⟩:∃W1,W1=w.drew.alloc (.cells gW 33):=⟨_,rfl⟩
  have Og:∀ty,(Builtin.append_ #[50,3] ty #[.slice none 0 0,.int .i64 n]).run Tryz.prog w=.ok (.slice (some ⟨w.heap.size,0,none⟩) n G) W1:=fun ty=>by
   rw[nh,oH,hG]
   exact Lib.run_append_nil_zeros w 50 3 ty 33 i0 z0 .i64 .i64 ht Oc he.info he.zero n (by omega) (by omega) (by omega) iW
  have TD:n≤G:=by rw[hG];exact grownCap_ge w _ _ _
  have GW:G≤9223372036854775807:=by
   have:=grownCap_le_maxLen w n 0 33 (by unfold maxLen;omega)
   rw[←hG]at this
   unfold maxLen at this
   omega
  have X0:gW.size=G*3:=by
   rw[oH]
   simp[Builtin.zeroCells,J2]
   omega
  have pO:W1.heap[w.heap.size]? = some (.cells gW 33 (0,0)):=by rw[nh];exact(MapKept.heap_alloc w.drew (.cells gW 33)).1
  have qQ:∀b,b<w.heap.size→W1.heap[b]? = w.heap[b]? := fun b hb=>by rw[nh];exact(Below.heap_alloc w.drew (.cells gW 33) b hb).trans rfl
  have qR:w.grownBy W1 none:=⟨by rw[nh];rfl,by rw[nh];rfl,by rw[nh];rfl,by have:=(Array.getElem?_eq_some_iff.1 pO).1;omega,fun k hk _=>qQ k hk⟩
  clear oH nh hG
  have ZD:¬((n:Int)<0):=by omega
  have Tt:0<(n:Int):=by omega
  have YG:IntKind.i64.wrap (n:Int)=n:=by rw[IntKind.wrap_i64];omega
  have hG0:¬(G=0):=by omega
  go_enter Tryz.func220,Tryz.ntmps220
  go_wp2_with (at_builtin;refine Lib.wpList_append_run _ rfl _ _ _ _ rfl _ _ rfl rfl _ _ (Og _) ?_)
  go_ret
  refine⟨.slice (some ⟨w.heap.size,0,none⟩) 0 G,rfl,⟨by simp,.inr ⟨w.heap.size,G,gW,rfl,by omega,pO,by omega,GW,X0,by simp⟩⟩,qR,fun b hb=>?_⟩
  simp only[ob]at hb;rw[if_neg (by omega)]at hb;cases hb;omega
theorem EL{P:Program}{f:FuncId}{ty:TypeId}{k:K}(hr:Ix P f ty k.sz):fR P f (K6 ty k):=by
 intro Z ψ h w B0 O N hh id e vs us g hB aZ hN aR mf qe A3 he
 unfold K6 at he
 split at he
 rotate_left
 ·cases he
 rename_i n
 simp only[Option.some.injEq,Prod.mk.injEq]at he
 obtain⟨lq,rfl⟩:=he
 simp only[xq,Bool.and_eq_true,decide_eq_true_eq]at lq
 obtain⟨h0,h1⟩:=lq
 obtain⟨m,rfl⟩:∃m:Nat,n=m:=⟨n.toNat,by omega⟩
 simp only[ai,ar]at qe
 obtain⟨v,_,rfl,rfl,u,_,rfl,rfl,rfl⟩:=qe
 have bw:N id:=hN 0 (by omega)
 refine(hr w m (by omega)).mono fun en w' ⟨v',e1,e2,e3,e4⟩=>?_
 have kk:cG ψ h w w':=cG.grown e3 (fun b e=>by cases e)
 have Be:=o9 (N:=N) g hB id ty bw (k:=k) (xs:=[]) (vs:=[]) kk (fun b hb=>e3.block b (g.bA hb) (by simp)) e2 (fun i x hx=>by simp at hx) e4 (fun i ty cs hb=>au.imp (p:=fun i=>¬N i) (q:=fun i=>i≠id) (fun a ha e=>ha (by rw[e];exact bw)) (aR i ty cs hb))
 refine⟨v',Z,dy ψ id v',e1,?_,?_⟩
 ·have VN:(bm.new (.bp id) [(id,Ob.own (.row ty k) [])]).hp h=dy h id (some (.own (.row ty k) [])):=gG id _ h
  rw[VN];exact Be
 ·simp only[bm.v,ar]
  exact⟨e2.one,fun _=>(aS _ _ _).symm⟩
end Go.Vs
namespace Go.Vs
open Go.Proofs Go.RowKit
end Go.Vs
namespace Go.Vs
variable {P:Program}
def wB(P:Program)(g:TypeId→K→Bool):List Field→Nat→K→Bool
 |[],_,_=>false
 |[f],off,k=>(f.name != "_")&&(decide (f.offset=off)&&(decide (P.cellsOf f.type=k.sz)&&g f.type k))
 |f::f'::r,off,.pair a b=>(f.name != "_")&&(decide (f.offset=off)&&(decide (P.cellsOf f.type=a.sz)&&(g f.type a&&wB P g (f'::r) (off+a.sz) b)))
 |_,_,_=>false
def MA(P:Program):Nat→TypeId→K→Bool
 |0,_,_=>false
 |d+1,t,k =>
  match P.underlying t,k with
  |some (.int a),.int b=>decide (a=b)
  |some .bool,.bool=>true
  |some .string,.str=>true
  |some (.struct fs),.pair a b => !P.stoodInHeld t&&wB P (MA P d) fs.toList 0 (.pair a b)
  |_,_=>false
def VK(w:World)(Z:Nat→Prop):(k:K)→k.T→Value→Prop
 |.pair a b,x,v=>∃cs:Array Value,v=.agg cs∧ax Z w (.pair a b) x cs.toList
 |.one k,x,v=>False
 |k,x,v=>ax Z w k x [v]
theorem w4{Z:Nat→Prop}{w:World}{d:Nat}{t:TypeId}{k:K}(hk:MA P d t k=true)(hc:P.cellsOf t=k.sz){cs:Array Value}{off:Nat}{x:k.T}(hr:ax Z w k x ((cs.toList.drop off).take k.sz)) :
  ∃v,(part t cs off).run P w=.ok v w∧VK w Z k x v:=by
 cases d with
 |zero=>simp[MA]at hk
 |succ d =>
  have plain:k.sz=1→(P.underlying t).map F3=some false→∃v,(part t cs off).run P w=.ok v w∧ax Z w k x [v]:=fun h1 h2=>by
   rw[h1]at hr
   have hl:=hr.len
   rw[h1,List.length_take,List.length_drop,Array.length_toList]at hl
   have aG:off<cs.size:=by omega
   refine⟨cs[off],?_,?_⟩
   ·simp[part,fi h2,aG]
   ·have:(cs.toList.drop off).take 1=[cs[off]]:=by
     rw[List.drop_eq_getElem_cons (by simpa using aG)];simp
    rwa [this]at hr
  unfold MA at hk
  split at hk
  ·rename_i a b hu
   exact plain rfl (by rw[hu];rfl)
  ·rename_i hu
   exact plain rfl (by rw[hu];rfl)
  ·rename_i hu
   exact plain rfl (by rw[hu];rfl)
  ·rename_i fs a b hu
   obtain⟨i,hi⟩:=qX hu
   refine⟨.agg (cs.extract off (off+P.cellsOf t)),?_,_,rfl,?_⟩
   ·have h2:(P.underlying t).map F3=some true:=by rw[hu];rfl
    simp[part,fi h2,c8 hi]
   ·rw[Array.toList_extract,hc]
    simpa[List.extract] using hr
  ·cases hk
def gX(em:Bool)(d:Nat)(cs:Array Value):List Field→Sem Unit
 |[]=>pure ()
 |f::fs =>
  if f.name≠ "_" then do
   let a ←part f.type cs f.offset
   Instr.checkKey em d f.type a
   gX em d cs fs
  else gX em d cs fs
theorem qS(em:Bool)(w:World)(d:Nat)(t:TypeId)(cs:Array Value)(fs:Array Field)(ht:P.underlying t=some (.struct fs)) :
  (Instr.checkKey em (d+1) t (.agg cs)).run P w=(gX em d cs fs.toList).run P w:=by
 simp only[Instr.checkKey,Sem.run_bind,run_underlying ht,Result.andThen_ok]
 rw[←Array.forIn_toList]
 generalize fs.toList=l
 clear ht
 induction l generalizing w with
 |nil=>simp[gX]
 |cons f fs ih =>
  simp only[List.forIn_cons,gX,Sem.run_bind,Sem.run_ite]
  split
  ·generalize (part f.type cs f.offset).run P w=r1
   cases r1 with
   |ok a w1 =>
    simp only[Result.andThen_ok]
    generalize (Instr.checkKey em d f.type a).run P w1=r2
    cases r2 with
    |ok b w2 =>
     simp only[Result.andThen_ok,Sem.run_pure]
     exact ih w2
    |halt x w2=>simp[Result.andThen]
   |halt x w1=>simp[Result.andThen]
  ·simp only[Sem.run_pure,Result.andThen_ok]
   exact ih w
theorem EM{Z:Nat→Prop}{D d:Nat}(em:Bool)(hg:∀t k,MA P d t k=true→∀(w:World) (x y:k.T) (u v:Value),VK w Z k x u→VK w Z k y v→(Op.equalIn (D+d) t u v).run P w=.ok (pY k x y) w∧(Instr.checkKey em (D+d) t u).run P w=.ok () w)(w:World)(xs ys:Array Value) :
  ∀(fs:List Field) (off:Nat) (k:K),wB P (MA P d) fs off k=true→∀(x y:k.T),ax Z w k x ((xs.toList.drop off).take k.sz)→ax Z w k y ((ys.toList.drop off).take k.sz) →
   (Op.eqFields (D+d) xs ys fs).run P w=.ok (pY k x y) w∧(gX em (D+d) xs fs).run P w=.ok () w
 |[],_,_,h,_,_,_,_=>by simp[wB]at h
 |[f],off,k,h,x,y,hx,hy=>by
  have h':f.name≠ "_"∧f.offset=off∧P.cellsOf f.type=k.sz∧MA P d f.type k=true:=by
   cases k<;>simpa[wB] using h
  obtain⟨h0,h1,h2,h3⟩:=h'
  subst h1
  obtain⟨u,hu,VO⟩:=w4 h3 h2 hx
  obtain⟨v,hv,xM⟩:=w4 h3 h2 hy
  obtain⟨e1,e2⟩:=hg _ _ h3 w x y u v VO xM
  constructor
  ·simp only[Op.eqFields,if_pos h0,Sem.run_bind,hu,hv,e1,Result.andThen_ok]
   cases pY k x y<;>simp
  ·simp[gX,h0,hu,e2]
 |f::f'::r,off,.pair a b,h,x,y,hx,hy=>by
  simp only[wB,Bool.and_eq_true,decide_eq_true_eq,bne_iff_ne,ne_eq]at h
  obtain⟨h0,h1,h2,h3,h4⟩:=h
  subst h1
  simp only[ax,K.sz]at hx hy
  obtain⟨us,ws,ex,MB,X1⟩:=hx
  obtain⟨hM,Yo,ey,QP,QQ⟩:=hy
  have sp:∀(zs:Array Value) (us ws:List Value),us.length=a.sz→ws.length=b.sz→(zs.toList.drop f.offset).take (a.sz+b.sz)=us++ws→us=(zs.toList.drop f.offset).take a.sz∧ws=(zs.toList.drop (f.offset+a.sz)).take b.sz:=fun zs us ws l1 l2 e=>by
   rw[List.take_add,]at e
   have hl:((zs.toList.drop f.offset).take a.sz).length=us.length:=by
    have:=congrArg List.length e
    simp only[List.length_append,List.length_take,List.length_drop]at this ⊢
    omega
   obtain⟨e1,e2⟩:=List.append_inj e hl
   exact⟨e1.symm,by rw[←e2,List.drop_drop]⟩
  obtain⟨rfl,rfl⟩:=sp xs us ws MB.len X1.len ex
  obtain⟨rfl,rfl⟩:=sp ys hM Yo QP.len QQ.len ey
  obtain⟨u,hu,VO⟩:=w4 h3 h2 MB
  obtain⟨v,hv,xM⟩:=w4 h3 h2 QP
  obtain⟨e1,e2⟩:=hg _ _ h3 w x.1 y.1 u v VO xM
  obtain⟨e3,e4⟩:=EM em hg w xs ys (f'::r) (f.offset+a.sz) b h4 x.2 y.2 X1 QQ
  constructor
  ·rw[Op.eqFields,if_pos h0]
   simp only[Sem.run_bind,hu,hv,e1,Result.andThen_ok,Sem.run_ite,e3,pY]
   cases pY a x.1 y.1<;>simp
  ·rw[gX,if_pos h0]
   simp only[Sem.run_bind,hu,e2,Result.andThen_ok]
   exact e4
 |f::f'::r,off,.int _,h,_,_,_,_=>by simp[wB]at h
 |f::f'::r,off,.bool,h,_,_,_,_=>by simp[wB]at h
 |f::f'::r,off,.str,h,_,_,_,_=>by simp[wB]at h
 |f::f'::r,off,.sl _,h,_,_,_,_=>by simp[wB]at h
 |f::f'::r,off,.one _,h,_,_,_,_=>by simp[wB]at h
 |f::f'::r,off,.mp _ _,h,_,_,_,_=>by simp[wB]at h
theorem Iy{Z:Nat→Prop}(D:Nat)(em:Bool):∀(d:Nat) (t:TypeId) (k:K),MA P d t k=true→∀(w:World) (x y:k.T) (u v:Value),VK w Z k x u→VK w Z k y v →
  (Op.equalIn (D+d) t u v).run P w=.ok (pY k x y) w∧(Instr.checkKey em (D+d) t u).run P w=.ok () w
 |0,_,_,h,_,_,_,_,_,_,_=>by simp[MA]at h
 |d+1,t,k,h,w,x,y,u,v,hu,hv=>by
  rw[←Nat.add_assoc]
  unfold MA at h
  split at h
  ·rename_i a b ht
   simp only[decide_eq_true_eq]at h;subst h
   simp only[VK,ax,List.cons.injEq,and_true]at hu hv
   subst hu;subst hv
   exact⟨run_equalIn_int w _ _ _ _ _ _ ht,by simp[Instr.checkKey,run_underlying ht]⟩
  ·rename_i ht
   simp only[VK,ax,List.cons.injEq,and_true]at hu hv
   subst hu;subst hv
   exact⟨run_equalIn_bool' w _ _ _ _ ht,by simp[Instr.checkKey,run_underlying ht]⟩
  ·rename_i ht
   simp only[VK,ax,List.cons.injEq,and_true]at hu hv
   subst hu;subst hv
   exact⟨(run_equalIn_string w _ _ _ _ ht).trans (congrArg (fun b=>Result.ok b w) (beq_toListBytes (show ByteArray from x) (show ByteArray from y)).symm),by simp[Instr.checkKey,run_underlying ht]⟩
  ·rename_i fs a b ht
   simp only[Bool.and_eq_true,Bool.not_eq_true']at h
   obtain⟨hs,hf⟩:=h
   obtain⟨xs,rfl,hx⟩:=hu
   obtain⟨ys,rfl,hy⟩:=hv
   have Pe:P.fieldsOf t=fs:=by simp[Program.fieldsOf,ht]
   have uU:=hx.len
   have Bx:=hy.len
   obtain⟨e1,e2⟩:=EM (D:=D) (Z:=Z) em (fun t k hk w x y u v hu hv=>Iy D em d t k hk w x y u v hu hv) w xs ys fs.toList 0 (.pair a b) hf x y
    (by rw[List.drop_zero,List.take_of_length_le (by omega)];exact hx) (by rw[List.drop_zero,List.take_of_length_le (by omega)];exact hy)
   constructor
   ·rw[run_equalIn_struct w (D+d) t xs ys (by rw[Pe];exact ht) hs,Pe];exact e1
   ·rw[qS em w (D+d) t xs fs ht];exact e2
  ·cases h
theorem J5{d:Nat}{t:TypeId}{a b:K}(hd:d≤10000)(hk:MA P d t (.pair a b)=true)(hg:P.eqGuardType P.depth t=false):kH P t (.pair a b):=fun Z w x y xs ys hx hy=>by
 have e:10000-d+d=10000:=by omega
 have key:=fun em=>Iy (Z:=Z) (10000-d) em d t (.pair a b) hk w x y (.agg xs) (.agg ys) ⟨xs,rfl,hx⟩ ⟨ys,rfl,hy⟩
 rw[e]at key
 exact⟨(key true).1,fun op p q=>run_eqGuard_agg w op t p q xs ys hg,fun em=>(key em).2⟩
end Go.Vs
namespace Go.Vs
open Go.Proofs
theorem MC{f:FuncId}{g:aK}(h:Sg f=some g):(f,g)∈XW:=by
 unfold Sg at h
 obtain⟨p,hp,rfl⟩:=Option.map_eq_some_iff.1 h
 have h1:=List.mem_of_find?_eq_some hp
 have h2:=List.find?_some hp
 have:p.1=f:=by simpa using h2
 subst this
 exact h1
theorem kh:∀f g,Sg f=some g→ir Tryz.prog (f%1000):=fun f g h=>by
 have hm:=MC h
 have key:(XW.all fun p=>match Tryz.prog.funcs[p.1%1000]? with|some fn => !(fn.name== "runtime.NumGoroutine")&&fn.body.isSome|none=>false)=true:=by kernel_rfl
 have:=List.all_eq_true.1 key _ hm
 simp only at this
 split at this
 ·rename_i fn hf
  simp only[Bool.and_eq_true,Bool.not_eq_true']at this
  exact⟨fn,hf,this.1,this.2⟩
 ·cases this
theorem qx:Tryz.prog.follows .mixedOrders=true:=by kernel_rfl
theorem zc:∀t k,Eqs t=some k→kH Tryz.prog t k:=fun t k h=>by
 unfold Eqs at h
 obtain⟨p,hp,rfl⟩:=Option.map_eq_some_iff.1 h
 have h1:=List.mem_of_find?_eq_some hp
 have h2:=List.find?_some hp
 have e:p.1=t:=by simpa using h2
 subst e
 simp only[eqs,List.mem_cons,List.not_mem_nil,or_false]at h1
 rcases h1 with rfl|rfl|rfl|rfl|rfl|rfl
 all_goals exact J5 (d:=5) (by omega) (by kernel_rfl) (by kernel_rfl)
end Go.Vs
set_option maxRecDepth 1000000
set_option maxHeartbeats 0
namespace Go.Vs
open Go.Proofs
def Pf:aK:={ ps:=[.own],bs:=[.own (.row 52 fL)],rs:=[.own (.row 52 fL)] }
def Pg:aK:={ ps:=[.own],bs:=[.own (.row 118 iL)],rs:=[.own (.row 118 iL)] }
def ki:aK:={ ps:=[.agg 2],bs:=[.own (.row 52 fL),.own (.row 118 iL)],rs:=[.agg [.own (.row 52 fL),.own (.row 118 iL)]] }
def qy(ty:TypeId)(k:K)(h:Heap)(id:Nat):List AV→Option (Bool×bm)
 |[.bp a]=>match dz h (.row ty k) (.bp a) with
  |some xs=>some (b4 0 xs.length,.new (.bp (id+128)) [(id+128,.own (.row ty k) xs)])
  |_=>none
 |_=>none
def ZE:aK:={ ps:=[],bs:=[],rs:=[],x:=some (qy 52 fL) }
def ZF:aK:={ ps:=[],bs:=[],rs:=[],x:=some (qy 118 iL) }
def Sc:List (Nat×aK):=[(500127,Pf),(500128,Pg)]
def QR(f:FuncId):Option aK:=(Sc.find? (fun p=>p.1==f)).map (fun p=>p.2)
def Sd:List (Nat×aK):=[(110,wx),(500096,ki),(500127,ZE),(500128,ZF)]
def Oi(f:FuncId):Option aK:=(Sd.find? (fun p=>p.1==f)).map (fun p=>p.2)
def EN:Shape:=⟨[(14,.int .i64),(15,.int .i64)],[(.slot 2,20000,.box 41 [.own (.row 52 fL),.own (.row 118 iL)]),(.slot 3,20001,.box 41 [.own (.row 52 fL),.own (.row 118 iL)])],[(6,1000,(.row 52 (.pair (.pair (.int .i64) (.int .i64)) (.pair (.sl (.pair (.pair (.int .i64) (.int .i64)) (.int .i64))) (.pair .str (.int .i64)))))),(9,1020,(.row 118 (.pair (.pair (.int .i64) (.int .i64)) (.pair .str (.int .i64)))))],[]⟩
def VP(f:FuncId)(key:Nat):Option Shape:=none
def Se(f:FuncId)(key:Nat):Option Shape:=if f=500096 then(if key=3 then some EN else none) else none
noncomputable def MD(SG:FuncId→Option aK)(AN:FuncId→Nat→Option Shape)(f:FuncId)(g:aK)(fn:Func)(F:FT)(J:JT g)(x:g.A):Option g.B:=av Tryz.prog Eqs SG F fn.ntmps (AN f) J (o6 Tryz.prog g fn) fuel [.code (fn.body.getD .skip)] (entry g x)
noncomputable def Sf(SG:FuncId→Option aK)(AN:FuncId→Nat→Option Shape)(f j:Nat)(g:aK)(fn:Func)(sh:Shape)(F:FT)(J:JT g)(x:sh.T):Option g.B:=av Tryz.prog Eqs SG F fn.ntmps (AN f) J (o6 Tryz.prog g fn) fuel (round (bY Tryz.prog (f%1000) j)) (aj sh x)
theorem VQ(F:FT)(J:JT Pf)(x:(Unit×((List ah)×Unit))):MD QR VP 500127 Pf Tryz.f127 F J x =
  cond (List.isEmpty x.2.1)
   (oY 2 fun(j1:Nat) =>
   cond ((j1==0)==true)
    (some ((([]:List ah),()),x.2))
    (cond (b4 (List.length ([]:List ah)) (List.length x.2.1))
     (some (((([]:List ah)++x.2.1),()),x.2))
     (none)))
   (cond (b4 (List.length ([]:List ah)) (List.length x.2.1))
    (some (((([]:List ah)++x.2.1),()),x.2))
    (none)):=by kernel_rfl
theorem VR(F:FT)(J:JT Pg)(x:(Unit×((List aq)×Unit))):MD QR VP 500128 Pg Tryz.f128 F J x =
  cond (List.isEmpty x.2.1)
   (oY 2 fun(j1:Nat) =>
   cond ((j1==0)==true)
    (some ((([]:List aq),()),x.2))
    (cond (b4 (List.length ([]:List aq)) (List.length x.2.1))
     (some (((([]:List aq)++x.2.1),()),x.2))
     (none)))
   (cond (b4 (List.length ([]:List aq)) (List.length x.2.1))
    (some (((([]:List aq)++x.2.1),()),x.2))
    (none)):=by kernel_rfl
theorem VS(F:FT)(J:JT wx)(x:(((List ab)×Unit)×Unit)):MD Oi Se 110 wx Tryz.f110 F J x =
  cond (List.isEmpty x.1.1)
   (oY 2 fun(j1:Nat) =>
   cond ((j1==0)==true)
    (some ((([]:List ab),()),()))
    (cond (b4 (List.length ([]:List ab)) (List.length x.1.1))
     (some (((([]:List ab)++x.1.1),()),()))
     (none)))
   (cond (b4 (List.length ([]:List ab)) (List.length x.1.1))
    (some (((([]:List ab)++x.1.1),()),()))
    (none)):=by kernel_rfl
theorem VT(F:FT)(J:JT ki)(x:(Unit×((List ah)×((List aq)×Unit)))):MD Oi Se 500096 ki Tryz.f96 F J x =
  cond (b4 0 (List.length x.2.1))
   (cond (b4 0 (List.length x.2.2.1))
    (J EN (bY Tryz.prog 96 0) (((((List.length x.2.1):Nat):Int),((0:Int),())),(((([]:List ah),(([]:List aq),())),((x.2.1,x.2.2),())),(x.2.1,x.2.2))))
    (none))
   (none):=by kernel_rfl
theorem Iz(F:FT)(J:JT ki)(x:((Int×(Int×Unit))×((((List ah)×((List aq)×Unit))×(((List ah)×((List aq)×Unit))×Unit))×((List ah)×((List aq)×Unit))))):Sf Oi Se 500096 0 ki Tryz.f96 EN F J x =
  cond (decide (x.1.2.1<x.1.1))
   (cond ((decide ((0:Int)≤x.1.2.1))&&(decide (x.1.2.1<(((List.length x.2.1.2.1.1):Nat):Int))))
    (((x.2.1.2.1.1)[(Int.toNat x.1.2.1)]?).bind fun(y1:ah) =>
    (F 110 wx ((y1.2.1,()),())).bind fun(y2:(((List ab)×Unit)×Unit)) =>
    cond ((decide ((0:Int)≤x.1.2.1))&&(decide (x.1.2.1<(((List.length x.2.1.2.1.1):Nat):Int))))
     (((x.2.1.2.1.1)[(Int.toNat x.1.2.1)]?).bind fun(y3:ah) =>
     J EN (bY Tryz.prog 96 0) ((x.1.1,((IntKind.wrap .i64 (x.1.2.1+(1:Int))),())),(((x.2.1.1.1,x.2.1.1.2),(((List.set x.2.1.2.1.1 (Int.toNat x.1.2.1) (y3.1,(y2.1.1,y3.2.2))),x.2.1.2.1.2),())),(x.2.2.1,x.2.2.2))))
     (none))
    (none))
   (some (((x.2.1.2.1.1,x.2.1.2.1.2),()),(x.2.2.1,x.2.2.2))):=by kernel_rfl
end Go.Vs
namespace Go.Vs
open Go.Proofs
variable {P:Program}
theorem rv{f:FuncId}{ty:TypeId}{k:K}(hf:f%1000=f)(hc:∀(xs:List k.T),b4 0 xs.length=true→A8 P f ⟨[.own],[.own (.row ty k)],[.own (.row ty k)],none⟩ ((),(xs,())) ((xs,()),(xs,()))):fR P f (qy ty k):=by
 intro Z ψ h w B0 O N hh id e vs us g hB aZ hN aR mf qe A3 he
 unfold qy at he
 split at he
 rotate_left
 ·cases he
 rename_i a
 split at he
 rotate_left
 ·cases he
 rename_i xs qf
 simp only[Option.some.injEq,Prod.mk.injEq]at he
 obtain⟨lq,rfl⟩:=he
 have ha:h a=some (.own (.row ty k) xs):=aZ _ _ (iZ qf)
 have G1:h a≠none:=by rw[ha];simp
 simp only[ai,ar]at qe
 obtain⟨v1,_,rfl,⟨_,sY⟩,rfl⟩:=qe
 have sY:=sY G1
 subst sY
 simp only[au,aA]at A3
 have TF:N (id+128):=hN 128 (by omega)
 have na:¬N a:=A3.1
 have a0:a≠id+128:=fun e=>na (e▸TF)
 let ψ0:Nat→Value:=fun i=>if i=1000 then ψ a else ψ i
 have p0:ψ0 1000=ψ a:=if_pos rfl
 let g0:aK:=⟨[.own],[.own (.row ty k)],[.own (.row ty k)],none⟩
 have lr:nJ g0 ((),(xs,()))=Heap.get [(1000,.own (.row ty k) xs)]:=rfl
 have i0:nJ g0 ((),(xs,())) 1000=some (.own (.row ty k) xs):=rfl
 have iN:∀i,nJ g0 ((),(xs,())) i≠none→i=1000:=fun i hi=>by
  by_cases e0:i=1000
  ·exact e0
  rw[lr]at hi
  simp[Heap.get,Ne.symm e0]at hi
 have Ph:∀q,Own ψ0 (nJ g0 ((),(xs,()))) q→ob (ψ a)=some q:=fun q ⟨i,h1,h2⟩=>by
  have:=iN i h1
  subst this
  rw[←p0];exact h2
 have oh:∀q,Own ψ0 (nJ g0 ((),(xs,()))) q→Own ψ h q:=fun q hq=>⟨a,G1,Ph q hq⟩
 have G0:Good Z ψ0 (nJ g0 ((),(xs,()))) w w.heap.size (Own ψ0 (nJ g0 ((),(xs,())))):=by
  refine⟨fun i ty cs k=>?_,fun i ok x k=>?_,fun i q h1 h2=>⟨fun hz=>?_,.inr ⟨i,h1,h2⟩⟩,fun i j q h1 h2 h3 h4=>?_,g.iS⟩
  ·have:=iN i (by rw[k];simp)
   subst this
   rw[i0]at k;cases k
  ·have:=iN i (by rw[k];simp)
   subst this
   rw[i0]at k;cases k;rw[p0];exact g.row a _ _ ha
  ·have:=iN i h1
   subst this
   rw[p0]at h2;exact(g.live a q G1 h2).1 hz
  ·rw[iN i h1,iN j h2]
 have c0:(ψ a).cells=#[ψ a]∧(ψ a).oneCell'=true:=(g.row a _ _ ha).one
 have R0:ai Z ψ0 (nJ g0 ((),(xs,()))) w (Co g0 ((),(xs,()))) [ψ a]:=by
  show ai Z ψ0 (nJ g0 ((),(xs,()))) w [.bp 1000] [ψ a]
  simp only[ai,ar]
  exact⟨ψ a,[],rfl,⟨c0,fun _=>p0.symm⟩,rfl⟩
 have TG:=hc xs lq Z ψ0 w [ψ a] G0 R0
 rw[hf]at TG
 refine TG.mono fun en w' ⟨V,Z',ψ',e1,zs,zf,kp,gd,bw,hr⟩=>?_
 have q0:ψ' 1000=ψ a:=(bw 1000 (by show 1000∈[1000];simp)).trans p0
 have o0:(je g0 ((xs,()),(xs,()))).get 1000=some (.own (.row ty k) xs):=rfl
 have o2:(je g0 ((xs,()),(xs,()))).get 3000=some (.own (.row ty k) xs):=rfl
 have gd:Good Z' ψ' (je g0 ((xs,()),(xs,()))).get w' w.heap.size (Own ψ0 (nJ g0 ((),(xs,())))):=gd
 have hr:ar Z' ψ' (je g0 ((xs,()),(xs,()))).get w' (.bp 3000) V:=hr
 generalize (je g0 ((xs,()),(xs,()))).get=out at *
 have keep:cG ψ h w w':=⟨kp.os,kp.tape,kp.output,kp.size,fun q hq hn=>kp.block q hq fun ho=>hn (oh q ho)⟩
 have sm:b5 Z w w':=keep.same g
 have da:∀i q,i≠a→h i≠none→ob (ψ i)=some q→w'.heap[q]? = w.heap[q]? := fun i q k1 h1 h2 =>
  kp.block q (g.bA ⟨i,h1,h2⟩) fun ho=>k1 (g.apart i a q h1 G1 h2 (Ph q ho))
 let dB:Nat→Value:=fun i=>if i=id+128 then ψ' 3000 else ψ i
 let H:Hp:=(bm.new (.bp (id+128)) [(id+128,.own (.row ty k) xs)]).hp h
 have s0:dB (id+128)=ψ' 3000:=if_pos rfl
 have sn:∀i,i≠id+128→dB i=ψ i:=fun i k1=>if_neg k1
 have H0:H (id+128)=some (.own (.row ty k) xs):=by show(bm.hp h _) _=_;simp[bm.hp,Heap.get]
 have Hn:∀i,i≠id+128→H i=h i:=fun i k1=>by show(bm.hp h _) _=_;simp[bm.hp,Heap.get,Ne.symm k1]
 have two:∀q,ob (ψ' 3000)=some q→¬Z' q∧(w.heap.size≤q∨ob (ψ a)=some q):=fun q h2=>by
  obtain⟨h3,h4⟩:=gd.live 3000 q (by rw[o2];simp) h2
  exact⟨h3,h4.imp (fun h=>h) (Ph q)⟩
 have one:∀q,ob (ψ a)=some q→¬Z' q:=fun q h2=>(gd.live 1000 q (by rw[o0];simp) (by rw[q0];exact h2)).1
 have Pj:∀q,ob (ψ' 3000)=some q→ob (ψ a)=some q→False:=fun q h2 h3=>by
  have:=gd.apart 3000 1000 q (by rw[o2];simp) (by rw[o0];simp) h2 (by rw[q0];exact h3)
  omega
 have fresh:∀q,ob (ψ' 3000)=some q→w.heap.size≤q:=fun q h2=>(two q h2).2.resolve_right (Pj q h2)
 have ids:∀i,H i≠none→(h i≠none∧dB i=ψ i)∨N i:=fun i hi=>by
  by_cases k1:i=id+128
  ·exact .inr (k1▸TF)
  ·rw[Hn i k1]at hi
   exact .inl ⟨hi,sn i k1⟩
 have live:∀i q,i≠id+128→h i≠none→ob (ψ i)=some q→¬Z' q:=fun i q k1 h1 h2 hz=>by
  by_cases k3:i=a
  ·subst k3;exact one q h2 hz
  rcases zf q hz with k|k|k
  ·exact(g.live i q h1 h2).1 k
  ·exact k3 (g.apart i a q h1 G1 h2 (Ph q k))
  ·have:=g.bA ⟨i,h1,h2⟩;omega
 refine⟨V,Z',dB,e1,⟨zs,fun q hq=>(zf q hq).imp (fun h=>h) fun k=>k.imp (oh q) fun h=>h,keep,ids,⟨fun i wi cs k=>?_,fun i ok x k=>?_,fun i q h1 h2=>?_,fun i j q h1 h2 h3 h4=>?_,gd.iS⟩⟩,?_⟩
 ·have k1:i≠id+128:=fun e=>by rw[e]at k;have k:H (id+128)=some (.box wi cs):=k;rw[H0]at k;cases k
  have k3:i≠a:=fun e=>by rw[e]at k;have k:H a=some (.box wi cs):=k;rw[(Hn a a0).trans ha]at k;cases k
  have oE:h i=some (.box wi cs):=(Hn i k1).symm.trans k
  obtain⟨gg,vs,f1,f2,f3,f4⟩:=g.box i wi cs oE
  exact⟨gg,vs,(sn i k1).trans f1,(da i gg k3 (by rw[oE];simp) (by rw[f1];rfl)).trans f2,f3.move zs sm (fun j hj aU=>(ids j aU).resolve_right hj) (aR i wi cs oE),f4⟩
 ·by_cases k1:i=id+128
  ·subst k1
   have k:H (id+128)=some (.own ok x):=k
   rw[H0]at k;cases k
   rw[s0];exact gd.row 3000 _ _ o2
  have oE:h i=some (.own ok x):=(Hn i k1).symm.trans k
  rw[sn i k1]
  by_cases k3:i=a
  ·subst k3
   rw[ha]at oE;cases oE
   rw[←q0];exact gd.row 1000 _ _ o0
  exact(g.row i ok x oE).kept zs sm fun q hq=>da i q k3 (by rw[oE];simp) hq
 ·by_cases k1:i=id+128
  ·subst k1
   have h2:ob (dB (id+128))=some q:=h2
   rw[s0]at h2
   exact⟨(two q h2).1,.inl (Nat.le_trans hB (fresh q h2))⟩
  ·have h1:h i≠none:=by rw[←Hn i k1];exact h1
   rw[sn i k1]at h2
   exact⟨live i q k1 h1 h2,(g.live i q h1 h2).2⟩
 ·have lt:∀j,j≠id+128→H j≠none→ob (dB j)=some q→q<w.heap.size:=fun j k1 k2 k3=>by
   rw[Hn j k1]at k2
   rw[sn j k1]at k3
   exact g.bA ⟨j,k2,k3⟩
  by_cases k1:i=id+128<;>by_cases k2:j=id+128
  ·exact k1.trans k2.symm
  ·subst k1
   have h3:ob (dB (id+128))=some q:=h3
   rw[s0]at h3
   have:=fresh q h3
   have:=lt j k2 h2 h4
   omega
  ·subst k2
   have h4:ob (dB (id+128))=some q:=h4
   rw[s0]at h4
   have:=fresh q h4
   have:=lt i k1 h1 h3
   omega
  ·rw[sn i k1]at h3
   rw[sn j k2]at h4
   exact g.apart i j q (by rw[←Hn i k1];exact h1) (by rw[←Hn j k2];exact h2) h3 h4
 ·simp only[ar]at hr
  show ar Z' dB H w' (.bp (id+128)) V
  simp only[ar]
  exact⟨hr.1,fun _=>(hr.2 (by rw[o2];simp)).trans s0.symm⟩
end Go.Vs
namespace Go.Vs
open Go.Proofs
variable {P:Program}
theorem CR(hc:∀(xs:List fL.T) (ys:List iL.T),nO xs ys=true→A8 P 96 ki ((),(xs,(ys,()))) (((xs,(ys,())),()),(xs,(ys,())))):fR P 96 CF:=by
 intro Z ψ h w B0 O N hh id e vs us g hB aZ hN aR mf qe A3 he
 unfold CF at he
 split at he
 rotate_left
 ·cases he
 rename_i a b
 split at he
 rotate_left
 ·cases he
 rename_i xs ys qf Aw
 split at he
 ·cases he
 rename_i Ai
 simp only[Option.some.injEq,Prod.mk.injEq]at he
 obtain⟨lq,rfl⟩:=he
 have ha:h a=some (.own (.row 52 fL) xs):=aZ _ _ (iZ qf)
 have hb:h b=some (.own (.row 118 iL) ys):=aZ _ _ (iZ Aw)
 have G1:h a≠none:=by rw[ha];simp
 have AH:h b≠none:=by rw[hb];simp
 simp only[ai,ar]at qe
 obtain⟨v,_,rfl,⟨cs,rfl,v1,_,Jl,⟨_,sY⟩,v2,_,rfl,⟨_,vC⟩,rfl⟩,rfl⟩:=qe
 have sY:=sY G1
 have vC:=vC AH
 subst sY vC
 simp only[au,aA]at A3
 have TF:N (id+128):=hN 128 (by omega)
 have ZG:N (id+129):=hN 129 (by omega)
 have na:¬N a:=A3.1.1
 have nb:¬N b:=A3.1.2.1
 have a0:a≠id+128:=fun e=>na (e▸TF)
 have a1:a≠id+129:=fun e=>na (e▸ZG)
 have b0:b≠id+128:=fun e=>nb (e▸TF)
 have b1:b≠id+129:=fun e=>nb (e▸ZG)
 let ψ0:Nat→Value:=fun i=>if i=1000 then ψ a else if i=1020 then ψ b else ψ i
 have p0:ψ0 1000=ψ a:=if_pos rfl
 have p1:ψ0 1020=ψ b:=(if_neg (by decide)).trans (if_pos rfl)
 have lr:nJ ki ((),(xs,(ys,())))=Heap.get [(1000,.own (.row 52 fL) xs),(1020,.own (.row 118 iL) ys)]:=rfl
 have i0:nJ ki ((),(xs,(ys,()))) 1000=some (.own (.row 52 fL) xs):=rfl
 have i1:nJ ki ((),(xs,(ys,()))) 1020=some (.own (.row 118 iL) ys):=rfl
 have iN:∀i,nJ ki ((),(xs,(ys,()))) i≠none→i=1000∨i=1020:=fun i hi=>by
  by_cases e0:i=1000
  ·exact .inl e0
  by_cases e1:i=1020
  ·exact .inr e1
  rw[lr]at hi
  simp[Heap.get,Ne.symm e0,Ne.symm e1]at hi
 have Ph:∀q,Own ψ0 (nJ ki ((),(xs,(ys,())))) q→ob (ψ a)=some q∨ob (ψ b)=some q:=fun q ⟨i,h1,h2⟩=>by
  rcases iN i h1 with rfl|rfl
  ·exact .inl (by rw[←p0];exact h2)
  ·exact .inr (by rw[←p1];exact h2)
 have oh:∀q,Own ψ0 (nJ ki ((),(xs,(ys,())))) q→Own ψ h q:=fun q hq=>(Ph q hq).elim (fun k=>⟨a,G1,k⟩) fun k=>⟨b,AH,k⟩
 have G0:Good Z ψ0 (nJ ki ((),(xs,(ys,())))) w w.heap.size (Own ψ0 (nJ ki ((),(xs,(ys,()))))):=by
  refine⟨fun i ty cs k=>?_,fun i ok x k=>?_,fun i q h1 h2=>⟨fun hz=>?_,.inr ⟨i,h1,h2⟩⟩,fun i j q h1 h2 h3 h4=>?_,g.iS⟩
  ·rcases iN i (by rw[k];simp) with rfl|rfl
   ·rw[i0]at k;cases k
   ·rw[i1]at k;cases k
  ·rcases iN i (by rw[k];simp) with rfl|rfl
   ·rw[i0]at k;cases k;rw[p0];exact g.row a _ _ ha
   ·rw[i1]at k;cases k;rw[p1];exact g.row b _ _ hb
  ·rcases iN i h1 with rfl|rfl
   ·rw[p0]at h2;exact(g.live a q G1 h2).1 hz
   ·rw[p1]at h2;exact(g.live b q AH h2).1 hz
  ·rcases iN i h1 with rfl|rfl<;>rcases iN j h2 with rfl|rfl
   ·rfl
   ·rw[p0]at h3;rw[p1]at h4;exact absurd (g.apart a b q G1 AH h3 h4) Ai
   ·rw[p1]at h3;rw[p0]at h4;exact absurd (g.apart a b q G1 AH h4 h3) Ai
   ·rfl
 have c0:(ψ a).cells=#[ψ a]∧(ψ a).oneCell'=true:=(g.row a _ _ ha).one
 have c1:(ψ b).cells=#[ψ b]∧(ψ b).oneCell'=true:=(g.row b _ _ hb).one
 have R0:ai Z ψ0 (nJ ki ((),(xs,(ys,())))) w (Co ki ((),(xs,(ys,())))) [.agg cs]:=by
  show ai Z ψ0 (nJ ki ((),(xs,(ys,())))) w [.agg [.bp 1000,.bp 1020]] [.agg cs]
  simp only[ai,ar]
  exact⟨.agg cs,[],rfl,⟨cs,rfl,ψ a,[ψ b],Jl,⟨c0,fun _=>p0.symm⟩,ψ b,[],rfl,⟨c1,fun _=>p1.symm⟩,rfl⟩,rfl⟩
 refine(hc xs ys lq Z ψ0 w [.agg cs] G0 R0).mono fun en w' ⟨V,Z',ψ',e1,zs,zf,kp,gd,bw,hr⟩=>?_
 have q0:ψ' 1000=ψ a:=(bw 1000 (by show 1000∈[1000,1020];simp)).trans p0
 have q1:ψ' 1020=ψ b:=(bw 1020 (by show 1020∈[1000,1020];simp)).trans p1
 have o0:(je ki (((xs,(ys,())),()),(xs,(ys,())))).get 1000=some (.own (.row 52 fL) xs):=rfl
 have o1:(je ki (((xs,(ys,())),()),(xs,(ys,())))).get 1020=some (.own (.row 118 iL) ys):=rfl
 have o2:(je ki (((xs,(ys,())),()),(xs,(ys,())))).get 3000=some (.own (.row 52 fL) xs):=rfl
 have o3:(je ki (((xs,(ys,())),()),(xs,(ys,())))).get 3001=some (.own (.row 118 iL) ys):=rfl
 generalize (je ki (((xs,(ys,())),()),(xs,(ys,())))).get=out at *
 have keep:cG ψ h w w':=⟨kp.os,kp.tape,kp.output,kp.size,fun q hq hn=>kp.block q hq fun ho=>hn (oh q ho)⟩
 have sm:b5 Z w w':=keep.same g
 have da:∀i q,i≠a→i≠b→h i≠none→ob (ψ i)=some q→w'.heap[q]? = w.heap[q]? := fun i q k1 k2 h1 h2 =>
  kp.block q (g.bA ⟨i,h1,h2⟩) fun ho=>(Ph q ho).elim (fun k=>k1 (g.apart i a q h1 G1 h2 k)) fun k=>k2 (g.apart i b q h1 AH h2 k)
 let κ:Nat→Nat:=fun i=>if i=id+128 then 3000 else if i=id+129 then 3001 else if i=a then 1000 else 1020
 let Oj:Nat→Prop:=fun i=>i=id+128∨i=id+129∨i=a∨i=b
 let dB:Nat→Value:=fun i=>if i=id+128 then ψ' 3000 else if i=id+129 then ψ' 3001 else ψ i
 let H:Hp:=(bm.new (.agg [.bp (id+128),.bp (id+129)]) [(id+128,.own (.row 52 fL) xs),(id+129,.own (.row 118 iL) ys)]).hp h
 have s0:dB (id+128)=ψ' 3000:=if_pos rfl
 have s1:dB (id+129)=ψ' 3001:=(if_neg (by omega)).trans (if_pos rfl)
 have sn:∀i,i≠id+128→i≠id+129→dB i=ψ i:=fun i k1 k2=>(if_neg k1).trans (if_neg k2)
 have H0:H (id+128)=some (.own (.row 52 fL) xs):=by show(bm.hp h _) _=_;simp[bm.hp,Heap.get]
 have H1:H (id+129)=some (.own (.row 118 iL) ys):=by show(bm.hp h _) _=_;simp[bm.hp,Heap.get]
 have Hn:∀i,i≠id+128→i≠id+129→H i=h i:=fun i k1 k2=>by show(bm.hp h _) _=_;simp[bm.hp,Heap.get,Ne.symm k1,Ne.symm k2]
 have Ha:H a=some (.own (.row 52 fL) xs):=(Hn a a0 a1).trans ha
 have Hb:H b=some (.own (.row 118 iL) ys):=(Hn b b0 b1).trans hb
 have ZH:∀i,Oj i→out (κ i)≠none∧ψ' (κ i)=dB i:=fun i hi=>by
  rcases hi with rfl|rfl|rfl|rfl
  ·have:κ (id+128)=3000:=if_pos rfl
   rw[this,o2,s0];exact⟨by simp,rfl⟩
  ·have:κ (id+129)=3001:=(if_neg (by omega)).trans (if_pos rfl)
   rw[this,o3,s1];exact⟨by simp,rfl⟩
  ·have:κ i=1000:=(if_neg a0).trans ((if_neg a1).trans (if_pos rfl))
   rw[this,o0,q0,sn i a0 a1];exact⟨by simp,rfl⟩
  ·have:κ i=1020:=(if_neg b0).trans ((if_neg b1).trans (if_neg (fun k=>Ai k.symm)))
   rw[this,o1,q1,sn i b0 b1];exact⟨by simp,rfl⟩
 have ZI:∀i j,Oj i→Oj j→κ i=κ j→i=j:=fun i j hi hj hk=>by
  have v1:κ (id+128)=3000:=if_pos rfl
  have v2:κ (id+129)=3001:=(if_neg (by omega)).trans (if_pos rfl)
  have v3:κ a=1000:=(if_neg a0).trans ((if_neg a1).trans (if_pos rfl))
  have v4:κ b=1020:=(if_neg b0).trans ((if_neg b1).trans (if_neg (fun k=>Ai k.symm)))
  rcases hi with rfl|rfl|rfl|rfl<;>rcases hj with rfl|rfl|rfl|rfl<;>first|rfl|(rw[v1]at hk;first|(rw[v2]at hk;cases hk)|(rw[v3]at hk;cases hk)|(rw[v4]at hk;cases hk))|(rw[v2]at hk;first|(rw[v1]at hk;cases hk)|(rw[v3]at hk;cases hk)|(rw[v4]at hk;cases hk))|(rw[v3,v4]at hk;cases hk)|(rw[v4,v3]at hk;cases hk)
 have back:∀i q,Oj i→ob (dB i)=some q→¬Z' q∧(w.heap.size≤q∨ob (ψ a)=some q∨ob (ψ b)=some q):=fun i q hi h2=>by
  obtain⟨k1,k2⟩:=ZH i hi
  rw[←k2]at h2
  obtain⟨h3,h4⟩:=gd.live (κ i) q k1 h2
  exact⟨h3,h4.imp (fun h=>h) (Ph q)⟩
 have rest:∀i,¬Oj i→i≠id+128∧i≠id+129∧i≠a∧i≠b:=fun i hi=>⟨fun k=>hi (.inl k),fun k=>hi (.inr (.inl k)),fun k=>hi (.inr (.inr (.inl k))),fun k=>hi (.inr (.inr (.inr k)))⟩
 have mixed:∀i j q,Oj i→¬Oj j→h j≠none→ob (dB i)=some q→ob (ψ j)=some q→False:=fun i j q hi hj h2 h3 h4=>by
  obtain⟨_,_,k3,k4⟩:=rest j hj
  rcases (back i q hi h3).2 with k|k|k
  ·have:=g.bA ⟨j,h2,h4⟩;omega
  ·exact k3 (g.apart j a q h2 G1 h4 k)
  ·exact k4 (g.apart j b q h2 AH h4 k)
 have ids:∀i,H i≠none→(h i≠none∧dB i=ψ i)∨N i:=fun i hi=>by
  by_cases k1:i=id+128
  ·exact .inr (k1▸TF)
  by_cases k2:i=id+129
  ·exact .inr (k2▸ZG)
  ·rw[Hn i k1 k2]at hi
   exact .inl ⟨hi,sn i k1 k2⟩
 refine⟨V,Z',dB,e1,⟨zs,fun q hq=>(zf q hq).imp (fun h=>h) fun k=>k.imp (oh q) fun h=>h,keep,ids,⟨fun i ty cs k=>?_,fun i ok x k=>?_,fun i q h1 h2=>?_,fun i j q h1 h2 h3 h4=>?_,gd.iS⟩⟩,?_⟩
 ·have k1:i≠id+128:=fun e=>by rw[e]at k;have k:H (id+128)=some (.box ty cs):=k;rw[H0]at k;cases k
  have k2:i≠id+129:=fun e=>by rw[e]at k;have k:H (id+129)=some (.box ty cs):=k;rw[H1]at k;cases k
  have k3:i≠a:=fun e=>by rw[e]at k;have k:H a=some (.box ty cs):=k;rw[Ha]at k;cases k
  have k4:i≠b:=fun e=>by rw[e]at k;have k:H b=some (.box ty cs):=k;rw[Hb]at k;cases k
  have oE:h i=some (.box ty cs):=(Hn i k1 k2).symm.trans k
  obtain⟨gg,vs,f1,f2,f3,f4⟩:=g.box i ty cs oE
  exact⟨gg,vs,(sn i k1 k2).trans f1,(da i gg k3 k4 (by rw[oE];simp) (by rw[f1];rfl)).trans f2,f3.move zs sm (fun j hj aU=>(ids j aU).resolve_right hj) (aR i ty cs oE),f4⟩
 ·by_cases k1:i=id+128
  ·subst k1
   have k:H (id+128)=some (.own ok x):=k
   rw[H0]at k;cases k
   rw[s0];exact gd.row 3000 _ _ o2
  by_cases k2:i=id+129
  ·subst k2
   have k:H (id+129)=some (.own ok x):=k
   rw[H1]at k;cases k
   rw[s1];exact gd.row 3001 _ _ o3
  have oE:h i=some (.own ok x):=(Hn i k1 k2).symm.trans k
  rw[sn i k1 k2]
  by_cases k3:i=a
  ·subst k3
   rw[ha]at oE;cases oE
   rw[←q0];exact gd.row 1000 _ _ o0
  by_cases k4:i=b
  ·subst k4
   rw[hb]at oE;cases oE
   rw[←q1];exact gd.row 1020 _ _ o1
  exact(g.row i ok x oE).kept zs sm fun q hq=>da i q k3 k4 (by rw[oE];simp) hq
 ·by_cases h4:Oj i
  ·obtain⟨k1,k2⟩:=back i q h4 h2
   refine⟨k1,?_⟩
   rcases k2 with k|k|k
   ·exact .inl (Nat.le_trans hB k)
   ·exact(g.live a q G1 k).2
   ·exact(g.live b q AH k).2
  ·obtain⟨r1,r2,r3,r4⟩:=rest i h4
   have h1:h i≠none:=by rw[←Hn i r1 r2];exact h1
   rw[sn i r1 r2]at h2
   refine⟨fun hz=>?_,(g.live i q h1 h2).2⟩
   rcases zf q hz with k|k|k
   ·exact(g.live i q h1 h2).1 k
   ·rcases Ph q k with k|k
    ·exact r3 (g.apart i a q h1 G1 h2 k)
    ·exact r4 (g.apart i b q h1 AH h2 k)
   ·have:=g.bA ⟨i,h1,h2⟩;omega
 ·by_cases hi:Oj i<;>by_cases hj:Oj j
  ·obtain⟨k1,k2⟩:=ZH i hi
   obtain⟨k3,k4⟩:=ZH j hj
   rw[←k2]at h3
   rw[←k4]at h4
   exact ZI i j hi hj (gd.apart _ _ q k1 k3 h3 h4)
  ·obtain⟨r1,r2,r3,r4⟩:=rest j hj
   rw[sn j r1 r2]at h4
   exact(mixed i j q hi hj (by rw[←Hn j r1 r2];exact h2) h3 h4).elim
  ·obtain⟨r1,r2,r3,r4⟩:=rest i hi
   rw[sn i r1 r2]at h3
   exact(mixed j i q hj hi (by rw[←Hn i r1 r2];exact h1) h4 h3).elim
  ·obtain⟨r1,r2,_,_⟩:=rest i hi
   obtain⟨t1,t2,_,_⟩:=rest j hj
   rw[sn i r1 r2]at h3
   rw[sn j t1 t2]at h4
   exact g.apart i j q (by rw[←Hn i r1 r2];exact h1) (by rw[←Hn j t1 t2];exact h2) h3 h4
 ·have hr:ar Z' ψ' out w' (.agg [.bp 3000,.bp 3001]) V:=hr
  simp only[ar,ai]at hr
  obtain⟨vs,rfl,u1,_,qe,⟨d1,d2⟩,u2,_,rfl,⟨d3,d4⟩,rfl⟩:=hr
  show ar Z' dB H w' (.agg [.bp (id+128),.bp (id+129)]) (.agg vs)
  simp only[ar,ai]
  exact⟨vs,rfl,u1,[u2],qe,⟨d1,fun _=>(d2 (by rw[o2];simp)).trans s0.symm⟩,u2,[],rfl,⟨d3,fun _=>(d4 (by rw[o3];simp)).trans s1.symm⟩,rfl⟩
end Go.Vs
namespace Go.Vs
open Go.Proofs
abbrev Pk:(f:FuncId)→(g:aK)→Option (g.A→Option g.B):=fun _ _=>none
section
variable (SG:FuncId→Option aK) (AN:FuncId→Nat→Option Shape)
noncomputable abbrev Pn:FT:=Fix Tryz.prog Eqs SG AN Pk
noncomputable abbrev X2(f:FuncId)(g:aK)(fn:Func):JT g:=Lp Tryz.prog Eqs SG AN Pk f g fn
end
theorem CS{SG:FuncId→Option aK}{AN:FuncId→Nat→Option Shape}{f:FuncId}{g:aK}{fn:Func}{x:g.A}{y:g.B}(hb:body Tryz.prog (f%1000)=some (fn,fn.body.getD .skip))(hc:(decide (g.ps.length≤fn.ntmps)&&decide (g.bs.length≤8))=true)
  (h:MD SG AN f g fn (Pn SG AN) (X2 SG AN f g fn) x=some y):Pn SG AN f g x=some y:=Ie rfl hb hc h
theorem ME{SG:FuncId→Option aK}{AN:FuncId→Nat→Option Shape}{f j:Nat}{g:aK}{fn:Func}{sh:Shape}{x:sh.T}{y:g.B}(hs:(match bY Tryz.prog (f%1000) j with | .inLoop _::_=>true|_=>false)=true)
  (h:Sf SG AN f j g fn sh (Pn SG AN) (X2 SG AN f g fn) x=some y):X2 SG AN f g fn sh (bY Tryz.prog (f%1000) j) x=some y:=by
 unfold Sf at h
 generalize bY Tryz.prog (f%1000) j=s at hs h ⊢
 split at hs
 ·exact Ma h
 ·cases hs
theorem MF{α β:Type}{o:Option α}{f:α→Option β}{a:α}{r:Option β}(h:o=some a)(k:f a=r):o.bind f=r:=by rw[h];exact k
theorem zd{α:Type}{c:Bool}{x y r:α}(h:c=true)(k:x=r):cond c x y=r:=by subst h;exact k
theorem Po{α:Type}{c:Bool}{x y r:α}(h:c=false)(k:y=r):cond c x y=r:=by subst h;exact k
theorem MG{R:Type}{f:Nat→Option R}{r:R}(h0:f 0=some r)(h1:f 1=some r):oY 2 f=some r :=
 kf (by omega) fun j hj=>by
  rcases j with _|_|j
  ·exact h0
  ·exact h1
  ·omega
theorem VU(xs:List ah)(h:b4 0 xs.length=true):Pn QR VP 500127 Pf ((),(xs,()))=some ((xs,()),(xs,())):=by
 refine CS (fn:=Tryz.f127) (by kernel_rfl) (by kernel_rfl) ((VQ _ _ _).trans ?_)
 cases xs with
 |nil=>exact zd rfl (MG rfl rfl)
 |cons x r=>exact Po rfl (zd h rfl)
theorem VV(xs:List aq)(h:b4 0 xs.length=true):Pn QR VP 500128 Pg ((),(xs,()))=some ((xs,()),(xs,())):=by
 refine CS (fn:=Tryz.f128) (by kernel_rfl) (by kernel_rfl) ((VR _ _ _).trans ?_)
 cases xs with
 |nil=>exact zd rfl (MG rfl rfl)
 |cons x r=>exact Po rfl (zd h rfl)
theorem IA{f:FuncId}{g:aK}(h:QR f=some g):(f,g)∈Sc:=by
 unfold QR at h
 obtain⟨p,hp,rfl⟩:=Option.map_eq_some_iff.1 h
 have h1:=List.mem_of_find?_eq_some hp
 have h2:=List.find?_some hp
 have:p.1=f:=by simpa using h2
 subst this
 exact h1
theorem IB{f:FuncId}{g:aK}(h:Oi f=some g):(f,g)∈Sd:=by
 unfold Oi at h
 obtain⟨p,hp,rfl⟩:=Option.map_eq_some_iff.1 h
 have h1:=List.mem_of_find?_eq_some hp
 have h2:=List.find?_some hp
 have:p.1=f:=by simpa using h2
 subst this
 exact h1
noncomputable def G2(l:List (Nat×aK)):Bool:=l.all fun p=>match Tryz.prog.funcs[p.1%1000]? with|some fn => !(fn.name== "runtime.NumGoroutine")&&fn.body.isSome|none=>false
theorem w5{l:List (Nat×aK)}(key:G2 l=true){f:FuncId}{g:aK}(hm:(f,g)∈l):ir Tryz.prog (f%1000):=by
 have:=List.all_eq_true.1 key _ hm
 simp only at this
 split at this
 ·rename_i fn hf
  simp only[Bool.and_eq_true,Bool.not_eq_true']at this
  exact⟨fn,hf,this.1,this.2⟩
 ·cases this
theorem VW{f:FuncId}{g:aK}{x:g.A}{y:g.B}(hs:QR f=some g)(h:Pn QR VP f g x=some y):A8 Tryz.prog f g x y :=
 wV (fun f g u hf hu=>by
  have hm:=IA hf
  simp only[Sc,List.mem_cons,List.not_mem_nil,or_false,Prod.mk.injEq]at hm
  rcases hm with⟨_,rfl⟩|⟨_,rfl⟩<;>cases hu) zc (fun f g hf=>w5 (by kernel_rfl) (IA hf)) qx (fun f g u x y _ hu _=>by cases hu) hs h
theorem Pp:fR Tryz.prog 127 (qy 52 fL):=rv rfl fun xs h=>by
 have:=VW (by kernel_rfl) (VU xs h)
 exact this
theorem Pq:fR Tryz.prog 128 (qy 118 iL):=rv rfl fun xs h=>by
 have:=VW (by kernel_rfl) (VV xs h)
 exact this
theorem VX(l:List ab)(hl:l.length≤50000000):Pn Oi Se 110 wx ((l,()),())=some ((l,()),()):=by
 refine CS (fn:=Tryz.f110) (by kernel_rfl) (by kernel_rfl) ((VS _ _ _).trans ?_)
 cases l with
 |nil=>exact zd rfl (MG rfl rfl)
 |cons x r=>exact Po rfl (zd (decide_eq_true (show 0+(x::r).length≤1073741824 by omega)) rfl)
theorem MH{i n:Nat}(h:i<n)(hn:n≤50000000):IntKind.wrap .i64 ((i:Int)+1)=((i+1:Nat):Int):=by
 unfold IntKind.wrap
 simp only[IntKind.bits,IntKind.signed]
 simp
 split<;>omega
theorem VY(xs:List ah)(ys:List aq)(h:nO xs ys=true):Pn Oi Se 500096 ki ((),(xs,(ys,())))=some (((xs,(ys,())),()),(xs,(ys,()))):=by
 unfold nO at h
 simp only[Bool.and_eq_true,decide_eq_true_eq,List.all_eq_true]at h
 obtain⟨hx,hy,hr⟩:=h
 refine CS (fn:=Tryz.f96) (by kernel_rfl) (by kernel_rfl) ((VT _ _ _).trans ?_)
 refine zd (decide_eq_true (show 0+xs.length≤1073741824 by omega)) (zd (decide_eq_true (show 0+ys.length≤1073741824 by omega)) ?_)
 have loop:∀(n i:Nat) (out:List ah),i+n=xs.length→out=xs→X2 Oi Se 500096 ki Tryz.f96 EN (bY Tryz.prog 96 0) ((((xs.length:Nat):Int),((i:Int),())),(((([]:List ah),(([]:List aq),())),((out,(ys,())),())),(xs,(ys,()))))=some (((xs,(ys,())),()),(xs,(ys,()))):=by
  intro n
  induction n with
  |zero =>
   intro i out hi ho
   subst ho
   refine ME (j:=0) (by kernel_rfl) ((Iz _ _ _).trans ?_)
   exact Po (decide_eq_false (show ¬((i:Int)<((out.length:Nat):Int)) by omega)) rfl
  |succ n ih =>
   intro i out hi ho
   have aG:i<xs.length:=by omega
   have MB:out[i]? = some xs[i]:=by rw[ho];exact List.getElem?_eq_getElem aG
   have hol:out.length=xs.length:=by rw[ho]
   have c1:(decide ((0:Int)≤(i:Int))&&decide ((i:Int)<((out.length:Nat):Int)))=true:=by
    rw[decide_eq_true (show(0:Int)≤(i:Int) by omega),decide_eq_true (show(i:Int)<((out.length:Nat):Int) by omega)];rfl
   refine ME (j:=0) (by kernel_rfl) ((Iz _ _ _).trans ?_)
   refine zd (decide_eq_true (show((i:Int)<((xs.length:Nat):Int)) by omega)) (zd c1 (MF MB ?_))
   refine MF (VX xs[i].2.1 (hr _ (List.getElem_mem aG))) ?_
   refine zd c1 (MF MB ?_)
   have hs:out.set i (xs[i].1,(xs[i].2.1,xs[i].2.2))=xs:=by
    subst ho;exact List.set_getElem_self aG
   have:=ih (i+1) (out.set i (xs[i].1,(xs[i].2.1,xs[i].2.2))) (by omega) hs
   rw[←MH aG hx]at this
   exact this
 exact loop xs.length 0 xs (by omega) rfl
theorem ZJ{f:FuncId}{g:aK}{x:g.A}{y:g.B}(hs:Oi f=some g)(h:Pn Oi Se f g x=some y):A8 Tryz.prog f g x y :=
 wV (fun f g u hf hu=>by
  have hm:=IB hf
  simp only[Sd,List.mem_cons,List.not_mem_nil,or_false,Prod.mk.injEq]at hm
  rcases hm with⟨_,rfl⟩|⟨_,rfl⟩|⟨rfl,rfl⟩|⟨rfl,rfl⟩
  ·cases hu
  ·cases hu
  ·cases hu;intro Z ψ h w B0 O N hh id e vs us;exact Pp
  ·cases hu;intro Z ψ h w B0 O N hh id e vs us;exact Pq) zc (fun f g hf=>w5 (by kernel_rfl) (IB hf)) qx (fun f g u x y _ hu _=>by cases hu) hs h
theorem J6:fR Tryz.prog 96 CF:=CR fun xs ys h=>by
 have:=ZJ (by kernel_rfl) (VY xs ys h)
 exact this
end Go.Vs
namespace Go.Vs
open Go.Proofs Go.RowKit
abbrev QS:Array Value:=#[.slice none 0 0,.slice none 0 0,.slice none 0 0,.int .i64 0,.slice none 0 0]
theorem Pr(w:World):Calls Tryz.prog 24 #[] w fun e w'=>e=.returned (.pointer (some ⟨w.heap.size,0,none⟩))∧w'=w.alloc (.cells QS 100):=by
 go_enter Tryz.func24,Tryz.ntmps24
 go_wp2
 go_ret
 exact⟨rfl,rfl⟩
theorem G3:fR Tryz.prog 24 RX:=by
 intro Z ψ h w B0 O N hh id e vs us g hB aZ hN aR mf qe A3 he
 unfold RX at he
 split at he
 rotate_left
 ·cases he
 simp only[Option.some.injEq,Prod.mk.injEq,true_and]at he
 subst he
 simp only[ai]at qe
 subst qe
 have k0:ax Z w N9 (j6 N9) QS.toList:=by
  have z:∀(k:K),ax Z w (.sl k) [] [.slice none 0 0]:=fun k=>⟨_,rfl,none,0,rfl,Nat.le_refl _,fun _=>rfl,fun i x h=>by simp at h⟩
  exact⟨[.slice none 0 0,.slice none 0 0,.slice none 0 0],[.int .i64 0,.slice none 0 0],rfl,⟨[.slice none 0 0,.slice none 0 0],[.slice none 0 0],rfl,⟨[.slice none 0 0],[.slice none 0 0],rfl,z _,z _⟩,z _⟩,[.int .i64 0],[.slice none 0 0],rfl,rfl,z _⟩
 have n0:N (id+128):=hN 128 (by omega)
 have b1:=sP g hB (id+128) 100 n0 (fF (h:=h) (ψ:=ψ) k0) k0.one (fun i ty cs hb=>au.imp (p:=fun j=>¬N j) (q:=fun j=>j≠id+128) (fun j hj e=>hj (by rw[e];exact n0)) (aR i ty cs hb)) (by show au _ [.sl false fL [],.sl false iL [],.sl false dY [],.int .i64 0,.sl false Di []];simp[au,aA])
 refine(Pr w).mono fun en w' ⟨e1,e2⟩=>?_
 subst e2
 have hH:(bm.new (.ref (id+128) 0 0 0) [(id+128,.box 100 (enc N9 (j6 N9)))]).hp h=dy h (id+128) (some (.box 100 (enc N9 (j6 N9)))):=by
  funext i
  show(match Heap.get _ i with|some o=>some o|none=>h i)=_
  unfold dy
  by_cases h2:i=id+128
  ·subst h2;simp[Heap.get]
  ·simp[Heap.get,h2,Ne.symm h2]
 refine⟨_,Z,dy ψ (id+128) (.pointer (some ⟨w.heap.size,0,none⟩)),e1,?_,?_⟩
 ·rw[hH]
  refine⟨fun _ h=>h,fun _ h=>.inl h,⟨rfl,rfl,rfl,by rw[World.size_alloc];omega,fun q hq _=>?_⟩,fun i hi=>?_,b1.dx⟩
  ·rw[heap_alloc_old _ _ hq]
  ·rcases b1.ids i hi with⟨h3,h4⟩|h3
   ·exact .inl ⟨h3,h4⟩
   ·exact .inr h3
 ·rw[hH]
  simp only[bm.v,ar]
  refine⟨_,rfl,fun _=>?_⟩
  rw[aS]
  rfl
end Go.Vs
namespace Go.Vs
open Go.Proofs
theorem MI:∀f g u,Sg f=some g→g.x=some u→fR Tryz.prog (f%1000) u:=fun f g u h hu=>by
 have hm:=MC h
 have key:(XW.all fun p=>(p.2.x.isNone || (p.1==176 || (p.1==211 || (p.1==233 || (p.1==177 || (p.1==186 || (p.1==220 || (p.1==500096 || (p.1==24))))))))))=true:=by kernel_rfl
 have:=List.all_eq_true.1 key _ hm
 simp only[hu,Option.isNone_some,Bool.false_or,Bool.or_eq_true,beq_iff_eq]at this
 rcases this with rfl|rfl|rfl|rfl|rfl|rfl|rfl|rfl
 ·have e:Sg 176=some QD:=by kernel_rfl
  rw[e]at h;cases h;cases hu;intro Z ψ h w B0 O N hh id e vs us;exact sf (k:=fL) R5
 ·have e:Sg 211=some QG:=by kernel_rfl
  rw[e]at h;cases h;cases hu;intro Z ψ h w B0 O N hh id e vs us;exact sf (k:=iL) R9
 ·have e:Sg 233=some QH:=by kernel_rfl
  rw[e]at h;cases h;cases hu;intro Z ψ h w B0 O N hh id e vs us;exact sf (k:=dY) Sb
 ·have e:Sg 177=some QE:=by kernel_rfl
  rw[e]at h;cases h;cases hu;intro Z ψ h w B0 O N hh id e vs us;exact y0 (k:=fL) R7
 ·have e:Sg 186=some QF:=by kernel_rfl
  rw[e]at h;cases h;cases hu;intro Z ψ h w B0 O N hh id e vs us;exact y0 (k:=iL) Sa
 ·have e:Sg 220=some QI:=by kernel_rfl
  rw[e]at h;cases h;cases hu;intro Z ψ h w B0 O N hh id e vs us;exact EL (k:=b8) Pd
 ·have e:Sg 500096=some Ew:=by kernel_rfl
  rw[e]at h;cases h;cases hu;intro Z ψ h w B0 O N hh id e vs us;exact J6
 ·have e:Sg 24=some QK:=by kernel_rfl
  rw[e]at h;cases h;cases hu;intro Z ψ h w B0 O N hh id e vs us;exact G3
end Go.Vs
