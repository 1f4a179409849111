/- slices.Insert, slices.Delete, slices.Grow and slices.Clone at rows of one's own; what is asked of the program as a whole. -/
import Derived.Test.YtpkfpbpbkabkdaaGreatEngineA
import Derived.Laws.CopyRow
import Derived.Lib.AppendZerosOnto
import Derived.Lib.Overlaps
import Derived.Test.YtpkfpbpbkabkdaaGreatProg
import Derived.WalkKit
import Derived.Lib.Walk
import Derived.Shelf.Spec.SlicesInsert
import Derived.Laws.NewBlocks
import Derived.Test.YtpkfpbpbkabkdaaGreatEngineC
import Derived.Test.YtpkfpbpbkabkdaaGreatEngineB
import Derived.Test.YtpkfpbpbkabkdaaGreatEngineD
import Derived.Laws.StructEq
import Derived.KernelRfl
namespace Go.Vs
variable {P:Program} {w:World}
theorem cg(w:World)(dT sT ty elem:TypeId)(sz g o XE agl:Nat)(a:Addr)(XF agm:Nat)(cur:Array Value)(t:TypeId)(cs:List Value)
  (hu:P.underlying dT=some (.slice elem)) (hs:(P.info? elem).map (·.size)=some sz)
  (hg:w.heap[g]? = some (.cells cur t (0,0))) (hn:cs.length=Nat.min XF XE*sz)
  (wx:∀(j:Nat) v,cs[j]? = some v→w.cell? (a.add j)=some v) (T5:o+cs.length≤cur.size) (h1:∀v∈cs,v.oneCell'=true) :
  (Builtin.copy_ #[dT,sT] ty #[.slice (some ⟨g,o,none⟩) XE agl,.slice (some a) XF agm]).run P w =
   .ok (goInt (Nat.min XF XE)) (w.setRow g (cur.toList.take o++cs++cur.toList.drop (o+cs.length)).toArray):=by
 have hl:=run_loadCells_list (P:=P) w a cs wx
 have uK:=run_storeCells_at P g o t cs 0 cur w hg (by simpa using T5) h1
 cases hq:P.info? elem with
 |none=>simp[hq]at hs
 |some i =>
  have hi:i.size=sz:=by simpa[hq] using hs
  simp only[Nat.add_zero]at uK
  simp[Builtin.copy_,run_underlying hu,Builtin.lenOf,Builtin.firstCells,sizeOf,typeInfo,hq,hi,←hn,hl,uK]
theorem oz(w:World)(t ty e:TypeId)(sz g n c:Nat)(a:Addr)(m mc:Nat)(cur:Array Value)(news:List Value)(ht:P.underlying t=some (.slice e))(hs:(P.info? e).map (·.size)=some sz)
  (hg:w.heap[g]? = some (.cells cur e (0,0))) (hl:news.length=m*sz) (wx:∀(j:Nat) v,news[j]? = some v→w.cell? (a.add j)=some v) (h1:∀v∈news,v.oneCell'=true) (iO:n+m≤c) (jm:c*sz≤cur.size) :
  (Builtin.append_ #[t,t] ty #[.slice (some ⟨g,0,none⟩) n c,.slice (some a) m mc]).run P w=.ok (.slice (some ⟨g,0,none⟩) (n+m) c) (w.setRow g (cur.toList.take (n*sz)++news++cur.toList.drop (n*sz+news.length)).toArray):=by
 have hle:n*sz+m*sz≤c*sz:=by rw[←Nat.add_mul];exact Nat.mul_le_mul_right _ iO
 have abo:=run_loadCells_list (P:=P) w a news wx
 have uK:=run_storeCells_at P g (n*sz) e news 0 cur w hg (by omega) h1
 simp only[Nat.add_zero]at uK
 have ha:(⟨g,0,none⟩:Addr).add (n*sz)=⟨g,n*sz,none⟩:=by rw[cp,Nat.zero_add]
 cases hq:P.info? e with
 |none=>simp[hq]at hs
 |some i =>
  have hi:i.size=sz:=by simpa[hq] using hs
  simp[Builtin.append_,run_underlying ht,Builtin.lenOf,Builtin.firstCells,sizeOf,typeInfo,hq,hi,←hl,abo,iO,ha,uK]
theorem rm(w:World)(t ty e:TypeId)(sz g o k c:Nat)(cur:Array Value)(i:TypeInfo)(z:Value)(ht:P.underlying t=some (.slice e))(hi:P.info? e=some i)(hz:i.zero=some z)(wb:z.cells.size=sz)(h1:∀v∈z.cells.toList,v.oneCell'=true)
  (hg:w.heap[g]? = some (.cells cur e (0,0))) (hk:0<k) (T5:o+k*sz≤cur.size) :
  (Builtin.clear_ #[t] ty #[.slice (some ⟨g,o,none⟩) k c]).run P w=.ok (.tuple #[]) (w.setRow g (cur.toList.take o++(Builtin.zeroCells z.cells k).toList++cur.toList.drop (o+(Builtin.zeroCells z.cells k).toList.length)).toArray):=by
 have hl:(Builtin.zeroCells z.cells k).toList.length=k*sz:=by simp[Builtin.zeroCells,wb]
 have ES:∀v∈(Builtin.zeroCells z.cells k).toList,v.oneCell'=true:=fun v hv=>by
  simp only[Builtin.zeroCells,Array.toList_map,List.mem_map]at hv
  obtain⟨q,hq,rfl⟩:=hv
  have hq':q<k*z.cells.size:=by simpa using hq
  have hp:0<z.cells.size:=by
   rcases Nat.eq_zero_or_pos z.cells.size with h|h
   ·rw[h,Nat.mul_zero]at hq';omega
   ·exact h
  have aF:q%z.cells.size<z.cells.size:=Nat.mod_lt _ hp
  rw[getElem!_pos z.cells _ aF]
  exact h1 _ (by simp)
 have uK:=run_storeCells_at P g o e (Builtin.zeroCells z.cells k).toList 0 cur w hg (by omega) ES
 simp only[Nat.add_zero]at uK
 obtain⟨m,rfl⟩:∃m,k=m+1:=⟨k-1,by omega⟩
 simp[Builtin.clear_,run_underlying ht,zeroValue,typeInfo,hi,hz,uK]
end Go.Vs
set_option linter.unusedVariables false
set_option linter.unusedSimpArgs false
namespace Go.Vs
open Go.Proofs Go.RowKit
def Fx(P:Program)(f:FuncId)(e:TypeId)(size:Nat):Prop :=
 ∀(w:World) (v u:Value) (n i:Nat) (xs ys:List Value),dC w e size v n xs→dC w e size u 1 ys→i≤n→n+1≤fi→(∀b,ob v=some b→ob u≠some b) →
  (∀q∈xs,q.oneCell'=true)→(∀q∈ys,q.oneCell'=true) →
  Calls P f #[v,.int .i64 i,u] w fun en w'=>∃v',en=.returned v'∧dC w' e size v' (n+1) (xs.take (i*size)++(ys++xs.drop (i*size)))∧w.grownBy w' (ob v)∧(ob v'=ob v∨∀b,ob v'=some b→w.heap.size≤b)
set_option maxHeartbeats 4000000 in
set_option maxRecDepth 100000 in
theorem Kl(w:World)(v u:Value)(n:Nat)(xs ys:List Value)(hv:dC w 52 5 v n xs)(hu:dC w 52 5 u 1 ys)(hm:n+1≤fi)(h1:∀q∈ys,q.oneCell'=true) :
  Calls Tryz.prog 176 #[v,.int .i64 n,u] w fun en w'=>∃v',en=.returned v'∧dC w' 52 5 v' (n+1) (xs++ys)∧w.grownBy w' (ob v)∧(ob v'=ob v∨∀b,ob v'=some b→w.heap.size≤b):=by
 have ht:Tryz.prog.underlying 38=some (.slice 52):=by kernel_rfl
 obtain⟨i0,z0,he⟩:=cr (P:=Tryz.prog) (e:=52) (k:=.pair (.pair (.int .i64) (.int .i64)) (.pair (.sl (.pair (.pair (.int .i64) (.int .i64)) (.int .i64))) (.pair .str (.int .i64)))) (by kernel_rfl)
 have wx:MO w 5 u 1 ys:=by
  refine⟨hu.1,h1,.inr ?_⟩
  rcases hu.2 with⟨h0,_⟩|⟨g,cap,cur,rfl,_,hg,_,_,hc,iP⟩
  ·cases h0
  ·refine⟨_,_,rfl,fun j q hj=>?_⟩
   rw[cp,Nat.zero_add]
   rw[←iP,List.getElem?_take]at hj
   split at hj
   ·simp[World.cell?,hg];simpa using hj
   ·cases hj
 obtain⟨v',w',dv,h4,h5,h6⟩:=dI (P:=Tryz.prog) (ty:=38) ht he hv wx hm
 obtain⟨A,c,rfl⟩:=hv.slice
 have CY:n≤c:=by
  rcases hv.2 with⟨h0,A,e⟩|⟨g,cap,cur,e,hc,h2,h3,_⟩
  ·omega
  ·cases e;exact h3
 obtain⟨B,cu,rfl⟩:=hu.slice
 have abp:n≤1073741824:=by unfold fi at hm;omega
 go_enter Tryz.func176,Tryz.ntmps176
 go_wp2_with (at_builtin;refine Lib.wpList_append_run _ rfl _ _ _ _ rfl _ _ rfl rfl _ _ dv ?_)
 all_goals go_ret
 all_goals first|exact⟨_,rfl,h4,h5,h6⟩|(subst_vars;exact⟨_,rfl,h4,h5,h6⟩)
theorem BZ{α:Type}{cur xs ys cur1 cur3:List α}{i n sz:Nat}(iP:cur.take (n*sz)=xs)(hl:(n+1)*sz≤cur.length)(hy:ys.length=sz)(hi:i≤n)
  (h1:cur1=cur.take ((i+1)*sz)++xs.drop (i*sz)++cur.drop ((i+1)*sz+(xs.drop (i*sz)).length)) (h3:cur3=cur1.take (i*sz)++ys++cur1.drop (i*sz+ys.length)) :
  cur3.take ((n+1)*sz)=xs.take (i*sz)++(ys++xs.drop (i*sz)):=by
 have nO:i*sz≤n*sz:=Nat.mul_le_mul_right _ hi
 rw[Nat.add_mul,Nat.one_mul]at hl h1 ⊢
 have xe:xs.length=n*sz:=by rw[←iP,List.length_take];omega
 generalize i*sz=a at *
 generalize n*sz=b at *
 have e1:cur1.take a=xs.take a:=by
  rw[h1,List.append_assoc,List.take_append_of_le_length (by rw[List.length_take];omega),List.take_take,←iP,List.take_take]
  congr 1;omega
 have e2:cur1.drop (a+ys.length)=xs.drop a++cur.drop (a+1*sz+(xs.drop a).length):=by
  rw[h1,List.append_assoc,Nat.one_mul,hy]
  exact List.drop_left' (by rw[List.length_take];omega)
 rw[h3,e1,e2,←List.append_assoc,←List.append_assoc]
 rw[List.take_left' (by simp only[List.length_append,List.length_take,List.length_drop];omega)]
theorem gm{w:World}{e size:Nat}{g n:Nat}{cur:Array Value}{xs:List Value}(hg:w.heap[g]? = some (.cells cur e (0,0)))(iP:cur.toList.take (n*size)=xs)(o:Nat):∀(j:Nat) q,(xs.drop o)[j]? = some q→w.cell? ((⟨g,o,none⟩:Addr).add j)=some q:=fun j q hj=>by
 rw[cp]
 rw[List.getElem?_drop,←iP,List.getElem?_take]at hj
 split at hj
 ·simp[World.cell?,hg];simpa using hj
 ·cases hj
set_option maxHeartbeats 4000000 in
set_option maxRecDepth 100000 in
theorem Fy(w:World)(g c g2 c2 n i:Nat)(xs ys:List Value)(cur da:Array Value)(hg:w.heap[g]? = some (.cells cur 52 (0,0)))(jm:cur.size=c*5)(iP:cur.toList.take (n*5)=xs)(xe:xs.length=n*5)
  (tj:w.heap[g2]? = some (.cells da 52 (0,0))) (qu:da.size=c2*5) (ux:0<c2) (kz:da.toList.take (1*5)=ys) (D7:ys.length=1*5) (br:g2≠g) (hi:i<n) (iO:n+1≤c) (hc:c≤maxLen)
  (h1:∀q∈xs,q.oneCell'=true) (h2:∀q∈ys,q.oneCell'=true) :
  Calls Tryz.prog 176 #[.slice (some ⟨g,0,none⟩) n c,.int .i64 i,.slice (some ⟨g2,0,none⟩) 1 c2] w fun en w'=>en=.returned (.slice (some ⟨g,0,none⟩) (n+1) c) ∧
   ∃dd:Array Value,w'.heap[g]? = some (.cells dd 52 (0,0))∧dd.size=cur.size∧dd.toList.take ((n+1)*5)=xs.take (i*5)++(ys++xs.drop (i*5))∧w.grownBy w' (some g):=by
 have ht:Tryz.prog.underlying 38=some (.slice 52):=by kernel_rfl
 have hz:(Tryz.prog.info? 52).map (·.size)=some 5:=by kernel_rfl
 have wb:∀w,(Go.sizeOf 52).run Tryz.prog w=.ok 5 w:=fun w=>by
  cases hq:Tryz.prog.info? 52 with
  |none=>rw[hq]at hz;cases hz
  |some i=>rw[hq]at hz;simp at hz;simp[sizeOf,typeInfo,hq,hz]
 have TJ:∀a2 lb cb,(callFunc 209 #[.slice (some ⟨g2,0,none⟩) 1 c2,.slice (some ⟨g,a2,none⟩) lb cb]).run Tryz.prog w=.ok (.value (.bool false)) w:=fun a2 lb cb=>by
  rw[run_callFunc_extern Tryz.func209 (by kernel_rfl) (by kernel_rfl) (by kernel_rfl) (e:=Extern.SlicesOverlaps.overlaps #[38,38] #[4]) (by kernel_rfl),
   Lib.run_overlaps_apart w 38 4 52 ht 5 wb ⟨g2,0,none⟩ ⟨g,a2,none⟩ 1 c2 lb cb br 52 52 da.size cur.size (by simp[World.shape?,tj]) (by simp[World.shape?,hg]) (by omega) (by simp[World.frozen?,tj]) (by simp[World.frozen?,tj])]
  rfl
 have C1:=gm (size:=5) (n:=1) tj kz 0
 have rO:=gm (size:=5) (n:=n) hg iP (i*5)
 have h63:c≤9223372036854775807:=by unfold maxLen at hc;omega
 have hn5:n*5≤cur.size:=by omega
 obtain⟨cur1,fg⟩:∃cur1:Array Value,cur1=(cur.toList.take ((i+1)*5)++xs.drop (i*5)++cur.toList.drop ((i+1)*5+(xs.drop (i*5)).length)).toArray:=⟨_,rfl⟩
 have yG:(xs.drop (i*5)).length=(n-i)*5:=by rw[List.length_drop,xe];omega
 have Rr:∀(W:World),W.heap=w.heap→∀ty dc sc,(Builtin.copy_ #[38,38] ty #[.slice (some ⟨g,(i+1)*5,none⟩) (n-i) dc,.slice (some ⟨g,i*5,none⟩) (n+1-i) sc]).run Tryz.prog W=.ok (goInt (n-i:Nat)) (W.setRow g cur1):=fun W hW ty dc sc=>by
  have:=cg (P:=Tryz.prog) W 38 38 ty 52 5 g ((i+1)*5) (n-i) dc ⟨g,i*5,none⟩ (n+1-i) sc cur 52 (xs.drop (i*5)) ht hz (by rw[hW];exact hg) (by rw[yG];simp only[Nat.min_def];split<;>omega)
   (fun j v hj=>by have:=rO j v hj;simpa only[World.cell?,hW] using this) (by omega) (fun q hq=>h1 q (List.mem_of_mem_drop hq))
  rw[this,fg]
  congr 2
  simp only[Nat.min_def];split<;>omega
 have Fa:cur1.size=cur.size:=by rw[fg];simp;omega
 obtain⟨cur3,mW⟩:∃cur3:Array Value,cur3=(cur1.toList.take (i*5)++ys++cur1.toList.drop (i*5+ys.length)).toArray:=⟨_,rfl⟩
 have Rs:∀(W:World),W.heap[g]? = some (.cells cur1 52 (0,0))→W.heap[g2]? = w.heap[g2]?→∀ty dc sc,(Builtin.copy_ #[38,38] ty #[.slice (some ⟨g,i*5,none⟩) (n+1-i) dc,.slice (some ⟨g2,0,none⟩) 1 sc]).run Tryz.prog W=.ok (goInt 1) (W.setRow g cur3):=fun W hW hW2 ty dc sc=>by
  have:=cg (P:=Tryz.prog) W 38 38 ty 52 5 g (i*5) (n+1-i) dc ⟨g2,0,none⟩ 1 sc cur1 52 ys ht hz hW (by rw[D7];simp only[Nat.min_def];split<;>omega)
   (fun j v hj=>by have:=C1 j v (by simpa using hj);simpa only[World.cell?,cy,hW2] using this) (by omega) h2
  rw[this,mW]
  congr 2
  simp only[Nat.min_def];split<;>omega
 have J4:IntKind.i64.wrap ((i:Int)+1)=(i:Int)+1:=by rw[IntKind.wrap_i64];omega
 have Uu:IntKind.i64.wrap ((n:Int)+1)=(n:Int)+1:=by rw[IntKind.wrap_i64];omega
 have NG:(0:Int)≤(i:Int)+1:=by omega
 have my:i≤n:=by omega
 have NH:((i:Int)+1).toNat=i+1:=by omega
 have zr:¬(c=i+1):=by omega
 have Wm:(i:Int)≤(n:Int)+1:=by omega
 have hb4:¬(c=i):=by omega
 have CR:¬((i:Int)=(n:Int)):=by omega
 have Jg:¬((c:Int)<(n:Int)+1):=by omega
 have TK:cur3.size=cur.size:=by rw[mW];simp;omega
 have lf:cur3.toList.take ((n+1)*5)=xs.take (i*5)++(ys++xs.drop (i*5)):=BZ (sz:=5) (cur1:=cur1.toList) (cur3:=cur3.toList) iP (by simp;omega) (by rw[D7]) my (by rw[fg]) (by rw[mW])
 clear mW fg yG iP kz
 have HU:=Rs (w.drew.setRow g cur1) (setRow_heap w.drew g cur _ 52 _ hg) (_root_.Go.setRow_other w.drew g g2 _ br)
 have mixed:Tryz.prog.follows .mixedOrders=true:=by kernel_rfl
 go_enter Tryz.func176,Tryz.ntmps176
 go_wp2_with (simp only[TJ])
 go_region_law (go_loud (refine step_copy_runI rfl _ _ 38 38 rfl (.slice (some ⟨g,(i+1)*5,none⟩) (n-i) (c-(i+1))) (.slice (some ⟨g,i*5,none⟩) (n+1-i) (c-i)) (by simp[Act.eval,Act.put]) (by simp[Act.eval,Act.put]) (Rr w.drew rfl 3 (c-(i+1)) (c-i)) ?_))
 go_wp2_with (simp only[HU])
 go_ret
 refine⟨rfl,cur3,setRow_heap _ g cur1 _ 52 _ (setRow_heap w.drew g cur _ 52 _ hg),TK,lf,⟨rfl,rfl,rfl,by simp[World.setRow],fun k hk NI=>?_⟩⟩
 have wc:k≠g:=fun e=>NI (by rw[e])
 rw[_root_.Go.setRow_other _ g k _ wc,_root_.Go.setRow_other _ g k _ wc];rfl
theorem xf{α:Type}{row xs ys row2 row3:List α}{i n sz:Nat}(hA:row.take (i*sz)=xs.take (i*sz))(hl:(n+1)*sz≤row.length)(xe:xs.length=n*sz)(hy:ys.length=sz)(hi:i≤n)
  (h2:row2=row.take (i*sz)++ys++row.drop (i*sz+ys.length)) (h3:row3=row2.take ((i+1)*sz)++xs.drop (i*sz)++row2.drop ((i+1)*sz+(xs.drop (i*sz)).length)) :
  row3.take ((n+1)*sz)=xs.take (i*sz)++(ys++xs.drop (i*sz)):=by
 have nO:i*sz≤n*sz:=Nat.mul_le_mul_right _ hi
 rw[Nat.add_mul,Nat.one_mul]at hl h3 ⊢
 generalize i*sz=a at *
 generalize n*sz=b at *
 have e1:row2.take (a+1*sz)=xs.take a++ys:=by
  rw[h2,hA,Nat.one_mul]
  exact List.take_left' (by simp only[List.length_append,List.length_take];omega)
 rw[Nat.one_mul]at e1
 rw[h3,e1]
 rw[List.take_left' (by simp only[List.length_append,List.length_take,List.length_drop];omega)]
 rw[List.append_assoc]
set_option maxHeartbeats 4000000 in
set_option maxRecDepth 100000 in
theorem HV(w:World)(g c g2 c2 n i:Nat)(xs ys:List Value)(cur da:Array Value)(hg:w.heap[g]? = some (.cells cur 52 (0,0)))(jm:cur.size=c*5)(iP:cur.toList.take (n*5)=xs)(xe:xs.length=n*5)
  (tj:w.heap[g2]? = some (.cells da 52 (0,0))) (qu:da.size=c2*5) (ux:0<c2) (kz:da.toList.take (1*5)=ys) (D7:ys.length=1*5) (br:g2≠g) (hi:i<n) (CY:n≤c) (iO:c<n+1) (hm:n+1≤fi)
  (h1:∀q∈xs,q.oneCell'=true) (h2:∀q∈ys,q.oneCell'=true) :
  Calls Tryz.prog 176 #[.slice (some ⟨g,0,none⟩) n c,.int .i64 i,.slice (some ⟨g2,0,none⟩) 1 c2] w fun en w'=>∃G,en=.returned (.slice (some ⟨w.heap.size,0,none⟩) (n+1) G) ∧
   ∃dd:Array Value,w'.heap[w.heap.size]? = some (.cells dd 52 (0,0))∧dd.size=G*5∧n+1≤G∧G≤maxLen∧dd.toList.take ((n+1)*5)=xs.take (i*5)++(ys++xs.drop (i*5))∧w.grownBy w' (some g):=by
 have ht:Tryz.prog.underlying 38=some (.slice 52):=by kernel_rfl
 have NH:Tryz.prog.underlying 3=some (.int .i64):=by kernel_rfl
 have hz:(Tryz.prog.info? 52).map (·.size)=some 5:=by kernel_rfl
 obtain⟨i0,z0,he⟩:=cr (P:=Tryz.prog) (e:=52) (k:=.pair (.pair (.int .i64) (.int .i64)) (.pair (.sl (.pair (.pair (.int .i64) (.int .i64)) (.int .i64))) (.pair .str (.int .i64)))) (by kernel_rfl)
 have Gi:z0.cells.size=5:=he.qP
 have wb:i0.size=5:=he.size
 have B2:=he.bytes
 have C1:=gm (size:=5) (n:=1) tj kz 0
 have rO:=gm (size:=5) (n:=n) hg iP (i*5)
 have HW:=gm (size:=5) (n:=n) hg iP 0
 have TL:g<w.heap.size:=(Array.getElem?_eq_some_iff.1 hg).1
 have Rt:g2<w.heap.size:=(Array.getElem?_eq_some_iff.1 tj).1
 unfold fi at hm
 have iw:(n+1)*i0.bytes≤140737488355328:=Nat.le_trans (Nat.mul_le_mul hm B2) (by decide)
 have hold:(Builtin.firstCells i0.size i (.slice (some ⟨g,0,none⟩) i c)).run Tryz.prog w.drew=.ok (xs.take (i*5)).toArray w.drew:=by
  rw[wb]
  exact run_firstCells_some w.drew 5 i ⟨g,0,none⟩ i c (xs.take (i*5)) (by rw[List.length_take];omega) (fun j v hj=>by
   rw[List.getElem?_take]at hj
   split at hj
   ·exact HW j v hj
   ·cases hj)
 obtain⟨G,hG⟩:∃G,G=grownCap w (n+1) c 52:=⟨_,rfl⟩
 obtain⟨gq,mF⟩:∃gq:Array Value,gq=(xs.take (i*5)).toArray++Builtin.zeroCells z0.cells (n+1-i)++Builtin.zeroCells z0.cells (G-(n+1)):=⟨_,rfl⟩
 have P6:i+(n+1-i)=n+1:=by omega
 have OU:∀ty,(Builtin.append_ #[38,3] ty #[.slice (some ⟨g,0,none⟩) i c,.int .i64 ((n:Int)+1-(i:Int))]).run Tryz.prog w=.ok (.slice (some ⟨w.heap.size,0,none⟩) (n+1) G) (w.drew.alloc (.cells gq 52)):=fun ty=>by
  have h:=Lib.run_append_grow_zeros w 38 3 ty 52 i0 z0 .i64 .i64 ht NH he.info he.zero (some ⟨g,0,none⟩) i c (xs.take (i*5)) hold (n+1-i) (by omega) (by omega) (by omega) (by omega)
   (Nat.le_trans (Nat.mul_le_mul_right _ (show n+1-i≤n+1 by omega)) (by omega)) (by rw[P6];exact growslice_fits iO iw)
  rw[P6]at h
  rw[show(n:Int)+1-(i:Int)=((n+1-i:Nat):Int) by omega,mF,hG]
  exact h
 have XG:n+1≤G:=by rw[hG];exact grownCap_ge w _ _ _
 have Fz:G≤9223372036854775807:=by
  have:=grownCap_le_maxLen w (n+1) c 52 (by unfold maxLen;omega)
  rw[←hG]at this
  unfold maxLen at this
  omega
 have Y4:gq.size=G*5:=by
  rw[mF]
  simp[Builtin.zeroCells,Gi,List.length_take,xe]
  rw[Nat.min_eq_left (by omega)];omega
 have Wn:gq.toList.take (i*5)=xs.take (i*5):=by
  rw[mF]
  simp only[Array.toList_append,List.append_assoc]
  exact List.take_left' (by rw[List.length_take];omega)
 obtain⟨W1,lu⟩:∃W1,W1=w.drew.alloc (.cells gq 52):=⟨_,rfl⟩
 have oC:W1.heap[w.heap.size]? = some (.cells gq 52 (0,0)):=by rw[lu];exact(MapKept.heap_alloc w.drew (.cells gq 52)).1
 have qv:∀b,b<w.heap.size→W1.heap[b]? = w.heap[b]? := fun b hb=>by rw[lu];exact(Below.heap_alloc w.drew (.cells gq 52) b hb).trans rfl
 have qw:w.grownBy W1 none:=⟨by rw[lu];rfl,by rw[lu];rfl,by rw[lu];rfl,by have:=(Array.getElem?_eq_some_iff.1 oC).1;omega,fun k hk _=>qv k hk⟩
 obtain⟨row2,mX⟩:∃row2:Array Value,row2=(gq.toList.take (i*5)++ys++gq.toList.drop (i*5+ys.length)).toArray:=⟨_,rfl⟩
 have Lt:row2.size=gq.size:=by rw[mX];simp;omega
 have Ru:∀(W:World),W.heap=W1.heap→∀ty dc sc,(Builtin.copy_ #[38,38] ty #[.slice (some ⟨w.heap.size,i*5,none⟩) (n+1-i) dc,.slice (some ⟨g2,0,none⟩) 1 sc]).run Tryz.prog W=.ok (goInt 1) (W.setRow w.heap.size row2):=fun W hW ty dc sc=>by
  have:=cg (P:=Tryz.prog) W 38 38 ty 52 5 w.heap.size (i*5) (n+1-i) dc ⟨g2,0,none⟩ 1 sc gq 52 ys ht hz (by rw[hW];exact oC) (by rw[D7];simp only[Nat.min_def];split<;>omega)
   (fun j v hj=>by have:=C1 j v (by simpa using hj);simpa only[World.cell?,cy,hW,qv g2 Rt] using this) (by omega) h2
  rw[this,mX]
  congr 2
  simp only[Nat.min_def];split<;>omega
 obtain⟨row3,mY⟩:∃row3:Array Value,row3=(row2.toList.take ((i+1)*5)++xs.drop (i*5)++row2.toList.drop ((i+1)*5+(xs.drop (i*5)).length)).toArray:=⟨_,rfl⟩
 have yG:(xs.drop (i*5)).length=(n-i)*5:=by rw[List.length_drop,xe];omega
 have TK:row3.size=gq.size:=by rw[mY];simp;omega
 have Rv:∀(W:World),W.heap=(W1.setRow w.heap.size row2).heap→∀ty dc sc,(Builtin.copy_ #[38,38] ty #[.slice (some ⟨w.heap.size,(i+1)*5,none⟩) (n-i) dc,.slice (some ⟨g,i*5,none⟩) (n-i) sc]).run Tryz.prog W=.ok (goInt (n-i:Nat)) (W.setRow w.heap.size row3):=fun W hW ty dc sc=>by
  have:=cg (P:=Tryz.prog) W 38 38 ty 52 5 w.heap.size ((i+1)*5) (n-i) dc ⟨g,i*5,none⟩ (n-i) sc row2 52 (xs.drop (i*5)) ht hz (by rw[hW];exact setRow_heap W1 w.heap.size gq _ 52 _ oC) (by rw[yG];simp only[Nat.min_def];split<;>omega)
   (fun j v hj=>by have:=rO j v hj;simpa only[World.cell?,cy,hW,_root_.Go.setRow_other W1 w.heap.size g _ (Nat.ne_of_lt TL),qv g TL] using this) (by omega) (fun q hq=>h1 q (List.mem_of_mem_drop hq))
  rw[this,mY]
  congr 2
  simp only[Nat.min_def];split<;>omega
 have lf:row3.toList.take ((n+1)*5)=xs.take (i*5)++(ys++xs.drop (i*5)):=xf (sz:=5) (row:=gq.toList) (row2:=row2.toList) (row3:=row3.toList) Wn (by simp;omega) xe (by rw[D7]) (by omega) (by rw[mX]) (by rw[mY])
 clear mY mX mF yG iP kz Wn HW hold hG
 have J4:IntKind.i64.wrap ((i:Int)+1)=(i:Int)+1:=by rw[IntKind.wrap_i64];omega
 have Uu:IntKind.i64.wrap ((n:Int)+1)=(n:Int)+1:=by rw[IntKind.wrap_i64];omega
 have hw3:IntKind.i64.wrap ((n:Int)+1-(i:Int))=(n:Int)+1-(i:Int):=by rw[IntKind.wrap_i64];omega
 have NG:(0:Int)≤(i:Int)+1:=by omega
 have my:i≤n:=by omega
 have abt:((i:Int)+1).toNat=i+1:=by omega
 have hGi:¬(G=i):=by omega
 have abu:¬(G=i+1):=by omega
 have hci:¬(c=i):=by omega
 have Wm:(i:Int)≤(n:Int):=by omega
 have CR:¬((i:Int)=(n:Int)):=by omega
 have Jg:(c:Int)<(n:Int)+1:=by omega
 rw[←lu]at OU
 clear lu
 have mixed:Tryz.prog.follows .mixedOrders=true:=by kernel_rfl
 go_enter Tryz.func176,Tryz.ntmps176
 go_wp2_with (first
  |(at_builtin;refine Lib.wpList_append_run _ rfl _ _ _ _ rfl _ _ rfl rfl _ _ (OU _) ?_)
  |(at_builtin;refine wpList_copy_runI _ rfl _ _ 38 38 rfl _ _ rfl rfl (Ru _ (by rfl) _ _ _) ?_))
 go_region_law (go_loud (refine step_copy_runI rfl _ _ 38 38 rfl (.slice (some ⟨w.heap.size,(i+1)*5,none⟩) (n-i) (G-(i+1))) (.slice (some ⟨g,i*5,none⟩) (n-i) (c-i)) (by simp[Act.eval,Act.put]) (by simp[Act.eval,Act.put]) (Rv (W1.setRow w.heap.size row2).drew rfl 3 (G-(i+1)) (c-i)) ?_))
 go_wp2
 go_ret
 refine⟨G,rfl,row3,setRow_heap _ w.heap.size row2 _ 52 _ (setRow_heap W1 w.heap.size gq _ 52 _ oC),by omega,XG,Fz,lf,⟨qw.os,qw.tape,qw.output,by have:=qw.size;simpa[World.setRow] using this,fun k hk _=>?_⟩⟩
 rw[_root_.Go.setRow_other _ w.heap.size k _ (Nat.ne_of_lt hk)]
 exact(_root_.Go.setRow_other W1 w.heap.size k _ (Nat.ne_of_lt hk)).trans (qv k hk)
theorem XH:Fx Tryz.prog 176 52 5:=fun w v u n i xs ys hv hu hi hm NJ h1 h2=>by
 by_cases he:i=n
 ·subst he
  refine(Kl w v u i xs ys hv hu hm h2).mono fun en w' ⟨v',e1,e2,e3,e4⟩=>⟨v',e1,?_,e3,e4⟩
  have hl:=hv.1
  rw[List.take_of_length_le (by omega),List.drop_eq_nil_of_le (by omega),List.append_nil]
  exact e2
 ·have my:i<n:=by omega
  rcases hv.2 with⟨h0,_⟩|⟨g,c,cur,rfl,OV,hg,CY,FA,jm,iP⟩
  ·omega
  rcases hu.2 with⟨h0,_⟩|⟨g2,c2,da,rfl,HX,tj,_,_,qu,kz⟩
  ·omega
  have jE:ob (.slice (some ⟨g,0,none⟩) n c)=some g:=by simp only[ob];rw[if_neg (by omega)]
  have Rx:ob (.slice (some ⟨g2,0,none⟩) 1 c2)=some g2:=by simp only[ob];rw[if_neg (by omega)]
  have br:g2≠g:=fun e=>NJ g jE (by rw[Rx,e])
  by_cases iO:n+1≤c
  ·refine(Fy w g c g2 c2 n i xs ys cur da hg jm iP hv.1 tj qu HX kz hu.1 br my iO FA h1 h2).mono fun en w' ⟨e1,dd,e2,e3,e4,e5⟩=>?_
   refine⟨_,e1,⟨?_,.inr ⟨g,c,dd,rfl,OV,e2,iO,FA,by rw[e3,jm],e4⟩⟩,by rw[jE];exact e5,.inl ?_⟩
   ·have hl:=hv.1;have wy:=hu.1
    simp only[List.length_append,List.length_take,List.length_drop];omega
   ·rw[jE];simp only[ob];rw[if_neg (by omega)]
  ·refine(HV w g c g2 c2 n i xs ys cur da hg jm iP hv.1 tj qu HX kz hu.1 br my CY (by omega) hm h1 h2).mono fun en w' ⟨G,e1,dd,e2,e3,e4,e5,e6,e7⟩=>?_
   refine⟨_,e1,⟨?_,.inr ⟨w.heap.size,G,dd,rfl,by omega,e2,e4,e5,e3,e6⟩⟩,by rw[jE];exact e7,.inr fun b hb=>?_⟩
   ·have hl:=hv.1;have wy:=hu.1
    simp only[List.length_append,List.length_take,List.length_drop];omega
   ·simp only[ob]at hb;rw[if_neg (by omega)]at hb;cases hb;omega
end Go.Vs
namespace Go.Vs
open Go.Proofs Go.RowKit
def Km(P:Program)(f:FuncId)(e:TypeId)(size:Nat):Prop :=
 ∀(w:World) (v:Value) (n i j:Nat) (xs:List Value),dC w e size v n xs→i<j→j≤n→n≤fi→(∀q∈xs,q.oneCell'=true) →
  Calls P f #[v,.int .i64 i,.int .i64 j] w fun en w'=>∃v',en=.returned v'∧dC w' e size v' (i+(n-j)) (xs.take (i*size)++xs.drop (j*size))∧w.grownBy w' (ob v)∧ob v'=ob v
theorem ij{P:Program}{ops:Array Oper}{o:Oper}{a:Act}{w:World}{K:Act→World→Prop}{Q:Exit→Act→World→Prop}{E:Prop}
  (hg:o.guard=none) (d x:Operand) (dT sT:TypeId) (E6:o.op=Op.call { callee:=Callee.builtin Builtin.append,args:=#[d,x],argTypes:=#[dT,sT] })
  (v u:Value) (hd:a.eval d=v) (hx:a.eval x=u) {v':Value} {w':World} (hr:(Builtin.append_ #[dT,sT] o.type #[v,u]).run P w=.ok v' w') (hK:K (a.put o.dst v') w') :
  if Region.wanted o (yielded ops a.tmps)=true then Oper.wp P o a w K Q else E:=by
 have hw:Region.wanted o (yielded ops a.tmps)=true:=by simp[Region.wanted,hg]
 rw[if_pos hw]
 unfold Oper.wp
 simp[execOp,E6,resolve,invoke,builtin,hd,hx,hr,Result.andThen]
 exact hK
theorem HY{α:Type}{cur xs cur1 da zs:List α}{i j n sz:Nat}(iP:cur.take (n*sz)=xs)(hl:n*sz≤cur.length)(zq:i≤j)(OL:j≤n)
  (h1:cur1=cur.take (i*sz)++xs.drop (j*sz)++cur.drop (i*sz+(xs.drop (j*sz)).length)) (h2:da=cur1.take ((i+(n-j))*sz)++zs++cur1.drop ((i+(n-j))*sz+zs.length)) :
  da.take ((i+(n-j))*sz)=xs.take (i*sz)++xs.drop (j*sz):=by
 have ha:i*sz≤j*sz:=Nat.mul_le_mul_right _ zq
 have hb:j*sz≤n*sz:=Nat.mul_le_mul_right _ OL
 rw[Nat.add_mul,Nat.sub_mul]at h2 ⊢
 have xe:xs.length=n*sz:=by rw[←iP,List.length_take];omega
 generalize i*sz=a at *
 generalize j*sz=b at *
 generalize n*sz=c at *
 have e0:cur.take a=xs.take a:=by rw[←iP,List.take_take];congr 1;omega
 have e1:cur1.take (a+(c-b))=xs.take a++xs.drop b:=by
  rw[h1,e0]
  exact List.take_left' (by simp only[List.length_append,List.length_take,List.length_drop];omega)
 rw[h2,e1,List.append_assoc]
 exact List.take_left' (by simp only[List.length_append,List.length_take,List.length_drop];omega)
set_option maxHeartbeats 4000000 in
set_option maxRecDepth 100000 in
theorem HZ(w:World)(g c n i j X:Nat)(xs:List Value)(cur:Array Value)(hg:w.heap[g]? = some (.cells cur 52 (0,0)))(jm:cur.size=c*5)(iP:cur.toList.take (n*5)=xs)(xe:xs.length=n*5)
  (zq:i<j) (OL:j≤n) (CY:n≤c) (hc:c≤maxLen) (hX:if c=j then X=0 else X=j*5)
  (h1:∀q∈xs,q.oneCell'=true) :
  Calls Tryz.prog 177 #[.slice (some ⟨g,0,none⟩) n c,.int .i64 i,.int .i64 j] w fun en w'=>en=.returned (.slice (some ⟨g,0,none⟩) (i+(n-j)) c) ∧
   ∃dd:Array Value,w'.heap[g]? = some (.cells dd 52 (0,0))∧dd.size=cur.size∧dd.toList.take ((i+(n-j))*5)=xs.take (i*5)++xs.drop (j*5)∧w.grownBy w' (some g):=by
 have ht:Tryz.prog.underlying 38=some (.slice 52):=by kernel_rfl
 have hz:(Tryz.prog.info? 52).map (·.size)=some 5:=by kernel_rfl
 obtain⟨zs,wb⟩:∃zs,Ae Tryz.prog 52=some zs:=Option.isSome_iff_exists.1 (by kernel_rfl)
 obtain⟨i0,z0,Uv,T0,rfl,xX⟩:=o6 wb
 obtain⟨i1,z1,he⟩:=cr (P:=Tryz.prog) (e:=52) (k:=.pair (.pair (.int .i64) (.int .i64)) (.pair (.sl (.pair (.pair (.int .i64) (.int .i64)) (.int .i64))) (.pair .str (.int .i64)))) (by kernel_rfl)
 have ei:i1=i0:=by have:=he.info;rw[Uv]at this;cases this;rfl
 subst ei
 have ez:z1=z0:=by have:=he.zero;rw[T0]at this;cases this;rfl
 subst ez
 have Gi:z1.cells.size=5:=he.qP
 clear he wb
 have yG:(xs.drop (j*5)).length=(n-j)*5:=by rw[List.length_drop,xe];omega
 obtain⟨cur1,fg⟩:∃cur1:Array Value,cur1=(cur.toList.take (i*5)++xs.drop (j*5)++cur.toList.drop (i*5+(xs.drop (j*5)).length)).toArray:=⟨_,rfl⟩
 have Fa:cur1.size=cur.size:=by rw[fg];simp;omega
 have NJ:∀ty sc,(Builtin.append_ #[38,38] ty #[.slice (some ⟨g,0,none⟩) i c,.slice (some ⟨g,X,none⟩) (n-j) sc]).run Tryz.prog w.drew=.ok (.slice (some ⟨g,0,none⟩) (i+(n-j)) c) (w.drew.setRow g cur1):=fun ty sc=>by
  by_cases NK:c=j
  ·have hnj:n=j:=by omega
   have:n-j=0:=by omega
   rw[this]at yG ⊢
   have Gz:xs.drop (j*5)=[]:=List.eq_nil_of_length_eq_zero (by omega)
   rw[fk ht Uv _ _ _ (by omega) _ _,fg,Gz]
   simp only[List.append_nil,List.length_nil,Nat.add_zero,List.take_append_drop,Array.toArray_toList]
   rw[setRow_self w.drew g cur 52 (0,0) hg]
  ·rw[if_neg NK]at hX
   subst hX
   rw[fg]
   exact oz (P:=Tryz.prog) w.drew 38 ty 52 5 g i c ⟨g,j*5,none⟩ (n-j) sc cur (xs.drop (j*5)) ht hz hg yG (gm (size:=5) (n:=n) (w:=w.drew) hg iP (j*5)) (fun q hq=>h1 q (List.mem_of_mem_drop hq)) (by omega) (by omega)
 obtain⟨da,vE⟩:∃da:Array Value,da=(cur1.toList.take ((i+(n-j))*5)++(Builtin.zeroCells z1.cells (j-i)).toList++cur1.toList.drop ((i+(n-j))*5+(Builtin.zeroCells z1.cells (j-i)).toList.length)).toArray:=⟨_,rfl⟩
 have Y5:(Builtin.zeroCells z1.cells (j-i)).toList.length=(j-i)*5:=by simp[Builtin.zeroCells,Gi]
 have Lt:da.size=cur.size:=by rw[vE];simp[Y5];omega
 have tG:∀ty sc,(Builtin.clear_ #[38] ty #[.slice (some ⟨g,(i+(n-j))*5,none⟩) (n-(i+(n-j))) sc]).run Tryz.prog (w.drew.setRow g cur1)=.ok (.tuple #[]) ((w.drew.setRow g cur1).setRow g da):=fun ty sc=>by
  have:=rm (P:=Tryz.prog) (w.drew.setRow g cur1) 38 ty 52 5 g ((i+(n-j))*5) (j-i) sc cur1 i1 z1 ht Uv T0 Gi xX (setRow_heap w.drew g cur _ 52 _ hg) (by omega) (by omega)
  rw[show n-(i+(n-j))=j-i by omega,this,vE]
 have lf:da.toList.take ((i+(n-j))*5)=xs.take (i*5)++xs.drop (j*5):=HY (cur1:=cur1.toList) iP (by simp;omega) (by omega) OL (by rw[fg]) (by rw[vE])
 clear fg vE iP yG
 have h63:c≤9223372036854775807:=by unfold maxLen at hc;omega
 have my:i≤n:=by omega
 have hic:¬(c=i):=by omega
 have hjc:j≤c:=by omega
 have br:¬((i:Int)=(j:Int)):=by omega
 have nE:i≤j:=by omega
 have agn:i≤c:=by omega
 have ago:i+(n-j)≤n:=by omega
 have agp:i+(n-j)≤c:=by omega
 have agq:¬(c=i+(n-j)):=by omega
 have agr:(i:Int)+((n-j:Nat):Int)≤(n:Int):=by omega
 have mixed:Tryz.prog.follows .mixedOrders=true:=by kernel_rfl
 by_cases NK:c=j
 ·rw[if_pos NK]at hX
  subst hX
  subst NK
  obtain rfl:n=c:=by omega
  simp only[Nat.sub_self,Nat.add_zero]at NJ tG lf ⊢
  go_enter Tryz.func177,Tryz.ntmps177
  go_wp2_with fail
  go_region_law (go_loud (refine ij rfl _ _ 38 38 rfl (.slice (some ⟨g,0,none⟩) i n) (.slice (some ⟨g,0,none⟩) 0 0) (by simp[Act.eval,Act.put]) (by simp[Act.eval,Act.put]) (NJ 38 0) ?_))
  go_wp2_with (simp only[tG])
  go_ret
  refine⟨rfl,da,setRow_heap _ g cur1 _ 52 _ (setRow_heap w.drew g cur _ 52 _ hg),Lt,lf,⟨rfl,rfl,rfl,by simp[World.setRow],fun k hk NI=>?_⟩⟩
  have wc:k≠g:=fun e=>NI (by rw[e])
  rw[_root_.Go.setRow_other _ g k _ wc,_root_.Go.setRow_other _ g k _ wc];rfl
 ·rw[if_neg NK]at hX
  subst hX
  go_enter Tryz.func177,Tryz.ntmps177
  go_wp2_with fail
  go_region_law (go_loud (refine ij rfl _ _ 38 38 rfl (.slice (some ⟨g,0,none⟩) i c) (.slice (some ⟨g,j*5,none⟩) (n-j) (c-j)) (by simp[Act.eval,Act.put]) (by simp[Act.eval,Act.put]) (NJ 38 (c-j)) ?_))
  go_wp2_with (simp only[tG])
  go_ret
  refine⟨rfl,da,setRow_heap _ g cur1 _ 52 _ (setRow_heap w.drew g cur _ 52 _ hg),Lt,lf,⟨rfl,rfl,rfl,by simp[World.setRow],fun k hk NI=>?_⟩⟩
  have wc:k≠g:=fun e=>NI (by rw[e])
  rw[_root_.Go.setRow_other _ g k _ wc,_root_.Go.setRow_other _ g k _ wc];rfl
theorem XI:Km Tryz.prog 177 52 5:=fun w v n i j xs hv zq OL hm h1=>by
 rcases hv.2 with⟨h0,_⟩|⟨g,c,cur,rfl,OV,hg,CY,FA,jm,iP⟩
 ·omega
 have jE:ob (.slice (some ⟨g,0,none⟩) n c)=some g:=by simp only[ob];rw[if_neg (by omega)]
 refine(HZ w g c n i j (if c=j then 0 else j*5) xs cur hg jm iP hv.1 zq OL CY FA (by split<;>rfl) h1).mono fun en w' ⟨e1,dd,e2,e3,e4,e5⟩=>?_
 refine⟨_,e1,⟨?_,.inr ⟨g,c,dd,rfl,OV,e2,by omega,FA,by rw[e3,jm],e4⟩⟩,by rw[jE];exact e5,?_⟩
 ·have hl:=hv.1
  simp only[List.length_append,List.length_take,List.length_drop];omega
 ·rw[jE];simp only[ob];rw[if_neg (by omega)]
end Go.Vs
namespace Go.Vs
open Go.Proofs
variable {P:Program}
theorem B3{Z:Nat→Prop}{w:World}{k:K}{xs:List k.T}{vs:List Value}(hv:np Z w k xs vs)(hl:vs.length=xs.length*k.sz):∀q∈vs,q.oneCell'=true:=fun q hq=>by
 obtain⟨p,hp⟩:=List.getElem?_of_mem hq
 have aF:p<vs.length:=(List.getElem?_eq_some_iff.1 hp).1
 have hs:=k.ir
 have hd:p / k.sz<xs.length:=Nat.div_lt_of_lt_mul (by rw[Nat.mul_comm];omega)
 have hr:=hv (p / k.sz) _ (List.getElem?_eq_getElem hd)
 refine hr.one q ?_
 have hm:=Nat.mod_add_div p k.sz
 have hml:=Nat.mod_lt p hs
 have:((vs.drop (p / k.sz*k.sz)).take k.sz)[p%k.sz]? = some q:=by
  rw[List.getElem?_take,if_pos hml,List.getElem?_drop,Nat.mul_comm,Nat.add_comm,hm,hp]
 exact List.mem_of_getElem? this
theorem D8{Z:Nat→Prop}{w:World}{k:K}{xs:List k.T}{vs:List Value}(hv:np Z w k xs vs)(n:Nat):np Z w k (xs.take n) (vs.take (n*k.sz)):=fun i x hx=>by
 rw[List.getElem?_take]at hx
 split at hx
 ·rename_i hi
  have:=hv i x hx
  have e:((vs.take (n*k.sz)).drop (i*k.sz)).take k.sz=(vs.drop (i*k.sz)).take k.sz:=by
   rw[List.drop_take,List.take_take]
   congr 1
   have:(i+1)*k.sz≤n*k.sz:=Nat.mul_le_mul_right _ hi
   rw[Nat.add_mul]at this;omega
  rw[e];exact this
 ·cases hx
theorem D9{Z:Nat→Prop}{w:World}{k:K}{xs:List k.T}{vs:List Value}(hv:np Z w k xs vs)(n:Nat):np Z w k (xs.drop n) (vs.drop (n*k.sz)):=fun i x hx=>by
 rw[List.getElem?_drop]at hx
 have:=hv (n+i) x hx
 rw[List.drop_drop,←Nat.add_mul];exact this
theorem ud{f:FuncId}{ty:TypeId}{k:K}(hr:Fx P f ty k.sz):iz P f (O9 ty k):=by
 intro Z ψ h w B0 O N hh id e vs us g hB bC hN bu nL tH EX he
 unfold O9 at he
 split at he
 rotate_left
 ·cases he
 rename_i o i j
 split at he
 rotate_left
 ·cases he
 rename_i xs ys rO C1
 split at he
 ·cases he
 rename_i hoj
 simp only[Option.some.injEq,Prod.mk.injEq]at he
 obtain⟨mw,rfl⟩:=he
 have hhg:hh.get=h:=nL _ _ rfl
 have LW:hh.get o=some (.own (.row ty k) xs):=jQ rO
 have hgj:hh.get j=some (.own (.row ty k) ys):=jQ C1
 simp only[an,az]at tH
 obtain⟨v,_,rfl,⟨_,hv⟩,n,_,rfl,rfl,u,_,rfl,⟨_,hu⟩,rfl⟩:=tH
 simp only[qF,Bool.and_eq_true,decide_eq_true_eq,aO]at mw
 obtain⟨h0,h1,h2,h3⟩:=mw
 obtain⟨m,rfl⟩:∃m:Nat,i=m:=⟨i.toNat,by omega⟩
 subst hhg
 have hvo:v=ψ o:=hv (by rw[LW];simp)
 have huj:u=ψ j:=hu (by rw[hgj];simp)
 obtain⟨vs,P9,uQ⟩:=g.row o (.row ty k) xs LW
 obtain⟨iX,ho2,xV⟩:=g.row j (.row ty k) ys hgj
 simp only[aC,aJ]at EX
 have bO:N id:=hN 0 (by omega)
 have br:o≠id:=fun e=>EX.1 (e▸bO)
 rw[h2]at ho2
 subst hvo;subst huj
 refine(hr w _ _ xs.length m vs iX P9 ho2 (by omega) (by omega) (fun b hb zr=>hoj (g.apart o j b (by rw[LW];simp) (by rw[hgj];simp) hb zr)) (B3 uQ P9.1) (B3 xV (by rw[ho2.1,h2]))).mono fun en w' ⟨v',e1,e2,e3,e4⟩=>?_
 have kk:c9 ψ hh.get w w':=c9.grown e3 (fun b e=>⟨o,by rw[LW];simp,e⟩)
 have sm:=kk.same g
 have hlen:(fY xs (m:Int) ys).length=xs.length+1:=by
  simp only[fY,Int.toNat_natCast,List.length_append,List.length_take,List.length_drop];omega
 have htl:(vs.take (m*k.sz)).length=(xs.take m).length*k.sz:=by
  have:m*k.sz≤xs.length*k.sz:=Nat.mul_le_mul_right _ (by omega)
  rw[List.length_take,List.length_take,P9.1,Nat.min_eq_left this,Nat.min_eq_left (by omega)]
 have n6:np Z w k (fY xs (m:Int) ys) (vs.take (m*k.sz)++(iX++vs.drop (m*k.sz))):=(D8 uQ m).append (xV.append (D9 uQ m) (by rw[ho2.1,h2])) htl
 have DS:=qR (N:=N) g hB id o bO LW br e3 (v:=v') (ok:=.row ty k) (y:=fY xs m ys)
  ⟨_,by rw[hlen];exact e2,n6.Gx sm⟩ e4 (fun i ty cs hb=>aC.imp (p:=fun i=>¬N i) (q:=fun i=>i≠id) (fun a ha e=>ha (by rw[e];exact bO)) (bu i ty cs hb))
 have hhp:Heap.get ((id,Ob.own (.row ty k) (fY xs (m:Int) ys))::hh.del o)=ed (ed hh.get o none) id (some (.own (.row ty k) (fY xs m ys))):=by rw[Az,uN]
 refine⟨v',Z,ed ψ id v',e1,?_,?_⟩
 ·show Next Z ψ hh.get w B0 O N Z (ed ψ id v') (Heap.get ((id,Ob.own (.row ty k) (fY xs (m:Int) ys))::hh.del o)) w'
  rw[hhp];exact DS
 ·simp only[bI.v,az]
  exact⟨e2.one,fun _=>(bw _ _ _).symm⟩
theorem B4{f:FuncId}{ty:TypeId}{k:K}(hr:Km P f ty k.sz):iz P f (TT ty k):=by
 intro Z ψ h w B0 O N hh id e vs us g hB bC hN bu nL tH EX he
 unfold TT at he
 split at he
 rotate_left
 ·cases he
 rename_i o i j
 split at he
 rotate_left
 ·cases he
 rename_i xs rO
 simp only[Option.some.injEq,Prod.mk.injEq]at he
 obtain⟨mw,rfl⟩:=he
 have hhg:hh.get=h:=nL _ _ rfl
 have LW:hh.get o=some (.own (.row ty k) xs):=jQ rO
 simp only[an,az]at tH
 obtain⟨v,_,rfl,⟨_,hv⟩,n,_,rfl,rfl,u,_,rfl,rfl,rfl⟩:=tH
 simp only[jC,Bool.and_eq_true,decide_eq_true_eq,aO]at mw
 obtain⟨h0,h1,h2,h3⟩:=mw
 obtain⟨m,rfl⟩:∃m:Nat,i=m:=⟨i.toNat,by omega⟩
 obtain⟨q,rfl⟩:∃m:Nat,j=m:=⟨j.toNat,by omega⟩
 subst hhg
 have hvo:v=ψ o:=hv (by rw[LW];simp)
 obtain⟨vs,P9,uQ⟩:=g.row o (.row ty k) xs LW
 simp only[aC,aJ]at EX
 have bO:N id:=hN 0 (by omega)
 have br:o≠id:=fun e=>EX.1 (e▸bO)
 subst hvo
 refine(hr w _ xs.length m q vs P9 (by omega) (by omega) (by omega) (B3 uQ P9.1)).mono fun en w' ⟨v',e1,e2,e3,e4⟩=>?_
 have kk:c9 ψ hh.get w w':=c9.grown e3 (fun b e=>⟨o,by rw[LW];simp,e⟩)
 have sm:=kk.same g
 have hlen:(du xs (m:Int) q).length=m+(xs.length-q):=by
  simp only[du,Int.toNat_natCast,List.length_append,List.length_take,List.length_drop];omega
 have htl:(vs.take (m*k.sz)).length=(xs.take m).length*k.sz:=by
  have:m*k.sz≤xs.length*k.sz:=Nat.mul_le_mul_right _ (by omega)
  rw[List.length_take,List.length_take,P9.1,Nat.min_eq_left this,Nat.min_eq_left (by omega)]
 have n6:np Z w k (du xs (m:Int) q) (vs.take (m*k.sz)++vs.drop (q*k.sz)):=(D8 uQ m).append (D9 uQ q) htl
 have DS:=qR (N:=N) g hB id o bO LW br e3 (v:=v') (ok:=.row ty k) (y:=du xs m q)
  ⟨_,by rw[hlen];exact e2,n6.Gx sm⟩ (.inl e4) (fun i ty cs hb=>aC.imp (p:=fun i=>¬N i) (q:=fun i=>i≠id) (fun a ha e=>ha (by rw[e];exact bO)) (bu i ty cs hb))
 have hhp:Heap.get ((id,Ob.own (.row ty k) (du xs (m:Int) q))::hh.del o)=ed (ed hh.get o none) id (some (.own (.row ty k) (du xs m q))):=by rw[Az,uN]
 refine⟨v',Z,ed ψ id v',e1,?_,?_⟩
 ·show Next Z ψ hh.get w B0 O N Z (ed ψ id v') (Heap.get ((id,Ob.own (.row ty k) (du xs (m:Int) q))::hh.del o)) w'
  rw[hhp];exact DS
 ·simp only[bI.v,az]
  exact⟨e2.one,fun _=>(bw _ _ _).symm⟩
end Go.Vs
namespace Go.Vs
open Go.Proofs Go.RowKit
set_option maxHeartbeats 4000000 in
set_option maxRecDepth 100000 in
theorem Kn(w:World)(v u:Value)(n:Nat)(xs ys:List Value)(hv:dC w 118 4 v n xs)(hu:dC w 118 4 u 1 ys)(hm:n+1≤fi)(h1:∀q∈ys,q.oneCell'=true) :
  Calls Tryz.prog 211 #[v,.int .i64 n,u] w fun en w'=>∃v',en=.returned v'∧dC w' 118 4 v' (n+1) (xs++ys)∧w.grownBy w' (ob v)∧(ob v'=ob v∨∀b,ob v'=some b→w.heap.size≤b):=by
 have ht:Tryz.prog.underlying 39=some (.slice 118):=by kernel_rfl
 obtain⟨i0,z0,he⟩:=cr (P:=Tryz.prog) (e:=118) (k:=.pair (.pair (.int .i64) (.int .i64)) (.pair .str (.int .i64))) (by kernel_rfl)
 have wx:MO w 4 u 1 ys:=by
  refine⟨hu.1,h1,.inr ?_⟩
  rcases hu.2 with⟨h0,_⟩|⟨g,cap,cur,rfl,_,hg,_,_,hc,iP⟩
  ·cases h0
  ·refine⟨_,_,rfl,fun j q hj=>?_⟩
   rw[cp,Nat.zero_add]
   rw[←iP,List.getElem?_take]at hj
   split at hj
   ·simp[World.cell?,hg];simpa using hj
   ·cases hj
 obtain⟨v',w',dv,h4,h5,h6⟩:=dI (P:=Tryz.prog) (ty:=39) ht he hv wx hm
 obtain⟨A,c,rfl⟩:=hv.slice
 have CY:n≤c:=by
  rcases hv.2 with⟨h0,A,e⟩|⟨g,cap,cur,e,hc,h2,h3,_⟩
  ·omega
  ·cases e;exact h3
 obtain⟨B,cu,rfl⟩:=hu.slice
 have abp:n≤1073741824:=by unfold fi at hm;omega
 go_enter Tryz.func211,Tryz.ntmps211
 go_wp2_with (at_builtin;refine Lib.wpList_append_run _ rfl _ _ _ _ rfl _ _ rfl rfl _ _ dv ?_)
 all_goals go_ret
 all_goals first|exact⟨_,rfl,h4,h5,h6⟩|(subst_vars;exact⟨_,rfl,h4,h5,h6⟩)
set_option maxHeartbeats 4000000 in
set_option maxRecDepth 100000 in
theorem FB(w:World)(g c g2 c2 n i:Nat)(xs ys:List Value)(cur da:Array Value)(hg:w.heap[g]? = some (.cells cur 118 (0,0)))(jm:cur.size=c*4)(iP:cur.toList.take (n*4)=xs)(xe:xs.length=n*4)
  (tj:w.heap[g2]? = some (.cells da 118 (0,0))) (qu:da.size=c2*4) (ux:0<c2) (kz:da.toList.take (1*4)=ys) (D7:ys.length=1*4) (br:g2≠g) (hi:i<n) (iO:n+1≤c) (hc:c≤maxLen)
  (h1:∀q∈xs,q.oneCell'=true) (h2:∀q∈ys,q.oneCell'=true) :
  Calls Tryz.prog 211 #[.slice (some ⟨g,0,none⟩) n c,.int .i64 i,.slice (some ⟨g2,0,none⟩) 1 c2] w fun en w'=>en=.returned (.slice (some ⟨g,0,none⟩) (n+1) c) ∧
   ∃dd:Array Value,w'.heap[g]? = some (.cells dd 118 (0,0))∧dd.size=cur.size∧dd.toList.take ((n+1)*4)=xs.take (i*4)++(ys++xs.drop (i*4))∧w.grownBy w' (some g):=by
 have ht:Tryz.prog.underlying 39=some (.slice 118):=by kernel_rfl
 have hz:(Tryz.prog.info? 118).map (·.size)=some 4:=by kernel_rfl
 have wb:∀w,(Go.sizeOf 118).run Tryz.prog w=.ok 4 w:=fun w=>by
  cases hq:Tryz.prog.info? 118 with
  |none=>rw[hq]at hz;cases hz
  |some i=>rw[hq]at hz;simp at hz;simp[sizeOf,typeInfo,hq,hz]
 have TJ:∀a2 lb cb,(callFunc 228 #[.slice (some ⟨g2,0,none⟩) 1 c2,.slice (some ⟨g,a2,none⟩) lb cb]).run Tryz.prog w=.ok (.value (.bool false)) w:=fun a2 lb cb=>by
  rw[run_callFunc_extern Tryz.func228 (by kernel_rfl) (by kernel_rfl) (by kernel_rfl) (e:=Extern.SlicesOverlaps.overlaps #[39,39] #[4]) (by kernel_rfl),
   Lib.run_overlaps_apart w 39 4 118 ht 4 wb ⟨g2,0,none⟩ ⟨g,a2,none⟩ 1 c2 lb cb br 118 118 da.size cur.size (by simp[World.shape?,tj]) (by simp[World.shape?,hg]) (by omega) (by simp[World.frozen?,tj]) (by simp[World.frozen?,tj])]
  rfl
 have C1:=gm (size:=4) (n:=1) tj kz 0
 have rO:=gm (size:=4) (n:=n) hg iP (i*4)
 have h63:c≤9223372036854775807:=by unfold maxLen at hc;omega
 have hn5:n*4≤cur.size:=by omega
 obtain⟨cur1,fg⟩:∃cur1:Array Value,cur1=(cur.toList.take ((i+1)*4)++xs.drop (i*4)++cur.toList.drop ((i+1)*4+(xs.drop (i*4)).length)).toArray:=⟨_,rfl⟩
 have yG:(xs.drop (i*4)).length=(n-i)*4:=by rw[List.length_drop,xe];omega
 have Rr:∀(W:World),W.heap=w.heap→∀ty dc sc,(Builtin.copy_ #[39,39] ty #[.slice (some ⟨g,(i+1)*4,none⟩) (n-i) dc,.slice (some ⟨g,i*4,none⟩) (n+1-i) sc]).run Tryz.prog W=.ok (goInt (n-i:Nat)) (W.setRow g cur1):=fun W hW ty dc sc=>by
  have:=cg (P:=Tryz.prog) W 39 39 ty 118 4 g ((i+1)*4) (n-i) dc ⟨g,i*4,none⟩ (n+1-i) sc cur 118 (xs.drop (i*4)) ht hz (by rw[hW];exact hg) (by rw[yG];simp only[Nat.min_def];split<;>omega)
   (fun j v hj=>by have:=rO j v hj;simpa only[World.cell?,hW] using this) (by omega) (fun q hq=>h1 q (List.mem_of_mem_drop hq))
  rw[this,fg]
  congr 2
  simp only[Nat.min_def];split<;>omega
 have Fa:cur1.size=cur.size:=by rw[fg];simp;omega
 obtain⟨cur3,mW⟩:∃cur3:Array Value,cur3=(cur1.toList.take (i*4)++ys++cur1.toList.drop (i*4+ys.length)).toArray:=⟨_,rfl⟩
 have Rs:∀(W:World),W.heap[g]? = some (.cells cur1 118 (0,0))→W.heap[g2]? = w.heap[g2]?→∀ty dc sc,(Builtin.copy_ #[39,39] ty #[.slice (some ⟨g,i*4,none⟩) (n+1-i) dc,.slice (some ⟨g2,0,none⟩) 1 sc]).run Tryz.prog W=.ok (goInt 1) (W.setRow g cur3):=fun W hW hW2 ty dc sc=>by
  have:=cg (P:=Tryz.prog) W 39 39 ty 118 4 g (i*4) (n+1-i) dc ⟨g2,0,none⟩ 1 sc cur1 118 ys ht hz hW (by rw[D7];simp only[Nat.min_def];split<;>omega)
   (fun j v hj=>by have:=C1 j v (by simpa using hj);simpa only[World.cell?,cy,hW2] using this) (by omega) h2
  rw[this,mW]
  congr 2
  simp only[Nat.min_def];split<;>omega
 have J4:IntKind.i64.wrap ((i:Int)+1)=(i:Int)+1:=by rw[IntKind.wrap_i64];omega
 have Uu:IntKind.i64.wrap ((n:Int)+1)=(n:Int)+1:=by rw[IntKind.wrap_i64];omega
 have NG:(0:Int)≤(i:Int)+1:=by omega
 have my:i≤n:=by omega
 have NH:((i:Int)+1).toNat=i+1:=by omega
 have zr:¬(c=i+1):=by omega
 have Wm:(i:Int)≤(n:Int)+1:=by omega
 have hb4:¬(c=i):=by omega
 have CR:¬((i:Int)=(n:Int)):=by omega
 have Jg:¬((c:Int)<(n:Int)+1):=by omega
 have TK:cur3.size=cur.size:=by rw[mW];simp;omega
 have lf:cur3.toList.take ((n+1)*4)=xs.take (i*4)++(ys++xs.drop (i*4)):=BZ (sz:=4) (cur1:=cur1.toList) (cur3:=cur3.toList) iP (by simp;omega) (by rw[D7]) my (by rw[fg]) (by rw[mW])
 clear mW fg yG iP kz
 have HU:=Rs (w.drew.setRow g cur1) (setRow_heap w.drew g cur _ 118 _ hg) (_root_.Go.setRow_other w.drew g g2 _ br)
 have mixed:Tryz.prog.follows .mixedOrders=true:=by kernel_rfl
 go_enter Tryz.func211,Tryz.ntmps211
 go_wp2_with (simp only[TJ])
 go_region_law (go_loud (refine step_copy_runI rfl _ _ 39 39 rfl (.slice (some ⟨g,(i+1)*4,none⟩) (n-i) (c-(i+1))) (.slice (some ⟨g,i*4,none⟩) (n+1-i) (c-i)) (by simp[Act.eval,Act.put]) (by simp[Act.eval,Act.put]) (Rr w.drew rfl 3 (c-(i+1)) (c-i)) ?_))
 go_wp2_with (simp only[HU])
 go_ret
 refine⟨rfl,cur3,setRow_heap _ g cur1 _ 118 _ (setRow_heap w.drew g cur _ 118 _ hg),TK,lf,⟨rfl,rfl,rfl,by simp[World.setRow],fun k hk NI=>?_⟩⟩
 have wc:k≠g:=fun e=>NI (by rw[e])
 rw[_root_.Go.setRow_other _ g k _ wc,_root_.Go.setRow_other _ g k _ wc];rfl
set_option maxHeartbeats 4000000 in
set_option maxRecDepth 100000 in
theorem H3(w:World)(g c g2 c2 n i:Nat)(xs ys:List Value)(cur da:Array Value)(hg:w.heap[g]? = some (.cells cur 118 (0,0)))(jm:cur.size=c*4)(iP:cur.toList.take (n*4)=xs)(xe:xs.length=n*4)
  (tj:w.heap[g2]? = some (.cells da 118 (0,0))) (qu:da.size=c2*4) (ux:0<c2) (kz:da.toList.take (1*4)=ys) (D7:ys.length=1*4) (br:g2≠g) (hi:i<n) (CY:n≤c) (iO:c<n+1) (hm:n+1≤fi)
  (h1:∀q∈xs,q.oneCell'=true) (h2:∀q∈ys,q.oneCell'=true) :
  Calls Tryz.prog 211 #[.slice (some ⟨g,0,none⟩) n c,.int .i64 i,.slice (some ⟨g2,0,none⟩) 1 c2] w fun en w'=>∃G,en=.returned (.slice (some ⟨w.heap.size,0,none⟩) (n+1) G) ∧
   ∃dd:Array Value,w'.heap[w.heap.size]? = some (.cells dd 118 (0,0))∧dd.size=G*4∧n+1≤G∧G≤maxLen∧dd.toList.take ((n+1)*4)=xs.take (i*4)++(ys++xs.drop (i*4))∧w.grownBy w' (some g):=by
 have ht:Tryz.prog.underlying 39=some (.slice 118):=by kernel_rfl
 have NH:Tryz.prog.underlying 3=some (.int .i64):=by kernel_rfl
 have hz:(Tryz.prog.info? 118).map (·.size)=some 4:=by kernel_rfl
 obtain⟨i0,z0,he⟩:=cr (P:=Tryz.prog) (e:=118) (k:=.pair (.pair (.int .i64) (.int .i64)) (.pair .str (.int .i64))) (by kernel_rfl)
 have Gi:z0.cells.size=4:=he.qP
 have wb:i0.size=4:=he.size
 have B2:=he.bytes
 have C1:=gm (size:=4) (n:=1) tj kz 0
 have rO:=gm (size:=4) (n:=n) hg iP (i*4)
 have HW:=gm (size:=4) (n:=n) hg iP 0
 have TL:g<w.heap.size:=(Array.getElem?_eq_some_iff.1 hg).1
 have Rt:g2<w.heap.size:=(Array.getElem?_eq_some_iff.1 tj).1
 unfold fi at hm
 have iw:(n+1)*i0.bytes≤140737488355328:=Nat.le_trans (Nat.mul_le_mul hm B2) (by decide)
 have hold:(Builtin.firstCells i0.size i (.slice (some ⟨g,0,none⟩) i c)).run Tryz.prog w.drew=.ok (xs.take (i*4)).toArray w.drew:=by
  rw[wb]
  exact run_firstCells_some w.drew 4 i ⟨g,0,none⟩ i c (xs.take (i*4)) (by rw[List.length_take];omega) (fun j v hj=>by
   rw[List.getElem?_take]at hj
   split at hj
   ·exact HW j v hj
   ·cases hj)
 obtain⟨G,hG⟩:∃G,G=grownCap w (n+1) c 118:=⟨_,rfl⟩
 obtain⟨gq,mF⟩:∃gq:Array Value,gq=(xs.take (i*4)).toArray++Builtin.zeroCells z0.cells (n+1-i)++Builtin.zeroCells z0.cells (G-(n+1)):=⟨_,rfl⟩
 have P6:i+(n+1-i)=n+1:=by omega
 have OU:∀ty,(Builtin.append_ #[39,3] ty #[.slice (some ⟨g,0,none⟩) i c,.int .i64 ((n:Int)+1-(i:Int))]).run Tryz.prog w=.ok (.slice (some ⟨w.heap.size,0,none⟩) (n+1) G) (w.drew.alloc (.cells gq 118)):=fun ty=>by
  have h:=Lib.run_append_grow_zeros w 39 3 ty 118 i0 z0 .i64 .i64 ht NH he.info he.zero (some ⟨g,0,none⟩) i c (xs.take (i*4)) hold (n+1-i) (by omega) (by omega) (by omega) (by omega)
   (Nat.le_trans (Nat.mul_le_mul_right _ (show n+1-i≤n+1 by omega)) (by omega)) (by rw[P6];exact growslice_fits iO iw)
  rw[P6]at h
  rw[show(n:Int)+1-(i:Int)=((n+1-i:Nat):Int) by omega,mF,hG]
  exact h
 have XG:n+1≤G:=by rw[hG];exact grownCap_ge w _ _ _
 have Fz:G≤9223372036854775807:=by
  have:=grownCap_le_maxLen w (n+1) c 118 (by unfold maxLen;omega)
  rw[←hG]at this
  unfold maxLen at this
  omega
 have Y4:gq.size=G*4:=by
  rw[mF]
  simp[Builtin.zeroCells,Gi,List.length_take,xe]
  rw[Nat.min_eq_left (by omega)];omega
 have Wn:gq.toList.take (i*4)=xs.take (i*4):=by
  rw[mF]
  simp only[Array.toList_append,List.append_assoc]
  exact List.take_left' (by rw[List.length_take];omega)
 obtain⟨W1,lu⟩:∃W1,W1=w.drew.alloc (.cells gq 118):=⟨_,rfl⟩
 have oC:W1.heap[w.heap.size]? = some (.cells gq 118 (0,0)):=by rw[lu];exact(MapKept.heap_alloc w.drew (.cells gq 118)).1
 have qv:∀b,b<w.heap.size→W1.heap[b]? = w.heap[b]? := fun b hb=>by rw[lu];exact(Below.heap_alloc w.drew (.cells gq 118) b hb).trans rfl
 have qw:w.grownBy W1 none:=⟨by rw[lu];rfl,by rw[lu];rfl,by rw[lu];rfl,by have:=(Array.getElem?_eq_some_iff.1 oC).1;omega,fun k hk _=>qv k hk⟩
 obtain⟨row2,mX⟩:∃row2:Array Value,row2=(gq.toList.take (i*4)++ys++gq.toList.drop (i*4+ys.length)).toArray:=⟨_,rfl⟩
 have Lt:row2.size=gq.size:=by rw[mX];simp;omega
 have Ru:∀(W:World),W.heap=W1.heap→∀ty dc sc,(Builtin.copy_ #[39,39] ty #[.slice (some ⟨w.heap.size,i*4,none⟩) (n+1-i) dc,.slice (some ⟨g2,0,none⟩) 1 sc]).run Tryz.prog W=.ok (goInt 1) (W.setRow w.heap.size row2):=fun W hW ty dc sc=>by
  have:=cg (P:=Tryz.prog) W 39 39 ty 118 4 w.heap.size (i*4) (n+1-i) dc ⟨g2,0,none⟩ 1 sc gq 118 ys ht hz (by rw[hW];exact oC) (by rw[D7];simp only[Nat.min_def];split<;>omega)
   (fun j v hj=>by have:=C1 j v (by simpa using hj);simpa only[World.cell?,cy,hW,qv g2 Rt] using this) (by omega) h2
  rw[this,mX]
  congr 2
  simp only[Nat.min_def];split<;>omega
 obtain⟨row3,mY⟩:∃row3:Array Value,row3=(row2.toList.take ((i+1)*4)++xs.drop (i*4)++row2.toList.drop ((i+1)*4+(xs.drop (i*4)).length)).toArray:=⟨_,rfl⟩
 have yG:(xs.drop (i*4)).length=(n-i)*4:=by rw[List.length_drop,xe];omega
 have TK:row3.size=gq.size:=by rw[mY];simp;omega
 have Rv:∀(W:World),W.heap=(W1.setRow w.heap.size row2).heap→∀ty dc sc,(Builtin.copy_ #[39,39] ty #[.slice (some ⟨w.heap.size,(i+1)*4,none⟩) (n-i) dc,.slice (some ⟨g,i*4,none⟩) (n-i) sc]).run Tryz.prog W=.ok (goInt (n-i:Nat)) (W.setRow w.heap.size row3):=fun W hW ty dc sc=>by
  have:=cg (P:=Tryz.prog) W 39 39 ty 118 4 w.heap.size ((i+1)*4) (n-i) dc ⟨g,i*4,none⟩ (n-i) sc row2 118 (xs.drop (i*4)) ht hz (by rw[hW];exact setRow_heap W1 w.heap.size gq _ 118 _ oC) (by rw[yG];simp only[Nat.min_def];split<;>omega)
   (fun j v hj=>by have:=rO j v hj;simpa only[World.cell?,cy,hW,_root_.Go.setRow_other W1 w.heap.size g _ (Nat.ne_of_lt TL),qv g TL] using this) (by omega) (fun q hq=>h1 q (List.mem_of_mem_drop hq))
  rw[this,mY]
  congr 2
  simp only[Nat.min_def];split<;>omega
 have lf:row3.toList.take ((n+1)*4)=xs.take (i*4)++(ys++xs.drop (i*4)):=xf (sz:=4) (row:=gq.toList) (row2:=row2.toList) (row3:=row3.toList) Wn (by simp;omega) xe (by rw[D7]) (by omega) (by rw[mX]) (by rw[mY])
 clear mY mX mF yG iP kz Wn HW hold hG
 have J4:IntKind.i64.wrap ((i:Int)+1)=(i:Int)+1:=by rw[IntKind.wrap_i64];omega
 have Uu:IntKind.i64.wrap ((n:Int)+1)=(n:Int)+1:=by rw[IntKind.wrap_i64];omega
 have hw3:IntKind.i64.wrap ((n:Int)+1-(i:Int))=(n:Int)+1-(i:Int):=by rw[IntKind.wrap_i64];omega
 have NG:(0:Int)≤(i:Int)+1:=by omega
 have my:i≤n:=by omega
 have abt:((i:Int)+1).toNat=i+1:=by omega
 have hGi:¬(G=i):=by omega
 have abu:¬(G=i+1):=by omega
 have hci:¬(c=i):=by omega
 have Wm:(i:Int)≤(n:Int):=by omega
 have CR:¬((i:Int)=(n:Int)):=by omega
 have Jg:(c:Int)<(n:Int)+1:=by omega
 rw[←lu]at OU
 clear lu
 have mixed:Tryz.prog.follows .mixedOrders=true:=by kernel_rfl
 go_enter Tryz.func211,Tryz.ntmps211
 go_wp2_with (first
  |(at_builtin;refine Lib.wpList_append_run _ rfl _ _ _ _ rfl _ _ rfl rfl _ _ (OU _) ?_)
  |(at_builtin;refine wpList_copy_runI _ rfl _ _ 39 39 rfl _ _ rfl rfl (Ru _ (by rfl) _ _ _) ?_))
 go_region_law (go_loud (refine step_copy_runI rfl _ _ 39 39 rfl (.slice (some ⟨w.heap.size,(i+1)*4,none⟩) (n-i) (G-(i+1))) (.slice (some ⟨g,i*4,none⟩) (n-i) (c-i)) (by simp[Act.eval,Act.put]) (by simp[Act.eval,Act.put]) (Rv (W1.setRow w.heap.size row2).drew rfl 3 (G-(i+1)) (c-i)) ?_))
 go_wp2
 go_ret
 refine⟨G,rfl,row3,setRow_heap _ w.heap.size row2 _ 118 _ (setRow_heap W1 w.heap.size gq _ 118 _ oC),by omega,XG,Fz,lf,⟨qw.os,qw.tape,qw.output,by have:=qw.size;simpa[World.setRow] using this,fun k hk _=>?_⟩⟩
 rw[_root_.Go.setRow_other _ w.heap.size k _ (Nat.ne_of_lt hk)]
 exact(_root_.Go.setRow_other W1 w.heap.size k _ (Nat.ne_of_lt hk)).trans (qv k hk)
theorem XJ:Fx Tryz.prog 211 118 4:=fun w v u n i xs ys hv hu hi hm NJ h1 h2=>by
 by_cases he:i=n
 ·subst he
  refine(Kn w v u i xs ys hv hu hm h2).mono fun en w' ⟨v',e1,e2,e3,e4⟩=>⟨v',e1,?_,e3,e4⟩
  have hl:=hv.1
  rw[List.take_of_length_le (by omega),List.drop_eq_nil_of_le (by omega),List.append_nil]
  exact e2
 ·have my:i<n:=by omega
  rcases hv.2 with⟨h0,_⟩|⟨g,c,cur,rfl,OV,hg,CY,FA,jm,iP⟩
  ·omega
  rcases hu.2 with⟨h0,_⟩|⟨g2,c2,da,rfl,HX,tj,_,_,qu,kz⟩
  ·omega
  have jE:ob (.slice (some ⟨g,0,none⟩) n c)=some g:=by simp only[ob];rw[if_neg (by omega)]
  have Rx:ob (.slice (some ⟨g2,0,none⟩) 1 c2)=some g2:=by simp only[ob];rw[if_neg (by omega)]
  have br:g2≠g:=fun e=>NJ g jE (by rw[Rx,e])
  by_cases iO:n+1≤c
  ·refine(FB w g c g2 c2 n i xs ys cur da hg jm iP hv.1 tj qu HX kz hu.1 br my iO FA h1 h2).mono fun en w' ⟨e1,dd,e2,e3,e4,e5⟩=>?_
   refine⟨_,e1,⟨?_,.inr ⟨g,c,dd,rfl,OV,e2,iO,FA,by rw[e3,jm],e4⟩⟩,by rw[jE];exact e5,.inl ?_⟩
   ·have hl:=hv.1;have wy:=hu.1
    simp only[List.length_append,List.length_take,List.length_drop];omega
   ·rw[jE];simp only[ob];rw[if_neg (by omega)]
  ·refine(H3 w g c g2 c2 n i xs ys cur da hg jm iP hv.1 tj qu HX kz hu.1 br my CY (by omega) hm h1 h2).mono fun en w' ⟨G,e1,dd,e2,e3,e4,e5,e6,e7⟩=>?_
   refine⟨_,e1,⟨?_,.inr ⟨w.heap.size,G,dd,rfl,by omega,e2,e4,e5,e3,e6⟩⟩,by rw[jE];exact e7,.inr fun b hb=>?_⟩
   ·have hl:=hv.1;have wy:=hu.1
    simp only[List.length_append,List.length_take,List.length_drop];omega
   ·simp only[ob]at hb;rw[if_neg (by omega)]at hb;cases hb;omega
set_option maxHeartbeats 4000000 in
set_option maxRecDepth 100000 in
theorem H4(w:World)(g c n i j X:Nat)(xs:List Value)(cur:Array Value)(hg:w.heap[g]? = some (.cells cur 118 (0,0)))(jm:cur.size=c*4)(iP:cur.toList.take (n*4)=xs)(xe:xs.length=n*4)
  (zq:i<j) (OL:j≤n) (CY:n≤c) (hc:c≤maxLen) (hX:if c=j then X=0 else X=j*4)
  (h1:∀q∈xs,q.oneCell'=true) :
  Calls Tryz.prog 186 #[.slice (some ⟨g,0,none⟩) n c,.int .i64 i,.int .i64 j] w fun en w'=>en=.returned (.slice (some ⟨g,0,none⟩) (i+(n-j)) c) ∧
   ∃dd:Array Value,w'.heap[g]? = some (.cells dd 118 (0,0))∧dd.size=cur.size∧dd.toList.take ((i+(n-j))*4)=xs.take (i*4)++xs.drop (j*4)∧w.grownBy w' (some g):=by
 have ht:Tryz.prog.underlying 39=some (.slice 118):=by kernel_rfl
 have hz:(Tryz.prog.info? 118).map (·.size)=some 4:=by kernel_rfl
 obtain⟨zs,wb⟩:∃zs,Ae Tryz.prog 118=some zs:=Option.isSome_iff_exists.1 (by kernel_rfl)
 obtain⟨i0,z0,Uv,T0,rfl,xX⟩:=o6 wb
 obtain⟨i1,z1,he⟩:=cr (P:=Tryz.prog) (e:=118) (k:=.pair (.pair (.int .i64) (.int .i64)) (.pair .str (.int .i64))) (by kernel_rfl)
 have ei:i1=i0:=by have:=he.info;rw[Uv]at this;cases this;rfl
 subst ei
 have ez:z1=z0:=by have:=he.zero;rw[T0]at this;cases this;rfl
 subst ez
 have Gi:z1.cells.size=4:=he.qP
 clear he wb
 have yG:(xs.drop (j*4)).length=(n-j)*4:=by rw[List.length_drop,xe];omega
 obtain⟨cur1,fg⟩:∃cur1:Array Value,cur1=(cur.toList.take (i*4)++xs.drop (j*4)++cur.toList.drop (i*4+(xs.drop (j*4)).length)).toArray:=⟨_,rfl⟩
 have Fa:cur1.size=cur.size:=by rw[fg];simp;omega
 have NJ:∀ty sc,(Builtin.append_ #[39,39] ty #[.slice (some ⟨g,0,none⟩) i c,.slice (some ⟨g,X,none⟩) (n-j) sc]).run Tryz.prog w.drew=.ok (.slice (some ⟨g,0,none⟩) (i+(n-j)) c) (w.drew.setRow g cur1):=fun ty sc=>by
  by_cases NK:c=j
  ·have hnj:n=j:=by omega
   have:n-j=0:=by omega
   rw[this]at yG ⊢
   have Gz:xs.drop (j*4)=[]:=List.eq_nil_of_length_eq_zero (by omega)
   rw[fk ht Uv _ _ _ (by omega) _ _,fg,Gz]
   simp only[List.append_nil,List.length_nil,Nat.add_zero,List.take_append_drop,Array.toArray_toList]
   rw[setRow_self w.drew g cur 118 (0,0) hg]
  ·rw[if_neg NK]at hX
   subst hX
   rw[fg]
   exact oz (P:=Tryz.prog) w.drew 39 ty 118 4 g i c ⟨g,j*4,none⟩ (n-j) sc cur (xs.drop (j*4)) ht hz hg yG (gm (size:=4) (n:=n) (w:=w.drew) hg iP (j*4)) (fun q hq=>h1 q (List.mem_of_mem_drop hq)) (by omega) (by omega)
 obtain⟨da,vE⟩:∃da:Array Value,da=(cur1.toList.take ((i+(n-j))*4)++(Builtin.zeroCells z1.cells (j-i)).toList++cur1.toList.drop ((i+(n-j))*4+(Builtin.zeroCells z1.cells (j-i)).toList.length)).toArray:=⟨_,rfl⟩
 have Y5:(Builtin.zeroCells z1.cells (j-i)).toList.length=(j-i)*4:=by simp[Builtin.zeroCells,Gi]
 have Lt:da.size=cur.size:=by rw[vE];simp[Y5];omega
 have tG:∀ty sc,(Builtin.clear_ #[39] ty #[.slice (some ⟨g,(i+(n-j))*4,none⟩) (n-(i+(n-j))) sc]).run Tryz.prog (w.drew.setRow g cur1)=.ok (.tuple #[]) ((w.drew.setRow g cur1).setRow g da):=fun ty sc=>by
  have:=rm (P:=Tryz.prog) (w.drew.setRow g cur1) 39 ty 118 4 g ((i+(n-j))*4) (j-i) sc cur1 i1 z1 ht Uv T0 Gi xX (setRow_heap w.drew g cur _ 118 _ hg) (by omega) (by omega)
  rw[show n-(i+(n-j))=j-i by omega,this,vE]
 have lf:da.toList.take ((i+(n-j))*4)=xs.take (i*4)++xs.drop (j*4):=HY (cur1:=cur1.toList) iP (by simp;omega) (by omega) OL (by rw[fg]) (by rw[vE])
 clear fg vE iP yG
 have h63:c≤9223372036854775807:=by unfold maxLen at hc;omega
 have my:i≤n:=by omega
 have hic:¬(c=i):=by omega
 have hjc:j≤c:=by omega
 have br:¬((i:Int)=(j:Int)):=by omega
 have nE:i≤j:=by omega
 have agn:i≤c:=by omega
 have ago:i+(n-j)≤n:=by omega
 have agp:i+(n-j)≤c:=by omega
 have agq:¬(c=i+(n-j)):=by omega
 have agr:(i:Int)+((n-j:Nat):Int)≤(n:Int):=by omega
 have mixed:Tryz.prog.follows .mixedOrders=true:=by kernel_rfl
 by_cases NK:c=j
 ·rw[if_pos NK]at hX
  subst hX
  subst NK
  obtain rfl:n=c:=by omega
  simp only[Nat.sub_self,Nat.add_zero]at NJ tG lf ⊢
  go_enter Tryz.func186,Tryz.ntmps186
  go_wp2_with fail
  go_region_law (go_loud (refine ij rfl _ _ 39 39 rfl (.slice (some ⟨g,0,none⟩) i n) (.slice (some ⟨g,0,none⟩) 0 0) (by simp[Act.eval,Act.put]) (by simp[Act.eval,Act.put]) (NJ 39 0) ?_))
  go_wp2_with (simp only[tG])
  go_ret
  refine⟨rfl,da,setRow_heap _ g cur1 _ 118 _ (setRow_heap w.drew g cur _ 118 _ hg),Lt,lf,⟨rfl,rfl,rfl,by simp[World.setRow],fun k hk NI=>?_⟩⟩
  have wc:k≠g:=fun e=>NI (by rw[e])
  rw[_root_.Go.setRow_other _ g k _ wc,_root_.Go.setRow_other _ g k _ wc];rfl
 ·rw[if_neg NK]at hX
  subst hX
  go_enter Tryz.func186,Tryz.ntmps186
  go_wp2_with fail
  go_region_law (go_loud (refine ij rfl _ _ 39 39 rfl (.slice (some ⟨g,0,none⟩) i c) (.slice (some ⟨g,j*4,none⟩) (n-j) (c-j)) (by simp[Act.eval,Act.put]) (by simp[Act.eval,Act.put]) (NJ 39 (c-j)) ?_))
  go_wp2_with (simp only[tG])
  go_ret
  refine⟨rfl,da,setRow_heap _ g cur1 _ 118 _ (setRow_heap w.drew g cur _ 118 _ hg),Lt,lf,⟨rfl,rfl,rfl,by simp[World.setRow],fun k hk NI=>?_⟩⟩
  have wc:k≠g:=fun e=>NI (by rw[e])
  rw[_root_.Go.setRow_other _ g k _ wc,_root_.Go.setRow_other _ g k _ wc];rfl
theorem XK:Km Tryz.prog 186 118 4:=fun w v n i j xs hv zq OL hm h1=>by
 rcases hv.2 with⟨h0,_⟩|⟨g,c,cur,rfl,OV,hg,CY,FA,jm,iP⟩
 ·omega
 have jE:ob (.slice (some ⟨g,0,none⟩) n c)=some g:=by simp only[ob];rw[if_neg (by omega)]
 refine(H4 w g c n i j (if c=j then 0 else j*4) xs cur hg jm iP hv.1 zq OL CY FA (by split<;>rfl) h1).mono fun en w' ⟨e1,dd,e2,e3,e4,e5⟩=>?_
 refine⟨_,e1,⟨?_,.inr ⟨g,c,dd,rfl,OV,e2,by omega,FA,by rw[e3,jm],e4⟩⟩,by rw[jE];exact e5,?_⟩
 ·have hl:=hv.1
  simp only[List.length_append,List.length_take,List.length_drop];omega
 ·rw[jE];simp only[ob];rw[if_neg (by omega)]
end Go.Vs
namespace Go.Vs
open Go.Proofs Go.RowKit
set_option maxHeartbeats 4000000 in
set_option maxRecDepth 100000 in
theorem Ko(w:World)(v u:Value)(n:Nat)(xs ys:List Value)(hv:dC w 54 6 v n xs)(hu:dC w 54 6 u 1 ys)(hm:n+1≤fi)(h1:∀q∈ys,q.oneCell'=true) :
  Calls Tryz.prog 233 #[v,.int .i64 n,u] w fun en w'=>∃v',en=.returned v'∧dC w' 54 6 v' (n+1) (xs++ys)∧w.grownBy w' (ob v)∧(ob v'=ob v∨∀b,ob v'=some b→w.heap.size≤b):=by
 have ht:Tryz.prog.underlying 42=some (.slice 54):=by kernel_rfl
 obtain⟨i0,z0,he⟩:=cr (P:=Tryz.prog) (e:=54) (k:=.pair (.pair (.pair (.int .i64) (.int .i64)) (.int .i64)) (.pair (.pair (.int .i64) (.int .i64)) (.int .i64))) (by kernel_rfl)
 have wx:MO w 6 u 1 ys:=by
  refine⟨hu.1,h1,.inr ?_⟩
  rcases hu.2 with⟨h0,_⟩|⟨g,cap,cur,rfl,_,hg,_,_,hc,iP⟩
  ·cases h0
  ·refine⟨_,_,rfl,fun j q hj=>?_⟩
   rw[cp,Nat.zero_add]
   rw[←iP,List.getElem?_take]at hj
   split at hj
   ·simp[World.cell?,hg];simpa using hj
   ·cases hj
 obtain⟨v',w',dv,h4,h5,h6⟩:=dI (P:=Tryz.prog) (ty:=42) ht he hv wx hm
 obtain⟨A,c,rfl⟩:=hv.slice
 have CY:n≤c:=by
  rcases hv.2 with⟨h0,A,e⟩|⟨g,cap,cur,e,hc,h2,h3,_⟩
  ·omega
  ·cases e;exact h3
 obtain⟨B,cu,rfl⟩:=hu.slice
 have abp:n≤1073741824:=by unfold fi at hm;omega
 go_enter Tryz.func233,Tryz.ntmps233
 go_wp2_with (at_builtin;refine Lib.wpList_append_run _ rfl _ _ _ _ rfl _ _ rfl rfl _ _ dv ?_)
 all_goals go_ret
 all_goals first|exact⟨_,rfl,h4,h5,h6⟩|(subst_vars;exact⟨_,rfl,h4,h5,h6⟩)
set_option maxHeartbeats 4000000 in
set_option maxRecDepth 100000 in
theorem FC(w:World)(g c g2 c2 n i:Nat)(xs ys:List Value)(cur da:Array Value)(hg:w.heap[g]? = some (.cells cur 54 (0,0)))(jm:cur.size=c*6)(iP:cur.toList.take (n*6)=xs)(xe:xs.length=n*6)
  (tj:w.heap[g2]? = some (.cells da 54 (0,0))) (qu:da.size=c2*6) (ux:0<c2) (kz:da.toList.take (1*6)=ys) (D7:ys.length=1*6) (br:g2≠g) (hi:i<n) (iO:n+1≤c) (hc:c≤maxLen)
  (h1:∀q∈xs,q.oneCell'=true) (h2:∀q∈ys,q.oneCell'=true) :
  Calls Tryz.prog 233 #[.slice (some ⟨g,0,none⟩) n c,.int .i64 i,.slice (some ⟨g2,0,none⟩) 1 c2] w fun en w'=>en=.returned (.slice (some ⟨g,0,none⟩) (n+1) c) ∧
   ∃dd:Array Value,w'.heap[g]? = some (.cells dd 54 (0,0))∧dd.size=cur.size∧dd.toList.take ((n+1)*6)=xs.take (i*6)++(ys++xs.drop (i*6))∧w.grownBy w' (some g):=by
 have ht:Tryz.prog.underlying 42=some (.slice 54):=by kernel_rfl
 have hz:(Tryz.prog.info? 54).map (·.size)=some 6:=by kernel_rfl
 have wb:∀w,(Go.sizeOf 54).run Tryz.prog w=.ok 6 w:=fun w=>by
  cases hq:Tryz.prog.info? 54 with
  |none=>rw[hq]at hz;cases hz
  |some i=>rw[hq]at hz;simp at hz;simp[sizeOf,typeInfo,hq,hz]
 have TJ:∀a2 lb cb,(callFunc 246 #[.slice (some ⟨g2,0,none⟩) 1 c2,.slice (some ⟨g,a2,none⟩) lb cb]).run Tryz.prog w=.ok (.value (.bool false)) w:=fun a2 lb cb=>by
  rw[run_callFunc_extern Tryz.func246 (by kernel_rfl) (by kernel_rfl) (by kernel_rfl) (e:=Extern.SlicesOverlaps.overlaps #[42,42] #[4]) (by kernel_rfl),
   Lib.run_overlaps_apart w 42 4 54 ht 6 wb ⟨g2,0,none⟩ ⟨g,a2,none⟩ 1 c2 lb cb br 54 54 da.size cur.size (by simp[World.shape?,tj]) (by simp[World.shape?,hg]) (by omega) (by simp[World.frozen?,tj]) (by simp[World.frozen?,tj])]
  rfl
 have C1:=gm (size:=6) (n:=1) tj kz 0
 have rO:=gm (size:=6) (n:=n) hg iP (i*6)
 have h63:c≤9223372036854775807:=by unfold maxLen at hc;omega
 have hn5:n*6≤cur.size:=by omega
 obtain⟨cur1,fg⟩:∃cur1:Array Value,cur1=(cur.toList.take ((i+1)*6)++xs.drop (i*6)++cur.toList.drop ((i+1)*6+(xs.drop (i*6)).length)).toArray:=⟨_,rfl⟩
 have yG:(xs.drop (i*6)).length=(n-i)*6:=by rw[List.length_drop,xe];omega
 have Rr:∀(W:World),W.heap=w.heap→∀ty dc sc,(Builtin.copy_ #[42,42] ty #[.slice (some ⟨g,(i+1)*6,none⟩) (n-i) dc,.slice (some ⟨g,i*6,none⟩) (n+1-i) sc]).run Tryz.prog W=.ok (goInt (n-i:Nat)) (W.setRow g cur1):=fun W hW ty dc sc=>by
  have:=cg (P:=Tryz.prog) W 42 42 ty 54 6 g ((i+1)*6) (n-i) dc ⟨g,i*6,none⟩ (n+1-i) sc cur 54 (xs.drop (i*6)) ht hz (by rw[hW];exact hg) (by rw[yG];simp only[Nat.min_def];split<;>omega)
   (fun j v hj=>by have:=rO j v hj;simpa only[World.cell?,hW] using this) (by omega) (fun q hq=>h1 q (List.mem_of_mem_drop hq))
  rw[this,fg]
  congr 2
  simp only[Nat.min_def];split<;>omega
 have Fa:cur1.size=cur.size:=by rw[fg];simp;omega
 obtain⟨cur3,mW⟩:∃cur3:Array Value,cur3=(cur1.toList.take (i*6)++ys++cur1.toList.drop (i*6+ys.length)).toArray:=⟨_,rfl⟩
 have Rs:∀(W:World),W.heap[g]? = some (.cells cur1 54 (0,0))→W.heap[g2]? = w.heap[g2]?→∀ty dc sc,(Builtin.copy_ #[42,42] ty #[.slice (some ⟨g,i*6,none⟩) (n+1-i) dc,.slice (some ⟨g2,0,none⟩) 1 sc]).run Tryz.prog W=.ok (goInt 1) (W.setRow g cur3):=fun W hW hW2 ty dc sc=>by
  have:=cg (P:=Tryz.prog) W 42 42 ty 54 6 g (i*6) (n+1-i) dc ⟨g2,0,none⟩ 1 sc cur1 54 ys ht hz hW (by rw[D7];simp only[Nat.min_def];split<;>omega)
   (fun j v hj=>by have:=C1 j v (by simpa using hj);simpa only[World.cell?,cy,hW2] using this) (by omega) h2
  rw[this,mW]
  congr 2
  simp only[Nat.min_def];split<;>omega
 have J4:IntKind.i64.wrap ((i:Int)+1)=(i:Int)+1:=by rw[IntKind.wrap_i64];omega
 have Uu:IntKind.i64.wrap ((n:Int)+1)=(n:Int)+1:=by rw[IntKind.wrap_i64];omega
 have NG:(0:Int)≤(i:Int)+1:=by omega
 have my:i≤n:=by omega
 have NH:((i:Int)+1).toNat=i+1:=by omega
 have zr:¬(c=i+1):=by omega
 have Wm:(i:Int)≤(n:Int)+1:=by omega
 have hb4:¬(c=i):=by omega
 have CR:¬((i:Int)=(n:Int)):=by omega
 have Jg:¬((c:Int)<(n:Int)+1):=by omega
 have TK:cur3.size=cur.size:=by rw[mW];simp;omega
 have lf:cur3.toList.take ((n+1)*6)=xs.take (i*6)++(ys++xs.drop (i*6)):=BZ (sz:=6) (cur1:=cur1.toList) (cur3:=cur3.toList) iP (by simp;omega) (by rw[D7]) my (by rw[fg]) (by rw[mW])
 clear mW fg yG iP kz
 have HU:=Rs (w.drew.setRow g cur1) (setRow_heap w.drew g cur _ 54 _ hg) (_root_.Go.setRow_other w.drew g g2 _ br)
 have mixed:Tryz.prog.follows .mixedOrders=true:=by kernel_rfl
 go_enter Tryz.func233,Tryz.ntmps233
 go_wp2_with (simp only[TJ])
 go_region_law (go_loud (refine step_copy_runI rfl _ _ 42 42 rfl (.slice (some ⟨g,(i+1)*6,none⟩) (n-i) (c-(i+1))) (.slice (some ⟨g,i*6,none⟩) (n+1-i) (c-i)) (by simp[Act.eval,Act.put]) (by simp[Act.eval,Act.put]) (Rr w.drew rfl 3 (c-(i+1)) (c-i)) ?_))
 go_wp2_with (simp only[HU])
 go_ret
 refine⟨rfl,cur3,setRow_heap _ g cur1 _ 54 _ (setRow_heap w.drew g cur _ 54 _ hg),TK,lf,⟨rfl,rfl,rfl,by simp[World.setRow],fun k hk NI=>?_⟩⟩
 have wc:k≠g:=fun e=>NI (by rw[e])
 rw[_root_.Go.setRow_other _ g k _ wc,_root_.Go.setRow_other _ g k _ wc];rfl
set_option maxHeartbeats 4000000 in
set_option maxRecDepth 100000 in
theorem H5(w:World)(g c g2 c2 n i:Nat)(xs ys:List Value)(cur da:Array Value)(hg:w.heap[g]? = some (.cells cur 54 (0,0)))(jm:cur.size=c*6)(iP:cur.toList.take (n*6)=xs)(xe:xs.length=n*6)
  (tj:w.heap[g2]? = some (.cells da 54 (0,0))) (qu:da.size=c2*6) (ux:0<c2) (kz:da.toList.take (1*6)=ys) (D7:ys.length=1*6) (br:g2≠g) (hi:i<n) (CY:n≤c) (iO:c<n+1) (hm:n+1≤fi)
  (h1:∀q∈xs,q.oneCell'=true) (h2:∀q∈ys,q.oneCell'=true) :
  Calls Tryz.prog 233 #[.slice (some ⟨g,0,none⟩) n c,.int .i64 i,.slice (some ⟨g2,0,none⟩) 1 c2] w fun en w'=>∃G,en=.returned (.slice (some ⟨w.heap.size,0,none⟩) (n+1) G) ∧
   ∃dd:Array Value,w'.heap[w.heap.size]? = some (.cells dd 54 (0,0))∧dd.size=G*6∧n+1≤G∧G≤maxLen∧dd.toList.take ((n+1)*6)=xs.take (i*6)++(ys++xs.drop (i*6))∧w.grownBy w' (some g):=by
 have ht:Tryz.prog.underlying 42=some (.slice 54):=by kernel_rfl
 have NH:Tryz.prog.underlying 3=some (.int .i64):=by kernel_rfl
 have hz:(Tryz.prog.info? 54).map (·.size)=some 6:=by kernel_rfl
 obtain⟨i0,z0,he⟩:=cr (P:=Tryz.prog) (e:=54) (k:=.pair (.pair (.pair (.int .i64) (.int .i64)) (.int .i64)) (.pair (.pair (.int .i64) (.int .i64)) (.int .i64))) (by kernel_rfl)
 have Gi:z0.cells.size=6:=he.qP
 have wb:i0.size=6:=he.size
 have B2:=he.bytes
 have C1:=gm (size:=6) (n:=1) tj kz 0
 have rO:=gm (size:=6) (n:=n) hg iP (i*6)
 have HW:=gm (size:=6) (n:=n) hg iP 0
 have TL:g<w.heap.size:=(Array.getElem?_eq_some_iff.1 hg).1
 have Rt:g2<w.heap.size:=(Array.getElem?_eq_some_iff.1 tj).1
 unfold fi at hm
 have iw:(n+1)*i0.bytes≤140737488355328:=Nat.le_trans (Nat.mul_le_mul hm B2) (by decide)
 have hold:(Builtin.firstCells i0.size i (.slice (some ⟨g,0,none⟩) i c)).run Tryz.prog w.drew=.ok (xs.take (i*6)).toArray w.drew:=by
  rw[wb]
  exact run_firstCells_some w.drew 6 i ⟨g,0,none⟩ i c (xs.take (i*6)) (by rw[List.length_take];omega) (fun j v hj=>by
   rw[List.getElem?_take]at hj
   split at hj
   ·exact HW j v hj
   ·cases hj)
 obtain⟨G,hG⟩:∃G,G=grownCap w (n+1) c 54:=⟨_,rfl⟩
 obtain⟨gq,mF⟩:∃gq:Array Value,gq=(xs.take (i*6)).toArray++Builtin.zeroCells z0.cells (n+1-i)++Builtin.zeroCells z0.cells (G-(n+1)):=⟨_,rfl⟩
 have P6:i+(n+1-i)=n+1:=by omega
 have OU:∀ty,(Builtin.append_ #[42,3] ty #[.slice (some ⟨g,0,none⟩) i c,.int .i64 ((n:Int)+1-(i:Int))]).run Tryz.prog w=.ok (.slice (some ⟨w.heap.size,0,none⟩) (n+1) G) (w.drew.alloc (.cells gq 54)):=fun ty=>by
  have h:=Lib.run_append_grow_zeros w 42 3 ty 54 i0 z0 .i64 .i64 ht NH he.info he.zero (some ⟨g,0,none⟩) i c (xs.take (i*6)) hold (n+1-i) (by omega) (by omega) (by omega) (by omega)
   (Nat.le_trans (Nat.mul_le_mul_right _ (show n+1-i≤n+1 by omega)) (by omega)) (by rw[P6];exact growslice_fits iO iw)
  rw[P6]at h
  rw[show(n:Int)+1-(i:Int)=((n+1-i:Nat):Int) by omega,mF,hG]
  exact h
 have XG:n+1≤G:=by rw[hG];exact grownCap_ge w _ _ _
 have Fz:G≤9223372036854775807:=by
  have:=grownCap_le_maxLen w (n+1) c 54 (by unfold maxLen;omega)
  rw[←hG]at this
  unfold maxLen at this
  omega
 have Y4:gq.size=G*6:=by
  rw[mF]
  simp[Builtin.zeroCells,Gi,List.length_take,xe]
  rw[Nat.min_eq_left (by omega)];omega
 have Wn:gq.toList.take (i*6)=xs.take (i*6):=by
  rw[mF]
  simp only[Array.toList_append,List.append_assoc]
  exact List.take_left' (by rw[List.length_take];omega)
 obtain⟨W1,lu⟩:∃W1,W1=w.drew.alloc (.cells gq 54):=⟨_,rfl⟩
 have oC:W1.heap[w.heap.size]? = some (.cells gq 54 (0,0)):=by rw[lu];exact(MapKept.heap_alloc w.drew (.cells gq 54)).1
 have qv:∀b,b<w.heap.size→W1.heap[b]? = w.heap[b]? := fun b hb=>by rw[lu];exact(Below.heap_alloc w.drew (.cells gq 54) b hb).trans rfl
 have qw:w.grownBy W1 none:=⟨by rw[lu];rfl,by rw[lu];rfl,by rw[lu];rfl,by have:=(Array.getElem?_eq_some_iff.1 oC).1;omega,fun k hk _=>qv k hk⟩
 obtain⟨row2,mX⟩:∃row2:Array Value,row2=(gq.toList.take (i*6)++ys++gq.toList.drop (i*6+ys.length)).toArray:=⟨_,rfl⟩
 have Lt:row2.size=gq.size:=by rw[mX];simp;omega
 have Ru:∀(W:World),W.heap=W1.heap→∀ty dc sc,(Builtin.copy_ #[42,42] ty #[.slice (some ⟨w.heap.size,i*6,none⟩) (n+1-i) dc,.slice (some ⟨g2,0,none⟩) 1 sc]).run Tryz.prog W=.ok (goInt 1) (W.setRow w.heap.size row2):=fun W hW ty dc sc=>by
  have:=cg (P:=Tryz.prog) W 42 42 ty 54 6 w.heap.size (i*6) (n+1-i) dc ⟨g2,0,none⟩ 1 sc gq 54 ys ht hz (by rw[hW];exact oC) (by rw[D7];simp only[Nat.min_def];split<;>omega)
   (fun j v hj=>by have:=C1 j v (by simpa using hj);simpa only[World.cell?,cy,hW,qv g2 Rt] using this) (by omega) h2
  rw[this,mX]
  congr 2
  simp only[Nat.min_def];split<;>omega
 obtain⟨row3,mY⟩:∃row3:Array Value,row3=(row2.toList.take ((i+1)*6)++xs.drop (i*6)++row2.toList.drop ((i+1)*6+(xs.drop (i*6)).length)).toArray:=⟨_,rfl⟩
 have yG:(xs.drop (i*6)).length=(n-i)*6:=by rw[List.length_drop,xe];omega
 have TK:row3.size=gq.size:=by rw[mY];simp;omega
 have Rv:∀(W:World),W.heap=(W1.setRow w.heap.size row2).heap→∀ty dc sc,(Builtin.copy_ #[42,42] ty #[.slice (some ⟨w.heap.size,(i+1)*6,none⟩) (n-i) dc,.slice (some ⟨g,i*6,none⟩) (n-i) sc]).run Tryz.prog W=.ok (goInt (n-i:Nat)) (W.setRow w.heap.size row3):=fun W hW ty dc sc=>by
  have:=cg (P:=Tryz.prog) W 42 42 ty 54 6 w.heap.size ((i+1)*6) (n-i) dc ⟨g,i*6,none⟩ (n-i) sc row2 54 (xs.drop (i*6)) ht hz (by rw[hW];exact setRow_heap W1 w.heap.size gq _ 54 _ oC) (by rw[yG];simp only[Nat.min_def];split<;>omega)
   (fun j v hj=>by have:=rO j v hj;simpa only[World.cell?,cy,hW,_root_.Go.setRow_other W1 w.heap.size g _ (Nat.ne_of_lt TL),qv g TL] using this) (by omega) (fun q hq=>h1 q (List.mem_of_mem_drop hq))
  rw[this,mY]
  congr 2
  simp only[Nat.min_def];split<;>omega
 have lf:row3.toList.take ((n+1)*6)=xs.take (i*6)++(ys++xs.drop (i*6)):=xf (sz:=6) (row:=gq.toList) (row2:=row2.toList) (row3:=row3.toList) Wn (by simp;omega) xe (by rw[D7]) (by omega) (by rw[mX]) (by rw[mY])
 clear mY mX mF yG iP kz Wn HW hold hG
 have J4:IntKind.i64.wrap ((i:Int)+1)=(i:Int)+1:=by rw[IntKind.wrap_i64];omega
 have Uu:IntKind.i64.wrap ((n:Int)+1)=(n:Int)+1:=by rw[IntKind.wrap_i64];omega
 have hw3:IntKind.i64.wrap ((n:Int)+1-(i:Int))=(n:Int)+1-(i:Int):=by rw[IntKind.wrap_i64];omega
 have NG:(0:Int)≤(i:Int)+1:=by omega
 have my:i≤n:=by omega
 have abt:((i:Int)+1).toNat=i+1:=by omega
 have hGi:¬(G=i):=by omega
 have abu:¬(G=i+1):=by omega
 have hci:¬(c=i):=by omega
 have Wm:(i:Int)≤(n:Int):=by omega
 have CR:¬((i:Int)=(n:Int)):=by omega
 have Jg:(c:Int)<(n:Int)+1:=by omega
 rw[←lu]at OU
 clear lu
 have mixed:Tryz.prog.follows .mixedOrders=true:=by kernel_rfl
 go_enter Tryz.func233,Tryz.ntmps233
 go_wp2_with (first
  |(at_builtin;refine Lib.wpList_append_run _ rfl _ _ _ _ rfl _ _ rfl rfl _ _ (OU _) ?_)
  |(at_builtin;refine wpList_copy_runI _ rfl _ _ 42 42 rfl _ _ rfl rfl (Ru _ (by rfl) _ _ _) ?_))
 go_region_law (go_loud (refine step_copy_runI rfl _ _ 42 42 rfl (.slice (some ⟨w.heap.size,(i+1)*6,none⟩) (n-i) (G-(i+1))) (.slice (some ⟨g,i*6,none⟩) (n-i) (c-i)) (by simp[Act.eval,Act.put]) (by simp[Act.eval,Act.put]) (Rv (W1.setRow w.heap.size row2).drew rfl 3 (G-(i+1)) (c-i)) ?_))
 go_wp2
 go_ret
 refine⟨G,rfl,row3,setRow_heap _ w.heap.size row2 _ 54 _ (setRow_heap W1 w.heap.size gq _ 54 _ oC),by omega,XG,Fz,lf,⟨qw.os,qw.tape,qw.output,by have:=qw.size;simpa[World.setRow] using this,fun k hk _=>?_⟩⟩
 rw[_root_.Go.setRow_other _ w.heap.size k _ (Nat.ne_of_lt hk)]
 exact(_root_.Go.setRow_other W1 w.heap.size k _ (Nat.ne_of_lt hk)).trans (qv k hk)
theorem XL:Fx Tryz.prog 233 54 6:=fun w v u n i xs ys hv hu hi hm NJ h1 h2=>by
 by_cases he:i=n
 ·subst he
  refine(Ko w v u i xs ys hv hu hm h2).mono fun en w' ⟨v',e1,e2,e3,e4⟩=>⟨v',e1,?_,e3,e4⟩
  have hl:=hv.1
  rw[List.take_of_length_le (by omega),List.drop_eq_nil_of_le (by omega),List.append_nil]
  exact e2
 ·have my:i<n:=by omega
  rcases hv.2 with⟨h0,_⟩|⟨g,c,cur,rfl,OV,hg,CY,FA,jm,iP⟩
  ·omega
  rcases hu.2 with⟨h0,_⟩|⟨g2,c2,da,rfl,HX,tj,_,_,qu,kz⟩
  ·omega
  have jE:ob (.slice (some ⟨g,0,none⟩) n c)=some g:=by simp only[ob];rw[if_neg (by omega)]
  have Rx:ob (.slice (some ⟨g2,0,none⟩) 1 c2)=some g2:=by simp only[ob];rw[if_neg (by omega)]
  have br:g2≠g:=fun e=>NJ g jE (by rw[Rx,e])
  by_cases iO:n+1≤c
  ·refine(FC w g c g2 c2 n i xs ys cur da hg jm iP hv.1 tj qu HX kz hu.1 br my iO FA h1 h2).mono fun en w' ⟨e1,dd,e2,e3,e4,e5⟩=>?_
   refine⟨_,e1,⟨?_,.inr ⟨g,c,dd,rfl,OV,e2,iO,FA,by rw[e3,jm],e4⟩⟩,by rw[jE];exact e5,.inl ?_⟩
   ·have hl:=hv.1;have wy:=hu.1
    simp only[List.length_append,List.length_take,List.length_drop];omega
   ·rw[jE];simp only[ob];rw[if_neg (by omega)]
  ·refine(H5 w g c g2 c2 n i xs ys cur da hg jm iP hv.1 tj qu HX kz hu.1 br my CY (by omega) hm h1 h2).mono fun en w' ⟨G,e1,dd,e2,e3,e4,e5,e6,e7⟩=>?_
   refine⟨_,e1,⟨?_,.inr ⟨w.heap.size,G,dd,rfl,by omega,e2,e4,e5,e3,e6⟩⟩,by rw[jE];exact e7,.inr fun b hb=>?_⟩
   ·have hl:=hv.1;have wy:=hu.1
    simp only[List.length_append,List.length_take,List.length_drop];omega
   ·simp only[ob]at hb;rw[if_neg (by omega)]at hb;cases hb;omega
end Go.Vs
namespace Go.Vs
open Go.Proofs Go.RowKit
def FD(P:Program)(f:FuncId)(e:TypeId)(size:Nat):Prop :=
 ∀(w:World) (n:Nat),n≤fi→Calls P f #[.slice none 0 0,.int .i64 n] w fun en w'=>∃v',en=.returned v'∧dC w' e size v' 0 []∧w.grownBy w' none∧∀b,ob v'=some b→w.heap.size≤b
set_option maxHeartbeats 4000000 in
set_option maxRecDepth 100000 in
theorem Uw:FD Tryz.prog 220 33 3:=fun w n hm=>by
 have ht:Tryz.prog.underlying 50=some (.slice 33):=by kernel_rfl
 have NH:Tryz.prog.underlying 3=some (.int .i64):=by kernel_rfl
 obtain⟨i0,z0,he⟩:=cr (P:=Tryz.prog) (e:=33) (k:=.pair (.pair (.int .i64) (.int .i64)) (.int .i64)) (by kernel_rfl)
 have Gi:z0.cells.size=3:=he.qP
 have wb:i0.size=3:=he.size
 have B2:=he.bytes
 unfold fi at hm
 by_cases hn:n=0
 ·subst hn
  have jE:ob (.slice none 0 0)=none:=rfl
  go_enter Tryz.func220,Tryz.ntmps220
  go_wp2
  go_ret
  exact⟨_,rfl,⟨by simp,.inl ⟨rfl,none,rfl⟩⟩,World.grownBy.refl w _,fun b hb=>by simp[ob]at hb⟩
 ·have iw:n*i0.bytes≤281474976710656:=Nat.le_trans (Nat.mul_le_mul hm B2) (by decide)
  obtain⟨G,hG⟩:∃G,G=grownCap w n 0 33:=⟨_,rfl⟩
  obtain⟨gq,mF⟩:∃gq,gq=Builtin.zeroCells z0.cells n++Builtin.zeroCells z0.cells (G-n):=⟨_,rfl⟩
  obtain⟨W1,lu⟩:∃W1,W1=w.drew.alloc (.cells gq 33):=⟨_,rfl⟩
  have OU:∀ty,(Builtin.append_ #[50,3] ty #[.slice none 0 0,.int .i64 n]).run Tryz.prog w=.ok (.slice (some ⟨w.heap.size,0,none⟩) n G) W1:=fun ty=>by
   rw[lu,mF,hG]
   exact Lib.run_append_nil_zeros w 50 3 ty 33 i0 z0 .i64 .i64 ht NH he.info he.zero n (by omega) (by omega) (by omega) iw
  have XG:n≤G:=by rw[hG];exact grownCap_ge w _ _ _
  have Fz:G≤9223372036854775807:=by
   have:=grownCap_le_maxLen w n 0 33 (by unfold maxLen;omega)
   rw[←hG]at this
   unfold maxLen at this
   omega
  have Y4:gq.size=G*3:=by
   rw[mF]
   simp[Builtin.zeroCells,Gi]
   omega
  have oC:W1.heap[w.heap.size]? = some (.cells gq 33 (0,0)):=by rw[lu];exact(MapKept.heap_alloc w.drew (.cells gq 33)).1
  have qv:∀b,b<w.heap.size→W1.heap[b]? = w.heap[b]? := fun b hb=>by rw[lu];exact(Below.heap_alloc w.drew (.cells gq 33) b hb).trans rfl
  have qw:w.grownBy W1 none:=⟨by rw[lu];rfl,by rw[lu];rfl,by rw[lu];rfl,by have:=(Array.getElem?_eq_some_iff.1 oC).1;omega,fun k hk _=>qv k hk⟩
  clear mF lu hG
  have hn0:¬((n:Int)<0):=by omega
  have YV:0<(n:Int):=by omega
  have hn2:IntKind.i64.wrap (n:Int)=n:=by rw[IntKind.wrap_i64];omega
  have hG0:¬(G=0):=by omega
  go_enter Tryz.func220,Tryz.ntmps220
  go_wp2_with (at_builtin;refine Lib.wpList_append_run _ rfl _ _ _ _ rfl _ _ rfl rfl _ _ (OU _) ?_)
  go_ret
  refine⟨.slice (some ⟨w.heap.size,0,none⟩) 0 G,rfl,⟨by simp,.inr ⟨w.heap.size,G,gq,rfl,by omega,oC,by omega,Fz,Y4,by simp⟩⟩,qw,fun b hb=>?_⟩
  simp only[ob]at hb;rw[if_neg (by omega)]at hb;cases hb;omega
theorem yH{P:Program}{f:FuncId}{ty:TypeId}{k:K}(hr:FD P f ty k.sz):iz P f (Lj ty k):=by
 intro Z ψ h w B0 O N hh id e vs us g hB bC hN bu nL tH EX he
 unfold Lj at he
 split at he
 rotate_left
 ·cases he
 rename_i n
 simp only[Option.some.injEq,Prod.mk.injEq]at he
 obtain⟨mw,rfl⟩:=he
 simp only[qG,Bool.and_eq_true,decide_eq_true_eq]at mw
 obtain⟨h0,h1⟩:=mw
 obtain⟨m,rfl⟩:∃m:Nat,n=m:=⟨n.toNat,by omega⟩
 simp only[an,az]at tH
 obtain⟨v,_,rfl,rfl,u,_,rfl,rfl,rfl⟩:=tH
 have bO:N id:=hN 0 (by omega)
 refine(hr w m (by omega)).mono fun en w' ⟨v',e1,e2,e3,e4⟩=>?_
 have kk:c9 ψ h w w':=c9.grown e3 (fun b e=>by cases e)
 have DS:=qQ (N:=N) g hB id ty bO (k:=k) (xs:=[]) (vs:=[]) kk (fun b hb=>e3.block b (g.bP hb) (by simp)) e2 (fun i x hx=>by simp at hx) e4 (fun i ty cs hb=>aC.imp (p:=fun i=>¬N i) (q:=fun i=>i≠id) (fun a ha e=>ha (by rw[e];exact bO)) (bu i ty cs hb))
 refine⟨v',Z,ed ψ id v',e1,?_,?_⟩
 ·have hhp:(bI.new (.bH id) [(id,Ob.own (.row ty k) [])]).hp h=ed h id (some (.own (.row ty k) [])):=iy id _ h
  rw[hhp];exact DS
 ·simp only[bI.v,az]
  exact⟨e2.one,fun _=>(bw _ _ _).symm⟩
end Go.Vs
namespace Go.Vs
open Go.Proofs Go.RowKit
set_option maxHeartbeats 4000000 in
set_option maxRecDepth 100000 in
theorem Ux:FD Tryz.prog 142 37 20:=fun w n hm=>by
 have ht:Tryz.prog.underlying 25=some (.slice 37):=by kernel_rfl
 have NH:Tryz.prog.underlying 3=some (.int .i64):=by kernel_rfl
 obtain⟨i0,z0,he⟩:=cr (P:=Tryz.prog) (e:=37) (k:=iZ) (by kernel_rfl)
 have Gi:z0.cells.size=20:=he.qP
 have wb:i0.size=20:=he.size
 have B2:=he.bytes
 unfold fi at hm
 by_cases hn:n=0
 ·subst hn
  have jE:ob (.slice none 0 0)=none:=rfl
  go_enter Tryz.func142,Tryz.ntmps142
  go_wp2
  go_ret
  exact⟨_,rfl,⟨by simp,.inl ⟨rfl,none,rfl⟩⟩,World.grownBy.refl w _,fun b hb=>by simp[ob]at hb⟩
 ·have iw:n*i0.bytes≤281474976710656:=Nat.le_trans (Nat.mul_le_mul hm B2) (by decide)
  obtain⟨G,hG⟩:∃G,G=grownCap w n 0 37:=⟨_,rfl⟩
  obtain⟨gq,mF⟩:∃gq,gq=Builtin.zeroCells z0.cells n++Builtin.zeroCells z0.cells (G-n):=⟨_,rfl⟩
  obtain⟨W1,lu⟩:∃W1,W1=w.drew.alloc (.cells gq 37):=⟨_,rfl⟩
  have OU:∀ty,(Builtin.append_ #[25,3] ty #[.slice none 0 0,.int .i64 n]).run Tryz.prog w=.ok (.slice (some ⟨w.heap.size,0,none⟩) n G) W1:=fun ty=>by
   rw[lu,mF,hG]
   exact Lib.run_append_nil_zeros w 25 3 ty 37 i0 z0 .i64 .i64 ht NH he.info he.zero n (by omega) (by omega) (by omega) iw
  have XG:n≤G:=by rw[hG];exact grownCap_ge w _ _ _
  have Fz:G≤9223372036854775807:=by
   have:=grownCap_le_maxLen w n 0 37 (by unfold maxLen;omega)
   rw[←hG]at this
   unfold maxLen at this
   omega
  have Y4:gq.size=G*20:=by
   rw[mF]
   simp[Builtin.zeroCells,Gi]
   omega
  have oC:W1.heap[w.heap.size]? = some (.cells gq 37 (0,0)):=by rw[lu];exact(MapKept.heap_alloc w.drew (.cells gq 37)).1
  have qv:∀b,b<w.heap.size→W1.heap[b]? = w.heap[b]? := fun b hb=>by rw[lu];exact(Below.heap_alloc w.drew (.cells gq 37) b hb).trans rfl
  have qw:w.grownBy W1 none:=⟨by rw[lu];rfl,by rw[lu];rfl,by rw[lu];rfl,by have:=(Array.getElem?_eq_some_iff.1 oC).1;omega,fun k hk _=>qv k hk⟩
  clear mF lu hG
  have hn0:¬((n:Int)<0):=by omega
  have YV:0<(n:Int):=by omega
  have hn2:IntKind.i64.wrap (n:Int)=n:=by rw[IntKind.wrap_i64];omega
  have hG0:¬(G=0):=by omega
  go_enter Tryz.func142,Tryz.ntmps142
  go_wp2_with (at_builtin;refine Lib.wpList_append_run _ rfl _ _ _ _ rfl _ _ rfl rfl _ _ (OU _) ?_)
  go_ret
  refine⟨.slice (some ⟨w.heap.size,0,none⟩) 0 G,rfl,⟨by simp,.inr ⟨w.heap.size,G,gq,rfl,by omega,oC,by omega,Fz,Y4,by simp⟩⟩,qw,fun b hb=>?_⟩
  simp only[ob]at hb;rw[if_neg (by omega)]at hb;cases hb;omega
end Go.Vs
namespace Go.Vs
variable {P:Program}
def zi(P:Program)(g:TypeId→K→Bool):List Field→Nat→K→Bool
 |[],_,_=>false
 |[f],off,k=>(f.name != "_")&&(decide (f.offset=off)&&(decide (P.cellsOf f.type=k.sz)&&g f.type k))
 |f::f'::r,off,.pair a b=>(f.name != "_")&&(decide (f.offset=off)&&(decide (P.cellsOf f.type=a.sz)&&(g f.type a&&zi P g (f'::r) (off+a.sz) b)))
 |_,_,_=>false
def Ry(P:Program):Nat→TypeId→K→Bool
 |0,_,_=>false
 |d+1,t,k =>
  match P.underlying t,k with
  |some (.int a),.int b=>decide (a=b)
  |some .bool,.bool=>true
  |some .string,.str=>true
  |some (.struct fs),.pair a b => !P.stoodInHeld t&&zi P (Ry P d) fs.toList 0 (.pair a b)
  |_,_=>false
def VK(w:World)(Z:Nat→Prop):(k:K)→k.T→Value→Prop
 |.pair a b,x,v=>∃cs:Array Value,v=.agg cs∧aI Z w (.pair a b) x cs.toList
 |.one k,x,v=>False
 |k,x,v=>aI Z w k x [v]
theorem zQ{Z:Nat→Prop}{w:World}{d:Nat}{t:TypeId}{k:K}(hk:Ry P d t k=true)(hc:P.cellsOf t=k.sz){cs:Array Value}{off:Nat}{x:k.T}(hr:aI Z w k x ((cs.toList.drop off).take k.sz)) :
  ∃v,(part t cs off).run P w=.ok v w∧VK w Z k x v:=by
 cases d with
 |zero=>simp[Ry]at hk
 |succ d =>
  have plain:k.sz=1→(P.underlying t).map Jt=some false→∃v,(part t cs off).run P w=.ok v w∧aI Z w k x [v]:=fun h1 h2=>by
   rw[h1]at hr
   have hl:=hr.len
   rw[h1,List.length_take,List.length_drop,Array.length_toList]at hl
   have aF:off<cs.size:=by omega
   refine⟨cs[off],?_,?_⟩
   ·simp[part,fZ h2,aF]
   ·have:(cs.toList.drop off).take 1=[cs[off]]:=by
     rw[List.drop_eq_getElem_cons (by simpa using aF)];simp
    rwa [this]at hr
  unfold Ry at hk
  split at hk
  ·rename_i a b hu
   exact plain rfl (by rw[hu];rfl)
  ·rename_i hu
   exact plain rfl (by rw[hu];rfl)
  ·rename_i hu
   exact plain rfl (by rw[hu];rfl)
  ·rename_i fs a b hu
   obtain⟨i,hi⟩:=sQ hu
   refine⟨.agg (cs.extract off (off+P.cellsOf t)),?_,_,rfl,?_⟩
   ·have h2:(P.underlying t).map Jt=some true:=by rw[hu];rfl
    simp[part,fZ h2,dz hi]
   ·rw[Array.toList_extract,hc]
    simpa[List.extract] using hr
  ·cases hk
def iQ(em:Bool)(d:Nat)(cs:Array Value):List Field→Sem Unit
 |[]=>pure ()
 |f::fs =>
  if f.name≠ "_" then do
   let a ←part f.type cs f.offset
   Instr.checkKey em d f.type a
   iQ em d cs fs
  else iQ em d cs fs
theorem sN(em:Bool)(w:World)(d:Nat)(t:TypeId)(cs:Array Value)(fs:Array Field)(ht:P.underlying t=some (.struct fs)) :
  (Instr.checkKey em (d+1) t (.agg cs)).run P w=(iQ em d cs fs.toList).run P w:=by
 simp only[Instr.checkKey,Sem.run_bind,run_underlying ht,Result.andThen_ok]
 rw[←Array.forIn_toList]
 generalize fs.toList=l
 clear ht
 induction l generalizing w with
 |nil=>simp[iQ]
 |cons f fs ih =>
  simp only[List.forIn_cons,iQ,Sem.run_bind,Sem.run_ite]
  split
  ·generalize (part f.type cs f.offset).run P w=r1
   cases r1 with
   |ok a w1 =>
    simp only[Result.andThen_ok]
    generalize (Instr.checkKey em d f.type a).run P w1=r2
    cases r2 with
    |ok b w2 =>
     simp only[Result.andThen_ok,Sem.run_pure]
     exact ih w2
    |halt x w2=>simp[Result.andThen]
   |halt x w1=>simp[Result.andThen]
  ·simp only[Sem.run_pure,Result.andThen_ok]
   exact ih w
theorem H6{Z:Nat→Prop}{D d:Nat}(em:Bool)(hg:∀t k,Ry P d t k=true→∀(w:World) (x y:k.T) (u v:Value),VK w Z k x u→VK w Z k y v→(Op.equalIn (D+d) t u v).run P w=.ok (rF k x y) w∧(Instr.checkKey em (D+d) t u).run P w=.ok () w)(w:World)(xs ys:Array Value) :
  ∀(fs:List Field) (off:Nat) (k:K),zi P (Ry P d) fs off k=true→∀(x y:k.T),aI Z w k x ((xs.toList.drop off).take k.sz)→aI Z w k y ((ys.toList.drop off).take k.sz) →
   (Op.eqFields (D+d) xs ys fs).run P w=.ok (rF k x y) w∧(iQ em (D+d) xs fs).run P w=.ok () w
 |[],_,_,h,_,_,_,_=>by simp[zi]at h
 |[f],off,k,h,x,y,hx,hy=>by
  have h':f.name≠ "_"∧f.offset=off∧P.cellsOf f.type=k.sz∧Ry P d f.type k=true:=by
   cases k<;>simpa[zi] using h
  obtain⟨h0,h1,h2,h3⟩:=h'
  subst h1
  obtain⟨u,hu,hu'⟩:=zQ h3 h2 hx
  obtain⟨v,hv,AB⟩:=zQ h3 h2 hy
  obtain⟨e1,e2⟩:=hg _ _ h3 w x y u v hu' AB
  constructor
  ·simp only[Op.eqFields,if_pos h0,Sem.run_bind,hu,hv,e1,Result.andThen_ok]
   cases rF k x y<;>simp
  ·simp[iQ,h0,hu,e2]
 |f::f'::r,off,.pair a b,h,x,y,hx,hy=>by
  simp only[zi,Bool.and_eq_true,decide_eq_true_eq,bne_iff_ne,ne_eq]at h
  obtain⟨h0,h1,h2,h3,h4⟩:=h
  subst h1
  simp only[aI,K.sz]at hx hy
  obtain⟨us,ws,ex,Rz,hx2⟩:=hx
  obtain⟨iX,ws',ey,Wo,Wp⟩:=hy
  have sp:∀(zs:Array Value) (us ws:List Value),us.length=a.sz→ws.length=b.sz→(zs.toList.drop f.offset).take (a.sz+b.sz)=us++ws→us=(zs.toList.drop f.offset).take a.sz∧ws=(zs.toList.drop (f.offset+a.sz)).take b.sz:=fun zs us ws l1 l2 e=>by
   rw[List.take_add,]at e
   have hl:((zs.toList.drop f.offset).take a.sz).length=us.length:=by
    have:=congrArg List.length e
    simp only[List.length_append,List.length_take,List.length_drop]at this ⊢
    omega
   obtain⟨e1,e2⟩:=List.append_inj e hl
   exact⟨e1.symm,by rw[←e2,List.drop_drop]⟩
  obtain⟨rfl,rfl⟩:=sp xs us ws Rz.len hx2.len ex
  obtain⟨rfl,rfl⟩:=sp ys iX ws' Wo.len Wp.len ey
  obtain⟨u,hu,hu'⟩:=zQ h3 h2 Rz
  obtain⟨v,hv,AB⟩:=zQ h3 h2 Wo
  obtain⟨e1,e2⟩:=hg _ _ h3 w x.1 y.1 u v hu' AB
  obtain⟨e3,e4⟩:=H6 em hg w xs ys (f'::r) (f.offset+a.sz) b h4 x.2 y.2 hx2 Wp
  constructor
  ·rw[Op.eqFields,if_pos h0]
   simp only[Sem.run_bind,hu,hv,e1,Result.andThen_ok,Sem.run_ite,e3,rF]
   cases rF a x.1 y.1<;>simp
  ·rw[iQ,if_pos h0]
   simp only[Sem.run_bind,hu,e2,Result.andThen_ok]
   exact e4
 |f::f'::r,off,.int _,h,_,_,_,_=>by simp[zi]at h
 |f::f'::r,off,.bool,h,_,_,_,_=>by simp[zi]at h
 |f::f'::r,off,.str,h,_,_,_,_=>by simp[zi]at h
 |f::f'::r,off,.sl _,h,_,_,_,_=>by simp[zi]at h
 |f::f'::r,off,.one _,h,_,_,_,_=>by simp[zi]at h
 |f::f'::r,off,.mp _ _,h,_,_,_,_=>by simp[zi]at h
theorem LY{Z:Nat→Prop}(D:Nat)(em:Bool):∀(d:Nat) (t:TypeId) (k:K),Ry P d t k=true→∀(w:World) (x y:k.T) (u v:Value),VK w Z k x u→VK w Z k y v →
  (Op.equalIn (D+d) t u v).run P w=.ok (rF k x y) w∧(Instr.checkKey em (D+d) t u).run P w=.ok () w
 |0,_,_,h,_,_,_,_,_,_,_=>by simp[Ry]at h
 |d+1,t,k,h,w,x,y,u,v,hu,hv=>by
  rw[←Nat.add_assoc]
  unfold Ry at h
  split at h
  ·rename_i a b ht
   simp only[decide_eq_true_eq]at h;subst h
   simp only[VK,aI,List.cons.injEq,and_true]at hu hv
   subst hu;subst hv
   exact⟨run_equalIn_int w _ _ _ _ _ _ ht,by simp[Instr.checkKey,run_underlying ht]⟩
  ·rename_i ht
   simp only[VK,aI,List.cons.injEq,and_true]at hu hv
   subst hu;subst hv
   exact⟨run_equalIn_bool' w _ _ _ _ ht,by simp[Instr.checkKey,run_underlying ht]⟩
  ·rename_i ht
   simp only[VK,aI,List.cons.injEq,and_true]at hu hv
   subst hu;subst hv
   exact⟨(run_equalIn_string w _ _ _ _ ht).trans (congrArg (fun b=>Result.ok b w) (beq_toListBytes (show ByteArray from x) (show ByteArray from y)).symm),by simp[Instr.checkKey,run_underlying ht]⟩
  ·rename_i fs a b ht
   simp only[Bool.and_eq_true,Bool.not_eq_true']at h
   obtain⟨hs,hf⟩:=h
   obtain⟨xs,rfl,hx⟩:=hu
   obtain⟨ys,rfl,hy⟩:=hv
   have Uy:P.fieldsOf t=fs:=by simp[Program.fieldsOf,ht]
   have xe:=hx.len
   have D7:=hy.len
   obtain⟨e1,e2⟩:=H6 (D:=D) (Z:=Z) em (fun t k hk w x y u v hu hv=>LY D em d t k hk w x y u v hu hv) w xs ys fs.toList 0 (.pair a b) hf x y
    (by rw[List.drop_zero,List.take_of_length_le (by omega)];exact hx) (by rw[List.drop_zero,List.take_of_length_le (by omega)];exact hy)
   constructor
   ·rw[run_equalIn_struct w (D+d) t xs ys (by rw[Uy];exact ht) hs,Uy];exact e1
   ·rw[sN em w (D+d) t xs fs ht];exact e2
  ·cases h
theorem NL{d:Nat}{t:TypeId}{a b:K}(hd:d≤10000)(hk:Ry P d t (.pair a b)=true)(hg:P.eqGuardType P.depth t=false):lL P t (.pair a b):=fun Z w x y xs ys hx hy=>by
 have e:10000-d+d=10000:=by omega
 have key:=fun em=>LY (Z:=Z) (10000-d) em d t (.pair a b) hk w x y (.agg xs) (.agg ys) ⟨xs,rfl,hx⟩ ⟨ys,rfl,hy⟩
 rw[e]at key
 exact⟨(key true).1,fun op p q=>run_eqGuard_agg w op t p q xs ys hg,fun em=>(key em).2⟩
end Go.Vs
namespace Go.Vs
open Go.Proofs
theorem RA{f:FuncId}{g:aN}(h:Sg f=some g):(f,g)∈sgs:=by
 unfold Sg at h
 obtain⟨p,hp,rfl⟩:=Option.map_eq_some_iff.1 h
 have h1:=List.mem_of_find?_eq_some hp
 have h2:=List.find?_some hp
 have:p.1=f:=by simpa using h2
 subst this
 exact h1
theorem lg:∀f g,Sg f=some g→jq Tryz.prog (f%1000):=fun f g h=>by
 have hm:=RA h
 have key:(sgs.all fun p=>match Tryz.prog.funcs[p.1%1000]? with|some fn => !(fn.name== "runtime.NumGoroutine")&&fn.body.isSome|none=>false)=true:=by kernel_rfl
 have:=List.all_eq_true.1 key _ hm
 simp only at this
 split at this
 ·rename_i fn hf
  simp only[Bool.and_eq_true,Bool.not_eq_true']at this
  exact⟨fn,hf,this.1,this.2⟩
 ·cases this
theorem sr:Tryz.prog.follows .mixedOrders=true:=by kernel_rfl
theorem B5:∀t k,Eqs t=some k→lL Tryz.prog t k:=fun t k h=>by
 unfold Eqs at h
 obtain⟨p,hp,rfl⟩:=Option.map_eq_some_iff.1 h
 have h1:=List.mem_of_find?_eq_some hp
 have h2:=List.find?_some hp
 have e:p.1=t:=by simpa using h2
 subst e
 simp only[eqs,List.mem_cons,List.not_mem_nil,or_false]at h1
 rcases h1 with rfl|rfl|rfl|rfl|rfl|rfl
 all_goals exact NL (d:=5) (by omega) (by kernel_rfl) (by kernel_rfl)
end Go.Vs
set_option maxRecDepth 1000000
set_option maxHeartbeats 0
namespace Go.Vs
open Go.Proofs
def Uz:aN:={ ps:=[.own],bs:=[.own (.row 52 dh)],rs:=[.own (.row 52 dh)] }
def UA:aN:={ ps:=[.own],bs:=[.own (.row 118 dK)],rs:=[.own (.row 118 dK)] }
def lh:aN:={ ps:=[.agg 2],bs:=[.own (.row 52 dh),.own (.row 118 dK)],rs:=[.agg [.own (.row 52 dh),.own (.row 118 dK)]] }
def ss(ty:TypeId)(k:K)(h:Heap)(id:Nat):List AV→Option (Bool×bI)
 |[.bH a]=>match dS h (.row ty k) (.bH a) with
  |some xs=>some (aO 0 xs.length,.new (.bH (id+128)) [(id+128,.own (.row ty k) xs)])
  |_=>none
 |_=>none
def agx:aN:={ ps:=[],bs:=[],rs:=[],x:=some (ss 52 dh) }
def agy:aN:={ ps:=[],bs:=[],rs:=[],x:=some (ss 118 dK) }
def XM:List (Nat×aN):=[(500127,Uz),(500128,UA)]
def Wq(f:FuncId):Option aN:=(XM.find? (fun p=>p.1==f)).map (fun p=>p.2)
def XN:List (Nat×aN):=[(110,ze),(500096,lh),(500127,agx),(500128,agy)]
def TM(f:FuncId):Option aN:=(XN.find? (fun p=>p.1==f)).map (fun p=>p.2)
def H7:Shape:=⟨[(14,.int .i64),(15,.int .i64)],[(.slot 2,20000,.box 41 [.own (.row 52 dh),.own (.row 118 dK)]),(.slot 3,20001,.box 41 [.own (.row 52 dh),.own (.row 118 dK)])],[(6,1000,(.row 52 (.pair (.pair (.int .i64) (.int .i64)) (.pair (.sl (.pair (.pair (.int .i64) (.int .i64)) (.int .i64))) (.pair .str (.int .i64)))))),(9,1020,(.row 118 (.pair (.pair (.int .i64) (.int .i64)) (.pair .str (.int .i64)))))],[]⟩
def An0(f:FuncId)(key:Nat):Option Shape:=none
def XO(f:FuncId)(key:Nat):Option Shape:=if f=500096 then(if key=3 then some H7 else none) else none
noncomputable def RB(SG:FuncId→Option aN)(AN:FuncId→Nat→Option Shape)(f:FuncId)(g:aN)(fn:Func)(F:FT)(J:JT g)(x:g.A):Option g.B:=aB Tryz.prog Eqs SG F fn.ntmps (AN f) J (qN Tryz.prog g fn) fuel [.code (fn.body.getD .skip)] (entry g x)
noncomputable def XP(SG:FuncId→Option aN)(AN:FuncId→Nat→Option Shape)(f j:Nat)(g:aN)(fn:Func)(sh:Shape)(F:FT)(J:JT g)(x:sh.T):Option g.B:=aB Tryz.prog Eqs SG F fn.ntmps (AN f) J (qN Tryz.prog g fn) fuel (round (aM Tryz.prog (f%1000) j)) (aq sh x)
theorem aby(F:FT)(J:JT Uz)(x:(Unit×((List ah)×Unit))):RB Wq An0 500127 Uz Tryz.f127 F J x =
  cond (List.isEmpty x.2.1)
   (sK 2 fun(j1:Nat) =>
   cond ((j1==0)==true)
    (some ((([]:List ah),()),x.2))
    (cond (aO (List.length ([]:List ah)) (List.length x.2.1))
     (some (((([]:List ah)++x.2.1),()),x.2))
     (none)))
   (cond (aO (List.length ([]:List ah)) (List.length x.2.1))
    (some (((([]:List ah)++x.2.1),()),x.2))
    (none)):=by kernel_rfl
theorem abz(F:FT)(J:JT UA)(x:(Unit×((List ai)×Unit))):RB Wq An0 500128 UA Tryz.f128 F J x =
  cond (List.isEmpty x.2.1)
   (sK 2 fun(j1:Nat) =>
   cond ((j1==0)==true)
    (some ((([]:List ai),()),x.2))
    (cond (aO (List.length ([]:List ai)) (List.length x.2.1))
     (some (((([]:List ai)++x.2.1),()),x.2))
     (none)))
   (cond (aO (List.length ([]:List ai)) (List.length x.2.1))
    (some (((([]:List ai)++x.2.1),()),x.2))
    (none)):=by kernel_rfl
theorem abA(F:FT)(J:JT ze)(x:(((List ae)×Unit)×Unit)):RB TM XO 110 ze Tryz.f110 F J x =
  cond (List.isEmpty x.1.1)
   (sK 2 fun(j1:Nat) =>
   cond ((j1==0)==true)
    (some ((([]:List ae),()),()))
    (cond (aO (List.length ([]:List ae)) (List.length x.1.1))
     (some (((([]:List ae)++x.1.1),()),()))
     (none)))
   (cond (aO (List.length ([]:List ae)) (List.length x.1.1))
    (some (((([]:List ae)++x.1.1),()),()))
    (none)):=by kernel_rfl
theorem abB(F:FT)(J:JT lh)(x:(Unit×((List ah)×((List ai)×Unit)))):RB TM XO 500096 lh Tryz.f96 F J x =
  cond (aO 0 (List.length x.2.1))
   (cond (aO 0 (List.length x.2.2.1))
    (J H7 (aM Tryz.prog 96 0) (((((List.length x.2.1):Nat):Int),((0:Int),())),(((([]:List ah),(([]:List ai),())),((x.2.1,x.2.2),())),(x.2.1,x.2.2))))
    (none))
   (none):=by kernel_rfl
theorem LZ(F:FT)(J:JT lh)(x:((Int×(Int×Unit))×((((List ah)×((List ai)×Unit))×(((List ah)×((List ai)×Unit))×Unit))×((List ah)×((List ai)×Unit))))):XP TM XO 500096 0 lh Tryz.f96 H7 F J x =
  cond (decide (x.1.2.1<x.1.1))
   (cond ((decide ((0:Int)≤x.1.2.1))&&(decide (x.1.2.1<(((List.length x.2.1.2.1.1):Nat):Int))))
    (((x.2.1.2.1.1)[(Int.toNat x.1.2.1)]?).bind fun(y1:ah) =>
    (F 110 ze ((y1.2.1,()),())).bind fun(y2:(((List ae)×Unit)×Unit)) =>
    cond ((decide ((0:Int)≤x.1.2.1))&&(decide (x.1.2.1<(((List.length x.2.1.2.1.1):Nat):Int))))
     (((x.2.1.2.1.1)[(Int.toNat x.1.2.1)]?).bind fun(y3:ah) =>
     J H7 (aM Tryz.prog 96 0) ((x.1.1,((IntKind.wrap .i64 (x.1.2.1+(1:Int))),())),(((x.2.1.1.1,x.2.1.1.2),(((List.set x.2.1.2.1.1 (Int.toNat x.1.2.1) (y3.1,(y2.1.1,y3.2.2))),x.2.1.2.1.2),())),(x.2.2.1,x.2.2.2))))
     (none))
    (none))
   (some (((x.2.1.2.1.1,x.2.1.2.1.2),()),(x.2.2.1,x.2.2.2))):=by kernel_rfl
end Go.Vs
namespace Go.Vs
open Go.Proofs
variable {P:Program}
theorem tk{f:FuncId}{ty:TypeId}{k:K}(hf:f%1000=f)(hc:∀(xs:List k.T),aO 0 xs.length=true→DN P f ⟨[.own],[.own (.row ty k)],[.own (.row ty k)],none⟩ ((),(xs,())) ((xs,()),(xs,()))):iz P f (ss ty k):=by
 intro Z ψ h w B0 O N hh id e vs us g hB bC hN bu nL tH EX he
 unfold ss at he
 split at he
 rotate_left
 ·cases he
 rename_i a
 split at he
 rotate_left
 ·cases he
 rename_i xs rO
 simp only[Option.some.injEq,Prod.mk.injEq]at he
 obtain⟨mw,rfl⟩:=he
 have ha:h a=some (.own (.row ty k) xs):=bC _ _ (jQ rO)
 have Kp:h a≠none:=by rw[ha];simp
 simp only[an,az]at tH
 obtain⟨v1,_,rfl,⟨_,uQ⟩,rfl⟩:=tH
 have uQ:=uQ Kp
 subst uQ
 simp only[aC,aJ]at EX
 have Y6:N (id+128):=hN 128 (by omega)
 have na:¬N a:=EX.1
 have a0:a≠id+128:=fun e=>na (e▸Y6)
 let ψ0:Nat→Value:=fun i=>if i=1000 then ψ a else ψ i
 have p0:ψ0 1000=ψ a:=if_pos rfl
 let g0:aN:=⟨[.own],[.own (.row ty k)],[.own (.row ty k)],none⟩
 have my:pz g0 ((),(xs,()))=Heap.get [(1000,.own (.row ty k) xs)]:=rfl
 have i0:pz g0 ((),(xs,())) 1000=some (.own (.row ty k) xs):=rfl
 have iN:∀i,pz g0 ((),(xs,())) i≠none→i=1000:=fun i hi=>by
  by_cases e0:i=1000
  ·exact e0
  rw[my]at hi
  simp[Heap.get,Ne.symm e0]at hi
 have UB:∀q,Own ψ0 (pz g0 ((),(xs,()))) q→ob (ψ a)=some q:=fun q ⟨i,h1,h2⟩=>by
  have:=iN i h1
  subst this
  rw[←p0];exact h2
 have oh:∀q,Own ψ0 (pz g0 ((),(xs,()))) q→Own ψ h q:=fun q hq=>⟨a,Kp,UB q hq⟩
 have G0:Good Z ψ0 (pz g0 ((),(xs,()))) w w.heap.size (Own ψ0 (pz g0 ((),(xs,())))):=by
  refine⟨fun i ty cs k=>?_,fun i ok x k=>?_,fun i q h1 h2=>⟨fun hz=>?_,.inr ⟨i,h1,h2⟩⟩,fun i j q h1 h2 h3 h4=>?_,g.jM⟩
  ·have:=iN i (by rw[k];simp)
   subst this
   rw[i0]at k;cases k
  ·have:=iN i (by rw[k];simp)
   subst this
   rw[i0]at k;cases k;rw[p0];exact g.row a _ _ ha
  ·have:=iN i h1
   subst this
   rw[p0]at h2;exact(g.live a q Kp h2).1 hz
  ·rw[iN i h1,iN j h2]
 have c0:(ψ a).cells=#[ψ a]∧(ψ a).oneCell'=true:=(g.row a _ _ ha).one
 have R0:an Z ψ0 (pz g0 ((),(xs,()))) w (E0 g0 ((),(xs,()))) [ψ a]:=by
  show an Z ψ0 (pz g0 ((),(xs,()))) w [.bH 1000] [ψ a]
  simp only[an,az]
  exact⟨ψ a,[],rfl,⟨c0,fun _=>p0.symm⟩,rfl⟩
 have Y7:=hc xs mw Z ψ0 w [ψ a] G0 R0
 rw[hf]at Y7
 refine Y7.mono fun en w' ⟨V,Z',ψ',e1,zs,zf,kp,gd,bO,hr⟩=>?_
 have q0:ψ' 1000=ψ a:=(bO 1000 (by show 1000∈[1000];simp)).trans p0
 have o0:(jS g0 ((xs,()),(xs,()))).get 1000=some (.own (.row ty k) xs):=rfl
 have o2:(jS g0 ((xs,()),(xs,()))).get 3000=some (.own (.row ty k) xs):=rfl
 have gd:Good Z' ψ' (jS g0 ((xs,()),(xs,()))).get w' w.heap.size (Own ψ0 (pz g0 ((),(xs,())))):=gd
 have hr:az Z' ψ' (jS g0 ((xs,()),(xs,()))).get w' (.bH 3000) V:=hr
 generalize (jS g0 ((xs,()),(xs,()))).get=out at *
 have keep:c9 ψ h w w':=⟨kp.os,kp.tape,kp.output,kp.size,fun q hq hn=>kp.block q hq fun ho=>hn (oh q ho)⟩
 have sm:ct Z w w':=keep.same g
 have cT:∀i q,i≠a→h i≠none→ob (ψ i)=some q→w'.heap[q]? = w.heap[q]? := fun i q k1 h1 h2 =>
  kp.block q (g.bP ⟨i,h1,h2⟩) fun ho=>k1 (g.apart i a q h1 Kp h2 (UB q ho))
 let dW:Nat→Value:=fun i=>if i=id+128 then ψ' 3000 else ψ i
 let H:Hp:=(bI.new (.bH (id+128)) [(id+128,.own (.row ty k) xs)]).hp h
 have s0:dW (id+128)=ψ' 3000:=if_pos rfl
 have sn:∀i,i≠id+128→dW i=ψ i:=fun i k1=>if_neg k1
 have H0:H (id+128)=some (.own (.row ty k) xs):=by show(bI.hp h _) _=_;simp[bI.hp,Heap.get]
 have Hn:∀i,i≠id+128→H i=h i:=fun i k1=>by show(bI.hp h _) _=_;simp[bI.hp,Heap.get,Ne.symm k1]
 have two:∀q,ob (ψ' 3000)=some q→¬Z' q∧(w.heap.size≤q∨ob (ψ a)=some q):=fun q h2=>by
  obtain⟨h3,h4⟩:=gd.live 3000 q (by rw[o2];simp) h2
  exact⟨h3,h4.imp (fun h=>h) (UB q)⟩
 have one:∀q,ob (ψ a)=some q→¬Z' q:=fun q h2=>(gd.live 1000 q (by rw[o0];simp) (by rw[q0];exact h2)).1
 have UC:∀q,ob (ψ' 3000)=some q→ob (ψ a)=some q→False:=fun q h2 h3=>by
  have:=gd.apart 3000 1000 q (by rw[o2];simp) (by rw[o0];simp) h2 (by rw[q0];exact h3)
  omega
 have fresh:∀q,ob (ψ' 3000)=some q→w.heap.size≤q:=fun q h2=>(two q h2).2.resolve_right (UC q h2)
 have ids:∀i,H i≠none→(h i≠none∧dW i=ψ i)∨N i:=fun i hi=>by
  by_cases k1:i=id+128
  ·exact .inr (k1▸Y6)
  ·rw[Hn i k1]at hi
   exact .inl ⟨hi,sn i k1⟩
 have live:∀i q,i≠id+128→h i≠none→ob (ψ i)=some q→¬Z' q:=fun i q k1 h1 h2 hz=>by
  by_cases k3:i=a
  ·subst k3;exact one q h2 hz
  rcases zf q hz with k|k|k
  ·exact(g.live i q h1 h2).1 k
  ·exact k3 (g.apart i a q h1 Kp h2 (UB q k))
  ·have:=g.bP ⟨i,h1,h2⟩;omega
 refine⟨V,Z',dW,e1,⟨zs,fun q hq=>(zf q hq).imp (fun h=>h) fun k=>k.imp (oh q) fun h=>h,keep,ids,⟨fun i yS cs k=>?_,fun i ok x k=>?_,fun i q h1 h2=>?_,fun i j q h1 h2 h3 h4=>?_,gd.jM⟩⟩,?_⟩
 ·have k1:i≠id+128:=fun e=>by rw[e]at k;have k:H (id+128)=some (.box yS cs):=k;rw[H0]at k;cases k
  have k3:i≠a:=fun e=>by rw[e]at k;have k:H a=some (.box yS cs):=k;rw[(Hn a a0).trans ha]at k;cases k
  have qo:h i=some (.box yS cs):=(Hn i k1).symm.trans k
  obtain⟨gg,vs,f1,f2,f3,f4⟩:=g.box i yS cs qo
  exact⟨gg,vs,(sn i k1).trans f1,(cT i gg k3 (by rw[qo];simp) (by rw[f1];rfl)).trans f2,f3.move zs sm (fun j hj br=>(ids j br).resolve_right hj) (bu i yS cs qo),f4⟩
 ·by_cases k1:i=id+128
  ·subst k1
   have k:H (id+128)=some (.own ok x):=k
   rw[H0]at k;cases k
   rw[s0];exact gd.row 3000 _ _ o2
  have qo:h i=some (.own ok x):=(Hn i k1).symm.trans k
  rw[sn i k1]
  by_cases k3:i=a
  ·subst k3
   rw[ha]at qo;cases qo
   rw[←q0];exact gd.row 1000 _ _ o0
  exact(g.row i ok x qo).kept zs sm fun q hq=>cT i q k3 (by rw[qo];simp) hq
 ·by_cases k1:i=id+128
  ·subst k1
   have h2:ob (dW (id+128))=some q:=h2
   rw[s0]at h2
   exact⟨(two q h2).1,.inl (Nat.le_trans hB (fresh q h2))⟩
  ·have h1:h i≠none:=by rw[←Hn i k1];exact h1
   rw[sn i k1]at h2
   exact⟨live i q k1 h1 h2,(g.live i q h1 h2).2⟩
 ·have lt:∀j,j≠id+128→H j≠none→ob (dW j)=some q→q<w.heap.size:=fun j k1 k2 k3=>by
   rw[Hn j k1]at k2
   rw[sn j k1]at k3
   exact g.bP ⟨j,k2,k3⟩
  by_cases k1:i=id+128<;>by_cases k2:j=id+128
  ·exact k1.trans k2.symm
  ·subst k1
   have h3:ob (dW (id+128))=some q:=h3
   rw[s0]at h3
   have:=fresh q h3
   have:=lt j k2 h2 h4
   omega
  ·subst k2
   have h4:ob (dW (id+128))=some q:=h4
   rw[s0]at h4
   have:=fresh q h4
   have:=lt i k1 h1 h3
   omega
  ·rw[sn i k1]at h3
   rw[sn j k2]at h4
   exact g.apart i j q (by rw[←Hn i k1];exact h1) (by rw[←Hn j k2];exact h2) h3 h4
 ·simp only[az]at hr
  show az Z' dW H w' (.bH (id+128)) V
  simp only[az]
  exact⟨hr.1,fun _=>(hr.2 (by rw[o2];simp)).trans s0.symm⟩
end Go.Vs
namespace Go.Vs
open Go.Proofs
variable {P:Program}
theorem FE(hc:∀(xs:List dh.T) (ys:List dK.T),pJ xs ys=true→DN P 96 lh ((),(xs,(ys,()))) (((xs,(ys,())),()),(xs,(ys,())))):iz P 96 Fg:=by
 intro Z ψ h w B0 O N hh id e vs us g hB bC hN bu nL tH EX he
 unfold Fg at he
 split at he
 rotate_left
 ·cases he
 rename_i a b
 split at he
 rotate_left
 ·cases he
 rename_i xs ys rO C1
 split at he
 ·cases he
 rename_i nO
 simp only[Option.some.injEq,Prod.mk.injEq]at he
 obtain⟨mw,rfl⟩:=he
 have ha:h a=some (.own (.row 52 dh) xs):=bC _ _ (jQ rO)
 have hb:h b=some (.own (.row 118 dK) ys):=bC _ _ (jQ C1)
 have Kp:h a≠none:=by rw[ha];simp
 have B2:h b≠none:=by rw[hb];simp
 simp only[an,az]at tH
 obtain⟨v,_,rfl,⟨cs,rfl,v1,_,MQ,⟨_,uQ⟩,v2,_,rfl,⟨_,xV⟩,rfl⟩,rfl⟩:=tH
 have uQ:=uQ Kp
 have xV:=xV B2
 subst uQ xV
 simp only[aC,aJ]at EX
 have Y6:N (id+128):=hN 128 (by omega)
 have nR1:N (id+129):=hN 129 (by omega)
 have na:¬N a:=EX.1.1
 have nb:¬N b:=EX.1.2.1
 have a0:a≠id+128:=fun e=>na (e▸Y6)
 have a1:a≠id+129:=fun e=>na (e▸nR1)
 have b0:b≠id+128:=fun e=>nb (e▸Y6)
 have b1:b≠id+129:=fun e=>nb (e▸nR1)
 let ψ0:Nat→Value:=fun i=>if i=1000 then ψ a else if i=1020 then ψ b else ψ i
 have p0:ψ0 1000=ψ a:=if_pos rfl
 have p1:ψ0 1020=ψ b:=(if_neg (by decide)).trans (if_pos rfl)
 have my:pz lh ((),(xs,(ys,())))=Heap.get [(1000,.own (.row 52 dh) xs),(1020,.own (.row 118 dK) ys)]:=rfl
 have i0:pz lh ((),(xs,(ys,()))) 1000=some (.own (.row 52 dh) xs):=rfl
 have i1:pz lh ((),(xs,(ys,()))) 1020=some (.own (.row 118 dK) ys):=rfl
 have iN:∀i,pz lh ((),(xs,(ys,()))) i≠none→i=1000∨i=1020:=fun i hi=>by
  by_cases e0:i=1000
  ·exact .inl e0
  by_cases e1:i=1020
  ·exact .inr e1
  rw[my]at hi
  simp[Heap.get,Ne.symm e0,Ne.symm e1]at hi
 have UB:∀q,Own ψ0 (pz lh ((),(xs,(ys,())))) q→ob (ψ a)=some q∨ob (ψ b)=some q:=fun q ⟨i,h1,h2⟩=>by
  rcases iN i h1 with rfl|rfl
  ·exact .inl (by rw[←p0];exact h2)
  ·exact .inr (by rw[←p1];exact h2)
 have oh:∀q,Own ψ0 (pz lh ((),(xs,(ys,())))) q→Own ψ h q:=fun q hq=>(UB q hq).elim (fun k=>⟨a,Kp,k⟩) fun k=>⟨b,B2,k⟩
 have G0:Good Z ψ0 (pz lh ((),(xs,(ys,())))) w w.heap.size (Own ψ0 (pz lh ((),(xs,(ys,()))))):=by
  refine⟨fun i ty cs k=>?_,fun i ok x k=>?_,fun i q h1 h2=>⟨fun hz=>?_,.inr ⟨i,h1,h2⟩⟩,fun i j q h1 h2 h3 h4=>?_,g.jM⟩
  ·rcases iN i (by rw[k];simp) with rfl|rfl
   ·rw[i0]at k;cases k
   ·rw[i1]at k;cases k
  ·rcases iN i (by rw[k];simp) with rfl|rfl
   ·rw[i0]at k;cases k;rw[p0];exact g.row a _ _ ha
   ·rw[i1]at k;cases k;rw[p1];exact g.row b _ _ hb
  ·rcases iN i h1 with rfl|rfl
   ·rw[p0]at h2;exact(g.live a q Kp h2).1 hz
   ·rw[p1]at h2;exact(g.live b q B2 h2).1 hz
  ·rcases iN i h1 with rfl|rfl<;>rcases iN j h2 with rfl|rfl
   ·rfl
   ·rw[p0]at h3;rw[p1]at h4;exact absurd (g.apart a b q Kp B2 h3 h4) nO
   ·rw[p1]at h3;rw[p0]at h4;exact absurd (g.apart a b q Kp B2 h4 h3) nO
   ·rfl
 have c0:(ψ a).cells=#[ψ a]∧(ψ a).oneCell'=true:=(g.row a _ _ ha).one
 have c1:(ψ b).cells=#[ψ b]∧(ψ b).oneCell'=true:=(g.row b _ _ hb).one
 have R0:an Z ψ0 (pz lh ((),(xs,(ys,())))) w (E0 lh ((),(xs,(ys,())))) [.agg cs]:=by
  show an Z ψ0 (pz lh ((),(xs,(ys,())))) w [.agg [.bH 1000,.bH 1020]] [.agg cs]
  simp only[an,az]
  exact⟨.agg cs,[],rfl,⟨cs,rfl,ψ a,[ψ b],MQ,⟨c0,fun _=>p0.symm⟩,ψ b,[],rfl,⟨c1,fun _=>p1.symm⟩,rfl⟩,rfl⟩
 refine(hc xs ys mw Z ψ0 w [.agg cs] G0 R0).mono fun en w' ⟨V,Z',ψ',e1,zs,zf,kp,gd,bO,hr⟩=>?_
 have q0:ψ' 1000=ψ a:=(bO 1000 (by show 1000∈[1000,1020];simp)).trans p0
 have q1:ψ' 1020=ψ b:=(bO 1020 (by show 1020∈[1000,1020];simp)).trans p1
 have o0:(jS lh (((xs,(ys,())),()),(xs,(ys,())))).get 1000=some (.own (.row 52 dh) xs):=rfl
 have o1:(jS lh (((xs,(ys,())),()),(xs,(ys,())))).get 1020=some (.own (.row 118 dK) ys):=rfl
 have o2:(jS lh (((xs,(ys,())),()),(xs,(ys,())))).get 3000=some (.own (.row 52 dh) xs):=rfl
 have o3:(jS lh (((xs,(ys,())),()),(xs,(ys,())))).get 3001=some (.own (.row 118 dK) ys):=rfl
 generalize (jS lh (((xs,(ys,())),()),(xs,(ys,())))).get=out at *
 have keep:c9 ψ h w w':=⟨kp.os,kp.tape,kp.output,kp.size,fun q hq hn=>kp.block q hq fun ho=>hn (oh q ho)⟩
 have sm:ct Z w w':=keep.same g
 have cT:∀i q,i≠a→i≠b→h i≠none→ob (ψ i)=some q→w'.heap[q]? = w.heap[q]? := fun i q k1 k2 h1 h2 =>
  kp.block q (g.bP ⟨i,h1,h2⟩) fun ho=>(UB q ho).elim (fun k=>k1 (g.apart i a q h1 Kp h2 k)) fun k=>k2 (g.apart i b q h1 B2 h2 k)
 let κ:Nat→Nat:=fun i=>if i=id+128 then 3000 else if i=id+129 then 3001 else if i=a then 1000 else 1020
 let TN:Nat→Prop:=fun i=>i=id+128∨i=id+129∨i=a∨i=b
 let dW:Nat→Value:=fun i=>if i=id+128 then ψ' 3000 else if i=id+129 then ψ' 3001 else ψ i
 let H:Hp:=(bI.new (.agg [.bH (id+128),.bH (id+129)]) [(id+128,.own (.row 52 dh) xs),(id+129,.own (.row 118 dK) ys)]).hp h
 have s0:dW (id+128)=ψ' 3000:=if_pos rfl
 have s1:dW (id+129)=ψ' 3001:=(if_neg (by omega)).trans (if_pos rfl)
 have sn:∀i,i≠id+128→i≠id+129→dW i=ψ i:=fun i k1 k2=>(if_neg k1).trans (if_neg k2)
 have H0:H (id+128)=some (.own (.row 52 dh) xs):=by show(bI.hp h _) _=_;simp[bI.hp,Heap.get]
 have H1:H (id+129)=some (.own (.row 118 dK) ys):=by show(bI.hp h _) _=_;simp[bI.hp,Heap.get]
 have Hn:∀i,i≠id+128→i≠id+129→H i=h i:=fun i k1 k2=>by show(bI.hp h _) _=_;simp[bI.hp,Heap.get,Ne.symm k1,Ne.symm k2]
 have Ha:H a=some (.own (.row 52 dh) xs):=(Hn a a0 a1).trans ha
 have Hb:H b=some (.own (.row 118 dK) ys):=(Hn b b0 b1).trans hb
 have kap:∀i,TN i→out (κ i)≠none∧ψ' (κ i)=dW i:=fun i hi=>by
  rcases hi with rfl|rfl|rfl|rfl
  ·have:κ (id+128)=3000:=if_pos rfl
   rw[this,o2,s0];exact⟨by simp,rfl⟩
  ·have:κ (id+129)=3001:=(if_neg (by omega)).trans (if_pos rfl)
   rw[this,o3,s1];exact⟨by simp,rfl⟩
  ·have:κ i=1000:=(if_neg a0).trans ((if_neg a1).trans (if_pos rfl))
   rw[this,o0,q0,sn i a0 a1];exact⟨by simp,rfl⟩
  ·have:κ i=1020:=(if_neg b0).trans ((if_neg b1).trans (if_neg (fun k=>nO k.symm)))
   rw[this,o1,q1,sn i b0 b1];exact⟨by simp,rfl⟩
 have agB:∀i j,TN i→TN j→κ i=κ j→i=j:=fun i j hi hj hk=>by
  have v1:κ (id+128)=3000:=if_pos rfl
  have v2:κ (id+129)=3001:=(if_neg (by omega)).trans (if_pos rfl)
  have v3:κ a=1000:=(if_neg a0).trans ((if_neg a1).trans (if_pos rfl))
  have v4:κ b=1020:=(if_neg b0).trans ((if_neg b1).trans (if_neg (fun k=>nO k.symm)))
  rcases hi with rfl|rfl|rfl|rfl<;>rcases hj with rfl|rfl|rfl|rfl<;>first|rfl|(rw[v1]at hk;first|(rw[v2]at hk;cases hk)|(rw[v3]at hk;cases hk)|(rw[v4]at hk;cases hk))|(rw[v2]at hk;first|(rw[v1]at hk;cases hk)|(rw[v3]at hk;cases hk)|(rw[v4]at hk;cases hk))|(rw[v3,v4]at hk;cases hk)|(rw[v4,v3]at hk;cases hk)
 have back:∀i q,TN i→ob (dW i)=some q→¬Z' q∧(w.heap.size≤q∨ob (ψ a)=some q∨ob (ψ b)=some q):=fun i q hi h2=>by
  obtain⟨k1,k2⟩:=kap i hi
  rw[←k2]at h2
  obtain⟨h3,h4⟩:=gd.live (κ i) q k1 h2
  exact⟨h3,h4.imp (fun h=>h) (UB q)⟩
 have rest:∀i,¬TN i→i≠id+128∧i≠id+129∧i≠a∧i≠b:=fun i hi=>⟨fun k=>hi (.inl k),fun k=>hi (.inr (.inl k)),fun k=>hi (.inr (.inr (.inl k))),fun k=>hi (.inr (.inr (.inr k)))⟩
 have mixed:∀i j q,TN i→¬TN j→h j≠none→ob (dW i)=some q→ob (ψ j)=some q→False:=fun i j q hi hj h2 h3 h4=>by
  obtain⟨_,_,k3,k4⟩:=rest j hj
  rcases (back i q hi h3).2 with k|k|k
  ·have:=g.bP ⟨j,h2,h4⟩;omega
  ·exact k3 (g.apart j a q h2 Kp h4 k)
  ·exact k4 (g.apart j b q h2 B2 h4 k)
 have ids:∀i,H i≠none→(h i≠none∧dW i=ψ i)∨N i:=fun i hi=>by
  by_cases k1:i=id+128
  ·exact .inr (k1▸Y6)
  by_cases k2:i=id+129
  ·exact .inr (k2▸nR1)
  ·rw[Hn i k1 k2]at hi
   exact .inl ⟨hi,sn i k1 k2⟩
 refine⟨V,Z',dW,e1,⟨zs,fun q hq=>(zf q hq).imp (fun h=>h) fun k=>k.imp (oh q) fun h=>h,keep,ids,⟨fun i ty cs k=>?_,fun i ok x k=>?_,fun i q h1 h2=>?_,fun i j q h1 h2 h3 h4=>?_,gd.jM⟩⟩,?_⟩
 ·have k1:i≠id+128:=fun e=>by rw[e]at k;have k:H (id+128)=some (.box ty cs):=k;rw[H0]at k;cases k
  have k2:i≠id+129:=fun e=>by rw[e]at k;have k:H (id+129)=some (.box ty cs):=k;rw[H1]at k;cases k
  have k3:i≠a:=fun e=>by rw[e]at k;have k:H a=some (.box ty cs):=k;rw[Ha]at k;cases k
  have k4:i≠b:=fun e=>by rw[e]at k;have k:H b=some (.box ty cs):=k;rw[Hb]at k;cases k
  have qo:h i=some (.box ty cs):=(Hn i k1 k2).symm.trans k
  obtain⟨gg,vs,f1,f2,f3,f4⟩:=g.box i ty cs qo
  exact⟨gg,vs,(sn i k1 k2).trans f1,(cT i gg k3 k4 (by rw[qo];simp) (by rw[f1];rfl)).trans f2,f3.move zs sm (fun j hj br=>(ids j br).resolve_right hj) (bu i ty cs qo),f4⟩
 ·by_cases k1:i=id+128
  ·subst k1
   have k:H (id+128)=some (.own ok x):=k
   rw[H0]at k;cases k
   rw[s0];exact gd.row 3000 _ _ o2
  by_cases k2:i=id+129
  ·subst k2
   have k:H (id+129)=some (.own ok x):=k
   rw[H1]at k;cases k
   rw[s1];exact gd.row 3001 _ _ o3
  have qo:h i=some (.own ok x):=(Hn i k1 k2).symm.trans k
  rw[sn i k1 k2]
  by_cases k3:i=a
  ·subst k3
   rw[ha]at qo;cases qo
   rw[←q0];exact gd.row 1000 _ _ o0
  by_cases k4:i=b
  ·subst k4
   rw[hb]at qo;cases qo
   rw[←q1];exact gd.row 1020 _ _ o1
  exact(g.row i ok x qo).kept zs sm fun q hq=>cT i q k3 k4 (by rw[qo];simp) hq
 ·by_cases h4:TN i
  ·obtain⟨k1,k2⟩:=back i q h4 h2
   refine⟨k1,?_⟩
   rcases k2 with k|k|k
   ·exact .inl (Nat.le_trans hB k)
   ·exact(g.live a q Kp k).2
   ·exact(g.live b q B2 k).2
  ·obtain⟨r1,r2,r3,r4⟩:=rest i h4
   have h1:h i≠none:=by rw[←Hn i r1 r2];exact h1
   rw[sn i r1 r2]at h2
   refine⟨fun hz=>?_,(g.live i q h1 h2).2⟩
   rcases zf q hz with k|k|k
   ·exact(g.live i q h1 h2).1 k
   ·rcases UB q k with k|k
    ·exact r3 (g.apart i a q h1 Kp h2 k)
    ·exact r4 (g.apart i b q h1 B2 h2 k)
   ·have:=g.bP ⟨i,h1,h2⟩;omega
 ·by_cases hi:TN i<;>by_cases hj:TN j
  ·obtain⟨k1,k2⟩:=kap i hi
   obtain⟨k3,k4⟩:=kap j hj
   rw[←k2]at h3
   rw[←k4]at h4
   exact agB i j hi hj (gd.apart _ _ q k1 k3 h3 h4)
  ·obtain⟨r1,r2,r3,r4⟩:=rest j hj
   rw[sn j r1 r2]at h4
   exact(mixed i j q hi hj (by rw[←Hn j r1 r2];exact h2) h3 h4).elim
  ·obtain⟨r1,r2,r3,r4⟩:=rest i hi
   rw[sn i r1 r2]at h3
   exact(mixed j i q hj hi (by rw[←Hn i r1 r2];exact h1) h4 h3).elim
  ·obtain⟨r1,r2,_,_⟩:=rest i hi
   obtain⟨t1,t2,_,_⟩:=rest j hj
   rw[sn i r1 r2]at h3
   rw[sn j t1 t2]at h4
   exact g.apart i j q (by rw[←Hn i r1 r2];exact h1) (by rw[←Hn j t1 t2];exact h2) h3 h4
 ·have hr:az Z' ψ' out w' (.agg [.bH 3000,.bH 3001]) V:=hr
  simp only[az,an]at hr
  obtain⟨vs,rfl,u1,_,tH,⟨d1,d2⟩,u2,_,rfl,⟨d3,d4⟩,rfl⟩:=hr
  show az Z' dW H w' (.agg [.bH (id+128),.bH (id+129)]) (.agg vs)
  simp only[az,an]
  exact⟨vs,rfl,u1,[u2],tH,⟨d1,fun _=>(d2 (by rw[o2];simp)).trans s0.symm⟩,u2,[],rfl,⟨d3,fun _=>(d4 (by rw[o3];simp)).trans s1.symm⟩,rfl⟩
end Go.Vs
namespace Go.Vs
open Go.Proofs
abbrev UD:(f:FuncId)→(g:aN)→Option (g.A→Option g.B):=fun _ _=>none
section
variable (SG:FuncId→Option aN) (AN:FuncId→Nat→Option Shape)
noncomputable abbrev UE:FT:=Fix Tryz.prog Eqs SG AN UD
noncomputable abbrev LXG(f:FuncId)(g:aN)(fn:Func):JT g:=Lp Tryz.prog Eqs SG AN UD f g fn
end
theorem FF{SG:FuncId→Option aN}{AN:FuncId→Nat→Option Shape}{f:FuncId}{g:aN}{fn:Func}{x:g.A}{y:g.B}(hb:body Tryz.prog (f%1000)=some (fn,fn.body.getD .skip))(hc:(decide (g.ps.length≤fn.ntmps)&&decide (g.bs.length≤8))=true)
  (h:RB SG AN f g fn (UE SG AN) (LXG SG AN f g fn) x=some y):UE SG AN f g x=some y:=Lv rfl hb hc h
theorem RC{SG:FuncId→Option aN}{AN:FuncId→Nat→Option Shape}{f j:Nat}{g:aN}{fn:Func}{sh:Shape}{x:sh.T}{y:g.B}(hs:(match aM Tryz.prog (f%1000) j with | .inLoop _::_=>true|_=>false)=true)
  (h:XP SG AN f j g fn sh (UE SG AN) (LXG SG AN f g fn) x=some y):LXG SG AN f g fn sh (aM Tryz.prog (f%1000) j) x=some y:=by
 unfold XP at h
 generalize aM Tryz.prog (f%1000) j=s at hs h ⊢
 split at hs
 ·exact Qg h
 ·cases hs
theorem RD{α β:Type}{o:Option α}{f:α→Option β}{a:α}{r:Option β}(h:o=some a)(k:f a=r):o.bind f=r:=by rw[h];exact k
theorem B6{α:Type}{c:Bool}{x y r:α}(h:c=true)(k:x=r):cond c x y=r:=by subst h;exact k
theorem UF{α:Type}{c:Bool}{x y r:α}(h:c=false)(k:y=r):cond c x y=r:=by subst h;exact k
theorem RE{R:Type}{f:Nat→Option R}{r:R}(h0:f 0=some r)(h1:f 1=some r):sK 2 f=some r :=
 mS (by omega) fun j hj=>by
  rcases j with _|_|j
  ·exact h0
  ·exact h1
  ·omega
theorem abC(xs:List ah)(h:aO 0 xs.length=true):UE Wq An0 500127 Uz ((),(xs,()))=some ((xs,()),(xs,())):=by
 refine FF (fn:=Tryz.f127) (by kernel_rfl) (by kernel_rfl) ((aby _ _ _).trans ?_)
 cases xs with
 |nil=>exact B6 rfl (RE rfl rfl)
 |cons x r=>exact UF rfl (B6 h rfl)
theorem abD(xs:List ai)(h:aO 0 xs.length=true):UE Wq An0 500128 UA ((),(xs,()))=some ((xs,()),(xs,())):=by
 refine FF (fn:=Tryz.f128) (by kernel_rfl) (by kernel_rfl) ((abz _ _ _).trans ?_)
 cases xs with
 |nil=>exact B6 rfl (RE rfl rfl)
 |cons x r=>exact UF rfl (B6 h rfl)
theorem L0{f:FuncId}{g:aN}(h:Wq f=some g):(f,g)∈XM:=by
 unfold Wq at h
 obtain⟨p,hp,rfl⟩:=Option.map_eq_some_iff.1 h
 have h1:=List.mem_of_find?_eq_some hp
 have h2:=List.find?_some hp
 have:p.1=f:=by simpa using h2
 subst this
 exact h1
theorem L3{f:FuncId}{g:aN}(h:TM f=some g):(f,g)∈XN:=by
 unfold TM at h
 obtain⟨p,hp,rfl⟩:=Option.map_eq_some_iff.1 h
 have h1:=List.mem_of_find?_eq_some hp
 have h2:=List.find?_some hp
 have:p.1=f:=by simpa using h2
 subst this
 exact h1
noncomputable def Kq(l:List (Nat×aN)):Bool:=l.all fun p=>match Tryz.prog.funcs[p.1%1000]? with|some fn => !(fn.name== "runtime.NumGoroutine")&&fn.body.isSome|none=>false
theorem zR{l:List (Nat×aN)}(key:Kq l=true){f:FuncId}{g:aN}(hm:(f,g)∈l):jq Tryz.prog (f%1000):=by
 have:=List.all_eq_true.1 key _ hm
 simp only at this
 split at this
 ·rename_i fn hf
  simp only[Bool.and_eq_true,Bool.not_eq_true']at this
  exact⟨fn,hf,this.1,this.2⟩
 ·cases this
theorem abE{f:FuncId}{g:aN}{x:g.A}{y:g.B}(hs:Wq f=some g)(h:UE Wq An0 f g x=some y):DN Tryz.prog f g x y :=
 zM (fun f g u hf hu=>by
  have hm:=L0 hf
  simp only[XM,List.mem_cons,List.not_mem_nil,or_false,Prod.mk.injEq]at hm
  rcases hm with⟨_,rfl⟩|⟨_,rfl⟩<;>cases hu) B5 (fun f g hf=>zR (by kernel_rfl) (L0 hf)) sr (fun f g u x y _ hu _=>by cases hu) hs h
theorem UG:iz Tryz.prog 127 (ss 52 dh):=tk rfl fun xs h=>by
 have:=abE (by kernel_rfl) (abC xs h)
 exact this
theorem UH:iz Tryz.prog 128 (ss 118 dK):=tk rfl fun xs h=>by
 have:=abE (by kernel_rfl) (abD xs h)
 exact this
theorem abF(l:List ae)(hl:l.length≤50000000):UE TM XO 110 ze ((l,()),())=some ((l,()),()):=by
 refine FF (fn:=Tryz.f110) (by kernel_rfl) (by kernel_rfl) ((abA _ _ _).trans ?_)
 cases l with
 |nil=>exact B6 rfl (RE rfl rfl)
 |cons x r=>exact UF rfl (B6 (decide_eq_true (show 0+(x::r).length≤1073741824 by omega)) rfl)
theorem RF{i n:Nat}(h:i<n)(hn:n≤50000000):IntKind.wrap .i64 ((i:Int)+1)=((i+1:Nat):Int):=by
 unfold IntKind.wrap
 simp only[IntKind.bits,IntKind.signed]
 simp
 split<;>omega
theorem abG(xs:List ah)(ys:List ai)(h:pJ xs ys=true):UE TM XO 500096 lh ((),(xs,(ys,())))=some (((xs,(ys,())),()),(xs,(ys,()))):=by
 unfold pJ at h
 simp only[Bool.and_eq_true,decide_eq_true_eq,List.all_eq_true]at h
 obtain⟨hx,hy,hr⟩:=h
 refine FF (fn:=Tryz.f96) (by kernel_rfl) (by kernel_rfl) ((abB _ _ _).trans ?_)
 refine B6 (decide_eq_true (show 0+xs.length≤1073741824 by omega)) (B6 (decide_eq_true (show 0+ys.length≤1073741824 by omega)) ?_)
 have loop:∀(n i:Nat) (out:List ah),i+n=xs.length→out=xs→LXG TM XO 500096 lh Tryz.f96 H7 (aM Tryz.prog 96 0) ((((xs.length:Nat):Int),((i:Int),())),(((([]:List ah),(([]:List ai),())),((out,(ys,())),())),(xs,(ys,()))))=some (((xs,(ys,())),()),(xs,(ys,()))):=by
  intro n
  induction n with
  |zero =>
   intro i out hi ho
   subst ho
   refine RC (j:=0) (by kernel_rfl) ((LZ _ _ _).trans ?_)
   exact UF (decide_eq_false (show ¬((i:Int)<((out.length:Nat):Int)) by omega)) rfl
  |succ n ih =>
   intro i out hi ho
   have aF:i<xs.length:=by omega
   have Rz:out[i]? = some xs[i]:=by rw[ho];exact List.getElem?_eq_getElem aF
   have Wr:out.length=xs.length:=by rw[ho]
   have c1:(decide ((0:Int)≤(i:Int))&&decide ((i:Int)<((out.length:Nat):Int)))=true:=by
    rw[decide_eq_true (show(0:Int)≤(i:Int) by omega),decide_eq_true (show(i:Int)<((out.length:Nat):Int) by omega)];rfl
   refine RC (j:=0) (by kernel_rfl) ((LZ _ _ _).trans ?_)
   refine B6 (decide_eq_true (show((i:Int)<((xs.length:Nat):Int)) by omega)) (B6 c1 (RD Rz ?_))
   refine RD (abF xs[i].2.1 (hr _ (List.getElem_mem aF))) ?_
   refine B6 c1 (RD Rz ?_)
   have hs:out.set i (xs[i].1,(xs[i].2.1,xs[i].2.2))=xs:=by
    subst ho;exact List.set_getElem_self aF
   have:=ih (i+1) (out.set i (xs[i].1,(xs[i].2.1,xs[i].2.2))) (by omega) hs
   rw[←RF aF hx]at this
   exact this
 exact loop xs.length 0 xs (by omega) rfl
theorem agC{f:FuncId}{g:aN}{x:g.A}{y:g.B}(hs:TM f=some g)(h:UE TM XO f g x=some y):DN Tryz.prog f g x y :=
 zM (fun f g u hf hu=>by
  have hm:=L3 hf
  simp only[XN,List.mem_cons,List.not_mem_nil,or_false,Prod.mk.injEq]at hm
  rcases hm with⟨_,rfl⟩|⟨_,rfl⟩|⟨rfl,rfl⟩|⟨rfl,rfl⟩
  ·cases hu
  ·cases hu
  ·cases hu;intro Z ψ h w B0 O N hh id e vs us;exact UG
  ·cases hu;intro Z ψ h w B0 O N hh id e vs us;exact UH) B5 (fun f g hf=>zR (by kernel_rfl) (L3 hf)) sr (fun f g u x y _ hu _=>by cases hu) hs h
theorem NM:iz Tryz.prog 96 Fg:=FE fun xs ys h=>by
 have:=agC (by kernel_rfl) (abG xs ys h)
 exact this
end Go.Vs
namespace Go.Vs
open Go.Proofs Go.RowKit
abbrev ajh:Array Value:=#[.slice none 0 0,.slice none 0 0,.slice none 0 0,.int .i64 0,.slice none 0 0]
end Go.Vs
namespace Go.Vs
open Go.Proofs
theorem RG:∀f g u,Sg f=some g→g.x=some u→iz Tryz.prog (f%1000) u:=fun f g u h hu=>by
 have hm:=RA h
 have key:(sgs.all fun p=>(p.2.x.isNone || (p.1==176 || (p.1==211 || (p.1==233 || (p.1==177 || (p.1==186 || (p.1==220 || (p.1==500096 || (p.1==142))))))))))=true:=by kernel_rfl
 have:=List.all_eq_true.1 key _ hm
 simp only[hu,Option.isNone_some,Bool.false_or,Bool.or_eq_true,beq_iff_eq]at this
 rcases this with rfl|rfl|rfl|rfl|rfl|rfl|rfl|rfl
 ·have e:Sg 176=some VZ:=by kernel_rfl
  rw[e]at h;cases h;cases hu;intro Z ψ h w B0 O N hh id e vs us;exact ud (k:=dh) XH
 ·have e:Sg 211=some V7:=by kernel_rfl
  rw[e]at h;cases h;cases hu;intro Z ψ h w B0 O N hh id e vs us;exact ud (k:=dK) XJ
 ·have e:Sg 233=some V8:=by kernel_rfl
  rw[e]at h;cases h;cases hu;intro Z ψ h w B0 O N hh id e vs us;exact ud (k:=cX) XL
 ·have e:Sg 177=some V5:=by kernel_rfl
  rw[e]at h;cases h;cases hu;intro Z ψ h w B0 O N hh id e vs us;exact B4 (k:=dh) XI
 ·have e:Sg 186=some V6:=by kernel_rfl
  rw[e]at h;cases h;cases hu;intro Z ψ h w B0 O N hh id e vs us;exact B4 (k:=dK) XK
 ·have e:Sg 220=some V9:=by kernel_rfl
  rw[e]at h;cases h;cases hu;intro Z ψ h w B0 O N hh id e vs us;exact yH (k:=bp) Uw
 ·have e:Sg 500096=some HN:=by kernel_rfl
  rw[e]at h;cases h;cases hu;intro Z ψ h w B0 O N hh id e vs us;exact NM
 ·have e:Sg 142=some Wg:=by kernel_rfl
  rw[e]at h;cases h;cases hu;intro Z ψ h w B0 O N hh id e vs us;exact yH (k:=iZ) Ux
end Go.Vs
