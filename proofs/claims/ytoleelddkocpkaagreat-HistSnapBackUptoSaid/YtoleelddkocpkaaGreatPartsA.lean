/- The walk of the function that -/
import Derived.Test.YtoleelddkocpkaaGreatFacesB
import Derived.Great.BuildSlice
set_option linter.unusedSimpArgs false
set_option linter.unusedVariables false
namespace Go.Vs
open Go.Proofs
variable {P:Program} {ops:Array Oper} {Q:Exit→Act→World→Prop} {ρC:Operand→Value} {o:Oper} {w w':World} {v:Value}
theorem lg{x:Operand}(h:o.op=.move x):(execOp ρC o).run P w=.ok (.value (ρC x)) w:=by simp_all [execOp]
theorem uX{x:Operand}(h:o.op=.assign x):(execOp ρC o).run P w=.ok (.value (ρC x)) w:=by simp_all [execOp]
theorem Cc{t:TypeId}{x:Operand}(h:o.op=.load t x)(hr:(Instr.loadAt t (ρC x)).run P w=.ok v w'):(execOp ρC o).run P w=.ok (.value v) w':=by unfold execOp;simp_all
theorem Mj{t:TypeId}{x:Operand}{f:Nat}(h:o.op=.fieldAddr t x f)(hr:(Instr.fieldAt t (ρC x) f).run P w=.ok v w'):(execOp ρC o).run P w=.ok (.value v) w':=by unfold execOp;simp_all
theorem ET{t:TypeId}{x i:Operand}(h:o.op=.indexAddr t x i)(hr:(Instr.indexAt t (ρC x) (ρC i)).run P w=.ok v w'):(execOp ρC o).run P w=.ok (.value v) w':=by unfold execOp;simp_all
theorem WR{t:TypeId}{x:Operand}(h:o.op=.buildSlice t 1 #[(0,x)])(hr:(Instr.buildSlice t 1 #[(0,ρC x)]).run P w=.ok v w'):(execOp ρC o).run P w=.ok (.value v) w':=by unfold execOp;simp_all
theorem WS{t:TypeId}{a x:Operand}(h:o.op=.store t a x)(hr:(Instr.storeAt t (ρC a) (ρC x)).run P w=.ok () w'):(execOp ρC o).run P w=.ok .skip w':=by unfold execOp;simp_all
theorem HI{t:TypeId}{x y:Operand}(h:o.op=.call { callee:=.builtin .append,args:=#[x,y],argTypes:=#[t,t] })(hr:(Builtin.append_ #[t,t] o.type #[ρC x,ρC y]).run P w=.ok v w'):(execOp ρC o).run P w=.ok (.value v) w':=by simp_all [execOp,Go.resolve,invoke,builtin,Sem.run_bind,Sem.run_pure,Result.andThen_ok,List.map_toArray,List.map_cons,List.map_nil]
theorem WT{t e:TypeId}{x:Operand}{A:Option Addr}{n c:Nat}(h:o.op=.call { callee:=.builtin .len,args:=#[x],argTypes:=#[t] })(hu:P.underlying t=some (.slice e))(hx:ρC x=.slice A n c):(execOp ρC o).run P w=.ok (.value (.int .i64 (n:Int))) w:=by unfold execOp;rw[h];simp[Go.resolve,invoke,builtin,Builtin.len_,run_underlying hu,hx,goInt]
theorem yv{i:Nat}{K:Act→World→Prop}{a:Act}(ho:ops[i]? = some o)(hg:o.guard=none)(hr:(execOp a.eval o).run P w=.ok (.value v) w')(hk:K (a.put o.dst v) w'):wpOp P ops Q i K a w:=by unfold wpOp;simp only[ho,mI hg,if_true];refine .inl ?_;unfold Oper.wp;rw[hr];exact hk
theorem Zr{i:Nat}{K:Act→World→Prop}{a:Act}(ho:ops[i]? = some o)(hg:o.guard=none)(hr:(execOp a.eval o).run P w=.ok .skip w')(hk:K (a.put o.dst undef) w'):wpOp P ops Q i K a w:=by unfold wpOp;simp only[ho,mI hg,if_true];refine .inl ?_;unfold Oper.wp;rw[hr];exact hk
def unl(L:Array Bool):Nat:=L.toList.countP (·==false)
theorem P0{L:Array Bool}{i:Nat}(h:L.getD i true=false):unl (L.setIfInBounds i true)+1=unl L:=by
 have hi:i<L.size:=by apply Classical.byContradiction;intro k;rw[Array.getD_eq_getD_getElem?,Array.getElem?_eq_none (by omega)]at h;simp at h
 have hv:L.toList[i]? = some false:=by rw[Array.getElem?_toList,Array.getElem?_eq_getElem hi];rw[Array.getD_eq_getD_getElem?,Array.getElem?_eq_getElem hi]at h;simpa using h
 unfold unl;rw[Array.toList_setIfInBounds];have key:∀(l:List Bool) (i:Nat),l[i]? = some false→(l.set i true).countP (·==false)+1=l.countP (·==false):=by
  intro l
  induction l with
  |nil=>intro i h;simp at h
  |cons b r ih =>
   intro i h
   cases i with
   |zero=>simp at h;subst h;simp
   |succ i =>have:=ih i (by simpa using h);rw[List.set_cons_succ,List.countP_cons,List.countP_cons];omega
 exact key _ _ hv
theorem P1{md:Region.Mode}(I:Array Bool→Act→World→Prop)(step:∀L a w i,I L a w→i∈Region.ready md ops L→wpOp P ops Q i (fun a' w'=>I (L.setIfInBounds i true) a' w') a w) (done:∀L a w,I L a w→Region.ready md ops L=[]→Q .normal a w):∀(n:Nat) (L:Array Bool) (a:Act) (w:World),unl L≤n→I L a w→wpAny P md ops Q n L a w
 |0,L,a,w,hn,hI=>by
  have hr:Region.ready md ops L=[]:=by
   cases h:Region.ready md ops L with
   |nil=>rfl
   |cons i r =>
    have hm:i∈Region.ready md ops L:=by rw[h];simp
    grind [P0,mem_ready]
  exact⟨hr,done L a w hI hr⟩
 |n+1,L,a,w,hn,hI=>by refine⟨fun hr=>done L a w hI hr,fun i hi=>?_⟩;have h1:=P0 (mem_ready.1 hi).1;exact wpOp_mono (fun a' w' hI'=>P1 I step done n _ a' w' (by omega) hI') (step L a w i hI hi)
end Go.Vs
namespace Go.Vs
open Go.Proofs
variable {Z Z' Z0:Nat→Prop} {ψ ψ' ψ0:Nat→Value} {h h':Hp} {w w' w0 W W':World} {B0:Nat} {O N:Nat→Prop}
noncomputable abbrev r3(i:Nat):Code:=rg Tryz.f225 i
noncomputable abbrev cB3:Code:=.seq (r3 5) (.seq (.seq (r3 6) (.cond (.tmp 19) (.seq (r3 7) (r3 8)) .skip)) (.seq (r3 9) (r3 10)))
noncomputable abbrev cL3:Code:=.seq (r3 4) (.seq (.cond (.tmp 13) .skip (.exit 0)) (.seq (.block 1 cB3) (r3 11)))
theorem Zs:Tryz.f225.body=some (.seq (r3 0) (.seq (r3 1) (.seq (r3 2) (.seq (.seq (r3 3) (.block 0 (.loop cL3))) (.seq (r3 12) .ret))))):=by kernel_rfl
abbrev Pm:=List (Int×Int)
abbrev rw3:List (Nat×Nat×OK):=[(3,31000,.map iT iT),(10,31001,.row 3 iT)]
abbrev VE:Shape:=⟨[(11,iT),(12,iT)],[(.slot 1,20001,Oh)],[(3,31000,.map iT iT),(10,31001,.row 3 iT),(4,31002,.row 163 (.sl fZ))],[]⟩
abbrev V0:Shape:=⟨[(11,iT),(12,iT)],[(.slot 1,20001,Oh)],rw3,[]⟩
abbrev V1:Shape:=⟨[(13,.bool),(11,iT),(12,iT)],[(.slot 1,20001,Oh)],rw3,[]⟩
abbrev V2:Shape:=⟨[(19,.bool),(5,iT),(6,iT),(11,iT),(12,iT)],[(.slot 1,20001,Oh)],rw3,[]⟩
abbrev V3:Shape:=⟨[(5,iT),(6,iT),(11,iT),(12,iT)],[(.slot 1,20001,Oh)],rw3,[]⟩
abbrev V4:Shape:=⟨[(7,iT),(5,iT),(11,iT),(12,iT)],[(.slot 1,20001,Oh)],rw3,[]⟩
theorem ana(F:FT)(d:ak):(rn F 47 [] (r3 0) { tmps:=[(0,b6 dK d)],heap:=[] } fun st=>rn F 47 [] (r3 1) st fun st=>rn F 47 [] (r3 2) st fun st=>rn F 47 [] (r3 3) st (cO VE)) =(F 236 iE ((d,()),())).bind fun(y:(((List Int)×Unit)×Unit))=>some (((((List.length y.1.1):Nat):Int),((0:Int),())),(((d,()),()),(([]:Pm),(y.1.1,(([]:List (List ID)),()))))):=by kernel_rfl
theorem m4(F:FT)(n i:Int)(x:_):rn F 47 [4] (r3 4) (aw V0 (((n,((i,()):Int×Unit)):Int×(Int×Unit)),x)) (cO V1)=some ((decide (i<n),(n,(i,()))),x):=by kernel_rfl
theorem m5(F:FT)(b:Bool)(n i:Int)(d:ak)(p:Pm)(L:List Int):(rn F 47 [4] (r3 5) (aw V1 ((b,(n,(i,()))),(((d,()),()),(p,(L,()))))) fun st=>rn F 47 [4] (r3 6) st (cO V2)) = cond (decide ((0:Int)≤i)&&decide (i<((L.length:Nat):Int))) ((L[Int.toNat i]?).bind fun(y:Int)=>some ((y==i,(i,(y,(n,(i,()))))),(((d,()),()),(p,(L,()))))) none:=by kernel_rfl
theorem m9(F:FT)(n i y j:Int)(d:ak)(p:Pm)(L:List Int):rn F 47 [4] (r3 9) (aw V3 ((i,(y,(n,(j,())))),(((d,()),()),(p,(L,()))))) (cO V4)=some ((((fM (.int .i64) y p).getD (0:Int)),(i,(n,(j,())))),(((d,()),()),(p,(L,())))):=by kernel_rfl
theorem m11(F:FT)(n i:Int)(x:_):rn F 47 [4] (r3 11) (aw V0 (((n,((i,()):Int×Unit)):Int×(Int×Unit)),x)) (cO V0)=some ((n,(IntKind.wrap .i64 (i+1),())),x):=by kernel_rfl
abbrev st7(n i y j m:Int)(d:ak)(p:Pm)(L:List Int):St:={ tmps:=[(20,.bN 31000),(21,.int .i64 i),(23,.int .i64 m)]++(aw V3 ((i,(y,(n,(j,())))),(((d,()),()),(p,(L,()))))).tmps,heap:=(aw V3 ((i,(y,(n,(j,())))),(((d,()),()),(p,(L,()))))).heap }
noncomputable def o3(r i:Nat):Oper:=((opsOf (r3 r))[i]?).getD { dst:=none,op:=.move (.tmp 0),type:=0,pos:= "",after:=#[],guard:=none }
theorem m7(F:FT)(n i y j m:Int)(d:ak)(p:Pm)(L:List Int):bJ Tryz.prog Eqs SgF F 7 false (opsOf (r3 7)) #[] [(4,o3 7 4)] (st7 n i y j m d p L) (cO V3)=some ((i,(y,(n,(j,())))),(((d,()),()),(jN (.int .i64) i m p,(L,())))):=by kernel_rfl
structure Jr(W:World)(lv:Value)(vs:List Value)(q:Nat):Prop where
 o:dW W 163 1 lv vs.length vs
 i:∀v∈vs,∃n cs,dW W 35 2 v n cs∧n≤q
 d:∀(j k:Nat) v u b,vs[j]? = some v→vs[k]? = some u→ob v=some b→ob u=some b→j=k
 a:∀v∈vs,∀b,ob v=some b→ob lv≠some b
def Xj(lv:Value)(vs:List Value)(b:Nat):Prop:=ob lv=some b∨∃v∈vs,ob v=some b
theorem Jr.kept{lv:Value}{vs:List Value}{q:Nat}(j:Jr W lv vs q)(hs:∀b,Xj lv vs b→W'.heap[b]? = W.heap[b]?):Jr W' lv vs q :=⟨j.o.kept fun g hg=>hs g (.inl hg),fun v hv=>by obtain⟨n,cs,h1,h2⟩:=j.i v hv;exact⟨n,cs,h1.kept fun g hg=>hs g (.inr ⟨v,hv,hg⟩),h2⟩,j.d,j.a⟩
theorem Jr.up{lv:Value}{vs:List Value}{q q':Nat}(j:Jr W lv vs q)(h:q≤q'):Jr W lv vs q' :=⟨j.o,fun v hv=>by obtain⟨n,cs,h1,h2⟩:=j.i v hv;grind,j.d,j.a⟩
theorem dW.lt{e size n:Nat}{v:Value}{vs:List Value}(h:dW W e size v n vs){b:Nat}(hb:ob v=some b):b<W.heap.size:=by
 rcases h.2 with⟨h0,A,rfl⟩|⟨g,cap,cur,rfl,hc,hh,_⟩
 ·cases A<;>simp[ob]at hb
 ·simp only[ob]at hb
  grind
theorem Jr.lt{lv:Value}{vs:List Value}{q:Nat}(j:Jr W lv vs q){b:Nat}(hb:Xj lv vs b):b<W.heap.size:=by
 rcases hb with hb|⟨v,hv,hb⟩
 ·exact j.o.lt hb
 ·obtain⟨n,cs,h1,_⟩:=j.i v hv;exact h1.lt hb
end Go.Vs
namespace Go.Vs
open Go.Proofs
variable {Z Z' Z0:Nat→Prop} {ψ ψ' ψ0:Nat→Value} {h h':Hp} {w w' w0 W W' W1 W2:World} {B0:Nat} {O N:Nat→Prop}
structure Gw(L:Nat→Prop)(W W':World):Prop where
 os:W'.os=W.os
 tape:W'.tape=W.tape
 output:W'.output=W.output
 size:W.heap.size≤W'.heap.size
 block:∀b,b<W.heap.size→¬L b→W'.heap[b]? = W.heap[b]?
theorem Gw.refl{L:Nat→Prop}(W:World):Gw L W W:=⟨rfl,rfl,rfl,acf _,fun _ _ _=>rfl⟩
theorem Gw.trans{L:Nat→Prop}(s:Gw L W W1)(t:Gw L W1 W2):Gw L W W2 :=⟨t.os.trans s.os,t.tape.trans s.tape,t.output.trans s.output,acE s.size t.size,fun b h1 h2=>(t.block b (ads h1 s.size) h2).trans (s.block b h1 h2)⟩
theorem Gw.less{L L':Nat→Prop}(s:Gw L W W1)(h:∀b,b<W.heap.size→L b→L' b):Gw L' W W1:=⟨s.os,s.tape,s.output,s.size,fun b h1 h2=>s.block b h1 fun k=>h2 (h b h1 k)⟩
theorem Gw.alloc{L:Nat→Prop}(W:World)(o:Obj):Gw L W (W.alloc o):=⟨rfl,rfl,rfl,by simp_all,fun b hb _=>heap_alloc_old W _ hb⟩
theorem Gw.grown{row:Option Nat}(h:W.grownBy W1 row):Gw (fun b=>row=some b) W W1:=⟨h.os,h.tape,h.output,h.size,fun b hb hn=>h.block b hb fun e=>hn e.symm⟩
theorem Gw.set(W:World)(g:Nat)(arr:Array Value){cur:Array Value}{ty:TypeId}(hg:W.heap[g]? = some (.cells cur ty (0,0))):Gw (·=g) W (W.setRow g arr):=by have k:=cT.setRow (ψ:=fun _=>.slice (some ⟨g,0,none⟩) 1 1) (h:=fun _=>some (.box 0 [])) (w:=W) (gg:=g) ⟨0,by simp,by simp[ob]⟩ arr;exact⟨k.os,k.tape,k.output,k.size,fun b _ hb=>setRow_other _ (fun e=>hb e.symm)⟩
theorem Gw.drawn{L:Nat→Prop}(W:World):Gw L W { W with drawn:=W.drawn+1 }:=⟨rfl,rfl,rfl,acf _,fun _ _ _=>rfl⟩
theorem SB(W:World)(o:Obj):(W.alloc o).heap[W.heap.size]? = some o:=by show(W.heap.push o)[W.heap.size]? = _;simp
abbrev EU:Value:=.slice none 0 0
theorem P2:∃i z,oJ Tryz.prog 163 (.sl fZ) i z:=cj (by kernel_rfl)
theorem ahd:∃i z,oJ Tryz.prog 35 fZ i z:=cj (by kernel_rfl)
theorem Mk:Tryz.prog.underlying 235=some (.slice 163):=by kernel_rfl
theorem aa6:Tryz.prog.underlying 163=some (.slice 35):=by kernel_rfl
theorem WU(x a:Value)(cs:Array Value)(hc:x.cells=#[a])(hz:cs.size=1):Instr.fill (fun i=>some (i*1,1)) cs [(0,x)]=some #[a]:=by
 obtain⟨l⟩:=cs
 match l,hz with
 |[z],_=>simp[Instr.fill,hc]
theorem WV(x a b:Value)(cs:Array Value)(hc:x.cells=#[a,b])(hz:cs.size=2):Instr.fill (fun i=>some (i*2,2)) cs [(0,x)]=some #[a,b]:=by
 obtain⟨l⟩:=cs
 match l,hz with
 |[z,y],_=>simp[Instr.fill,hc]
theorem Ml(W:World){t e:TypeId}{k:K}{i:TypeInfo}{z:Value}(ht:Tryz.prog.underlying t=some (.slice e))(he:oJ Tryz.prog e k i z)(x:Value)(hx:x.cells.size=k.sz)(hs:k.sz=1∨k.sz=2) :
  (Instr.buildSlice t 1 #[(0,x)]).run Tryz.prog W=.ok (.slice (some ⟨W.heap.size,0,none⟩) 1 1) (W.alloc (.cells x.cells e)):=by
 refine run_buildSlice W t e 1 _ x.cells i z ht he.info he.zero (by rw[he.size];omega) (by rw[he.size];omega) ?_;have hz:((Array.range (1*i.size)).map (z.cells[· % z.cells.size]!)).size=k.sz:=by rw[he.size];simp
 generalize (Array.range (1*i.size)).map (z.cells[· % z.cells.size]!)=zs at hz;rw[he.size];obtain⟨cs,MX⟩:∃cs,cs=x.cells:=⟨_,rfl⟩;rw[←MX]at hx;obtain⟨l⟩:=cs;rcases hs with hs|hs
 ·rw[hs]at hx hz ⊢
  match l,hx with
  |[a],_=>grind [WU]
 ·rw[hs]at hx hz ⊢
  match l,hx with
  |[a,b],_=>grind [WV]
theorem ahe(W:World){k:K}{e:TypeId}{x:Value}(hx:x.cells.size=k.sz)(h1:∀q∈x.cells.toList,q.oneCell'=true):Yf (W.alloc (.cells x.cells e)) k.sz (.slice (some ⟨W.heap.size,0,none⟩) 1 1) 1 x.cells.toList:=by refine⟨by simpa using hx,h1,.inr ⟨_,_,rfl,fun j q hj=>?_⟩⟩;rw[ct,Nat.zero_add];simp_all
theorem dW.sub{e size n:Nat}{v:Value}{vs:List Value}(h:dW W e size v n vs){L:Nat→Prop}(s:Gw L W W1)(hl:∀b,ob v=some b→¬L b):dW W1 e size v n vs:=h.kept fun g hg=>s.block g (h.lt hg) (hl g hg)
theorem Jr.sub{lv:Value}{vs:List Value}{q:Nat}(j:Jr W lv vs q){L:Nat→Prop}(s:Gw L W W1)(hl:∀b,Xj lv vs b→¬L b):Jr W1 lv vs q:=j.kept fun b hb=>s.block b (j.lt hb) (hl b hb)
theorem acQ{lv:Value}{vs:List Value}{q:Nat}(j:Jr W lv vs q)(hq:vs.length+1≤fB)(ty:TypeId) :
  ∃Oj W2,(Builtin.append_ #[235,235] ty #[lv,.slice (some ⟨W.heap.size,0,none⟩) 1 1]).run Tryz.prog (W.alloc (.cells #[EU] 163))=.ok Oj W2∧Jr W2 Oj (vs++[EU]) q∧Gw (Xj lv vs) W W2∧∀b,Xj Oj (vs++[EU]) b→Xj lv vs b∨W.heap.size≤b:=by
 obtain⟨i,z,he⟩:=P2;have g1:Gw (Xj lv vs) W (W.alloc (.cells #[EU] 163)):=Gw.alloc _ _;have j1:Jr (W.alloc (.cells #[EU] 163)) lv vs q:=j.sub (L:=fun _=>False) (Gw.alloc _ _) fun _ _ h=>h;obtain⟨Oj,W2,dn,h4,h5,h6⟩:=dZ (P:=Tryz.prog) (ty:=ty) Mk he j1.o (ahe W (k:=.sl fZ) (x:=EU) rfl (by intro q hq;simp[Value.cells]at hq;subst hq;rfl)) hq;have g2:=Gw.grown h5;have oV:∀b,ob Oj=some b→ob lv=some b∨W.heap.size≤b:=fun b hb=>by
  grind [World.size_alloc]
 refine⟨Oj,W2,dn,⟨?_,?_,?_,?_⟩,g1.trans (g2.less fun b _ h=>.inl h),?_⟩
 ·rw[List.length_append];exact h4
 ·intro v hv;rcases ab6.1 hv with hv|hv
  ·obtain⟨n,cs,k1,k2⟩:=j1.i v hv;exact⟨n,cs,k1.sub g2 fun b hb e=>j.a v hv b hb e,k2⟩
  ·rw[List.mem_singleton]at hv;subst hv;exact⟨0,[],⟨rfl,.inl ⟨rfl,none,rfl⟩⟩,adx _⟩
 ·intro a k v u b h1 h2 h3 h4;have key:∀{a:Nat} {v:Value},(vs++[EU])[a]? = some v→ob v=some b→vs[a]? = some v:=fun {a v} h1 h2=>by
   by_cases ha:a<vs.length
   ·grind
   ·rw[List.getElem?_append_right (by omega)]at h1;have:v=EU:=by
     grind
    grind [ob]
  exact j.d a k v u b (key h1 h3) (key h2 h4) h3 h4
 ·intro v hv b hb;rcases ab6.1 hv with hv|hv
  ·intro e;rcases oV b e with e|e
   ·exact j.a v hv b hb e
   ·have:=j.lt (b:=b) (.inr ⟨v,hv,hb⟩);omega
  grind [List.mem_singleton,ob]
 ·rintro b (hb|⟨v,hv,hb⟩)
  ·exact(oV b hb).imp .inl fun h=>h
  ·rcases ab6.1 hv with hv|hv
   ·exact .inl (.inr ⟨v,hv,hb⟩)
   grind [List.mem_singleton,ob]
structure At(W:World)(lv:Value)(vs:List Value)(k:Nat)(v:Value)(g:Nat):Prop where
 ix:∀W' K,(Instr.indexAt 235 lv (.int K (k:Int))).run Tryz.prog W'=.ok (.pointer (some ⟨g,k,none⟩)) W'
 b:ob lv=some g
 ld:∀W',W'.heap[g]? = W.heap[g]?→(Instr.loadAt 163 (.pointer (some ⟨g,k,none⟩))).run Tryz.prog W'=.ok v W'
theorem ahf{lv:Value}{vs:List Value}{q k:Nat}{v:Value}(j:Jr W lv vs q)(hk:vs[k]? = some v):∃g,At W lv vs k v g:=by
 have aN:=(abC.1 hk).1;obtain⟨i,z,he⟩:=P2;have hc:Tryz.prog.cellsOf 163=1:=by kernel_rfl
 rcases j.o.2 with⟨h0,_⟩|⟨g,cap,cur,rfl,hc0,hh,hle,ahg,iY,lY⟩
 ·omega
 refine⟨g,fun W' K=>?_,?_,fun W' hW=>?_⟩
 ·have:=oL (P:=Tryz.prog) (w:=W') Mk he.info ⟨g,0,none⟩ vs.length cap K (k:Int) (by omega) (by omega);rw[this,hc,ct,Int.toNat_natCast,Nat.mul_one,Nat.zero_add]
 ·simp only[ob];grind
 ·have ZY:cur.toList[k]? = some v:=by
   grind
  have hb:Gh Tryz.prog 163=some false:=by kernel_rfl
  simp_all [World.cell?,Instr.loadAt,Instr.sureAddr,loadVar,gR]
theorem acR{lv:Value}{vs:List Value}{q k:Nat}{v x:Value}(j:Jr W lv vs q)(hk:vs[k]? = some v)(hq:q+1≤fB)(hx:x.cells.size=2)(h1:∀u∈x.cells.toList,u.oneCell'=true)(ty:TypeId) :
  ∃v' W2,(Builtin.append_ #[163,163] ty #[v,.slice (some ⟨W.heap.size,0,none⟩) 1 1]).run Tryz.prog (W.alloc (.cells x.cells 35))=.ok v' W2∧(∃n cs,dW W2 35 2 v' n cs∧n≤q+1)∧Gw (fun b=>ob v=some b) W W2∧∀b,ob v'=some b→ob v=some b∨W.heap.size≤b:=by
 obtain⟨i,z,he⟩:=ahd;have hv:=acI hk;obtain⟨n,cs,k1,k2⟩:=j.i v hv;have g1:Gw (fun b=>ob v=some b) W (W.alloc (.cells x.cells 35)):=Gw.alloc _ _;have k3:dW (W.alloc (.cells x.cells 35)) 35 2 v n cs:=k1.sub (L:=fun _=>False) (Gw.alloc _ _) fun _ _ h=>h;obtain⟨v',W2,dn,h4,h5,h6⟩:=dZ (P:=Tryz.prog) (k:=fZ) (ty:=ty) aa6 he k3 (ahe W (k:=fZ) (x:=x) hx h1) (by omega);refine⟨v',W2,dn,⟨n+1,_,h4,by omega⟩,g1.trans (Gw.grown h5),fun b hb=>?_⟩
 grind [World.size_alloc]
theorem acS{lv:Value}{vs:List Value}{q k:Nat}{v v':Value}{g:Nat}(j:Jr W lv vs q)(hk:vs[k]? = some v)(Bq:At W lv vs k v g)(gw:Gw (fun b=>ob v=some b) W W2)(BL:∃n cs,dW W2 35 2 v' n cs∧n≤q+1)(oV:∀b,ob v'=some b→ob v=some b∨W.heap.size≤b) :
  ∃W3,(Instr.storeAt 163 (.pointer (some ⟨g,k,none⟩)) v').run Tryz.prog W2=.ok () W3∧Jr W3 lv (vs.set k v') (q+1)∧Gw (Xj lv vs) W W3∧∀b,Xj lv (vs.set k v') b→Xj lv vs b∨W.heap.size≤b:=by
 have hv:=acI hk;have aN:=(abC.1 hk).1;obtain⟨n',cs',sq,QD⟩:=BL;obtain⟨i,z,he⟩:=P2;have hc:Tryz.prog.cellsOf 163=1:=by kernel_rfl
 have hag:=j.a v hv;have Sb:∀b,ob v=some b→b≠g:=fun b hb e=>hag b hb (by rw[e];exact Bq.b);rcases j.o.2 with⟨h0,_⟩|⟨g',cap,cur,e,hc0,hh,hle,ahg,iY,lY⟩
 ·omega
 have QC:g'=g:=by have:=Bq.b;rw[e]at this;simp only[ob]at this;simp_all
 subst QC;have hgl:g'<W.heap.size:=j.o.lt Bq.b;have hh2:W2.heap[g']? = some (.cells cur 163 (0,0)):=(gw.block g' hgl fun e=>Sb g' e rfl).trans hh;obtain⟨hc1,pC⟩:=sq.one;have vQ:=l6 (P:=Tryz.prog) (w:=W2) (t:=163) he.info g' k v' cur 163 hh2 (by simp_all) (by grind) (by simp_all);refine⟨_,vQ,?_⟩;rw[hc1];generalize hW3:W2.setRow g' _=W3;have g3:Gw (·=g') W2 W3:=by grind [Gw.set]
 have pw:W3.heap[g']? = some (.cells (cur.toList.take k++#[v'].toList++cur.toList.drop (k+1)).toArray 163 (0,0)):=by
  grind [setRow_heap]
 have ahh:(cur.toList.take k++#[v'].toList++cur.toList.drop (k+1))=cur.toList.set k v':=by
  have Te:k<cur.toList.length:=by simp;omega
  rw[List.set_eq_take_append_cons_drop,if_pos Te];simp
 rw[ahh]at pw;have anb:Gw (Xj lv vs) W W3:=(gw.less fun b _ hb=>.inr ⟨v,hv,hb⟩).trans (g3.less fun b _ hb=>.inl (by rw[hb];exact Bq.b));have ahi:∀b,b<W.heap.size→ob v≠some b→b≠g'→W3.heap[b]? = W.heap[b]? := fun b h1 h2 h3=>(g3.block b (ads h1 gw.size) h3).trans (gw.block b h1 h2);have adZ:∀b,ob v'=some b→b≠g':=fun b hb e=>by
  grind
 have at_:∀{a:Nat} {u:Value},(vs.set k v')[a]? = some u→(a=k∧u=v')∨(a≠k∧vs[a]? = some u):=fun {a u} h=>by
  grind
 have key:∀{a:Nat} {u:Value} {b:Nat},a≠k→vs[a]? = some u→ob u=some b→ob v≠some b:=fun {a u b} ha h1 h2 h3=>ha (j.d a k u v b h1 hk h2 h3);refine⟨⟨?_,?_,?_,?_⟩,anb,?_⟩
 ·refine⟨by simp,.inr ⟨g',cap,_,by simp_all,hc0,pw,by simp_all,ahg,?_,?_⟩⟩
  ·simp[iY]
  ·rw[List.toList_toArray,List.length_set,List.take_set,lY]
 ·intro u hu;obtain⟨a,ha⟩:=List.mem_iff_getElem?.1 hu;rcases at_ ha with⟨_,rfl⟩|⟨h1,h2⟩
  ·exact⟨n',cs',sq.sub g3 fun b hb=>adZ b hb,QD⟩
  ·obtain⟨m,ds,k1,k2⟩:=j.i u (acI h2);exact⟨m,ds,k1.kept fun b hb=>ahi b (k1.lt hb) (key h1 h2 hb) fun e=>j.a u (acI h2) b hb (by rw[e];exact Bq.b),by omega⟩
 ·intro a c u y b h1 h2 h3 h4;rcases at_ h1 with⟨rfl,rfl⟩|⟨ha,h5⟩<;>rcases at_ h2 with⟨rfl,rfl⟩|⟨hc',h6⟩
  ·rfl
  ·rcases oV b h3 with h|h
   ·grind
   ·have:=j.lt (b:=b) (.inr ⟨y,acI h6,h4⟩);omega
  ·rcases oV b h4 with h|h
   ·grind
   ·have:=j.lt (b:=b) (.inr ⟨u,acI h5,h3⟩);omega
  ·exact j.d a c u y b h5 h6 h3 h4
 ·intro u hu b hb;obtain⟨a,ha⟩:=List.mem_iff_getElem?.1 hu;rcases at_ ha with⟨_,rfl⟩|⟨h1,h2⟩
  ·rw[Bq.b];grind
  ·exact j.a u (acI h2) b hb
 ·rintro b (hb|⟨u,hu,hb⟩)
  ·exact .inl (.inl hb)
  ·obtain⟨a,ha⟩:=List.mem_iff_getElem?.1 hu;rcases at_ ha with⟨_,rfl⟩|⟨h1,h2⟩
   ·exact(oV b hb).imp (fun h=>.inr ⟨v,hv,h⟩) fun h=>h
   ·exact .inl (.inr ⟨u,acI h2,hb⟩)
structure PtX(Z0:Nat→Prop)(w0:World)(sh:Shape)(x:sh.T)(lv:Value)(vs:List Value)(q:Nat)(a:Act)(W:World)(Z:Nat→Prop)(ψ:Nat→Value):Prop where
 wk:Wk Z0 w0 Fe Z W
 g:Good Z ψ (aw sh x).heap.get W w0.heap.size Fe
 t:cX Z ψ (aw sh x).heap.get W 47 (look (aw sh x).tmps) a
 j:Jr W lv vs q
 fr:iq (Xj lv vs) Z (Own ψ (aw sh x).heap.get) W
 x0:∀b,Xj lv vs b→w0.heap.size≤b
 lv:a.tmps.getD 4 undef=lv
def Pt(Z0:Nat→Prop)(w0:World)(sh:Shape)(x:sh.T)(vs:List Value)(q:Nat)(a:Act)(W:World):Prop:=∃lv Z ψ,PtX Z0 w0 sh x lv vs q a W Z ψ
variable {sh sh':Shape} {x:sh.T} {x':sh'.T} {a:Act} {lv:Value} {vs:List Value} {q:Nat}
theorem Ol{st:St}{a1:Act}(s:PtX Z0 w0 sh x lv vs q a W Z ψ)(vQ:cO sh' st=some x'){ψ':Nat→Value}{Z':Nat→Prop}(ok:Ok Z W (Own ψ (aw sh x).heap.get) ψ Z' ψ' st.heap.get W')(t:cX Z' ψ' st.heap.get W' 47 (look st.tmps) a1)(hk:a1.tmps.getD 4 undef=a.tmps.getD 4 undef):Pt Z0 w0 sh' x' vs q a1 W':=by obtain⟨Z2,eY,Fc,t2⟩:=gW vQ ok t;obtain⟨f1,f2⟩:=(Fc.tr (L:=Fe)).free s.fr fun _ _ h=>h;exact⟨lv,Z2,eY,s.wk.step (Fc.tr (L:=Fe)) s.g.from (fun _ h=>h.elim),Fc.Oe s.g s.wk.size,t2,s.j.kept f2,f1,s.x0,hk.trans s.lv⟩
theorem Om{c:Code}(hx:rn F1 47 [4] c (aw sh x) (cO sh')=some x')(n:Nat)(s:Pt Z0 w0 sh x vs q a W):c.wpIn (FW none) n Tryz.prog (fun e a' W'=>e=.normal∧Pt Z0 w0 sh' x' vs q a' W') a W:=by obtain⟨lv,Z,ψ,s⟩:=s;have:=eJ rC hx none n [] (Good.start s.g) s.t;rw[dX]at this;refine wpIn_mono this ?_;rintro e a1 W1 ⟨rfl,a2,rfl,k,st,Z1,oX,vQ,ok,t⟩;rw[dX];exact⟨rfl,Ol s vQ ok t (k 4 (by simp))⟩
theorem Zt{c c':Code}(hx:(rn F1 47 [4] c (aw sh x) fun st=>rn F1 47 [4] c' st (cO sh'))=some x')(n:Nat)(s:Pt Z0 w0 sh x vs q a W) :
  c.wpIn (FW none) n Tryz.prog (fun e a' W'=>e=.normal∧c'.wpIn (FW none) n Tryz.prog (fun e a' W'=>e=.normal∧Pt Z0 w0 sh' x' vs q a' W') a' W') a W:=by
 obtain⟨lv,Z,ψ,s⟩:=s;have:=eJ rC hx none n [] (Good.start s.g) s.t;rw[dX]at this;refine wpIn_mono this ?_;rintro e a1 W1 ⟨rfl,a2,rfl,k,st,Z1,oX,vQ,ok,t⟩;rw[dX];refine⟨rfl,?_⟩;have:=eJ rC vQ none n [] ok t;rw[dX]at this;refine wpIn_mono this ?_;rintro e a3 W3 ⟨rfl,a4,rfl,k3,st3,Z3,TS,acO,Zq,t3⟩;rw[dX];exact⟨rfl,Ol s acO Zq t3 ((k3 4 (by simp)).trans (k 4 (by simp)))⟩
theorem P3{y:sh'.T}(s:Pt Z0 w0 sh x vs q a W)(hh:(aw sh' y).heap=(aw sh x).heap)(ht:∀p∈(aw sh' y).tmps,look (aw sh x).tmps p.1=p.2):Pt Z0 w0 sh' y vs q a W:=by
 obtain⟨lv,Z,ψ,s⟩:=s;refine⟨lv,Z,ψ,s.wk,?_,?_,s.j,?_,s.x0,s.lv⟩
 ·rw[hh];exact s.g
 ·rw[hh];exact fD (fun p hp=>by have:=s.t.rep p.1;grind) s.t.size s.t.defers
 ·rw[hh];exact s.fr
theorem P4{a1:Act}{Oj:Value}{iZ:List Value}{q':Nat}(s:PtX Z0 w0 sh x lv vs q a W Z ψ)(gw:Gw (Xj lv vs) W W')(j:Jr W' Oj iZ q')(hx:∀b,Xj Oj iZ b→Xj lv vs b∨W.heap.size≤b)(hlv:a1.tmps.getD 4 undef=Oj)(iY:a1.tmps.size=47)(hdf:a1.defers=[])(ht:∀p∈(aw sh x).tmps,a1.tmps.getD p.1 undef=a.tmps.getD p.1 undef)(FM:∀p∈(aw sh x).tmps,look (aw sh x).tmps p.1=p.2):PtX Z0 w0 sh x Oj iZ q' a1 W' Z ψ:=by
 have hs:∀b,Z b∨Own ψ (aw sh x).heap.get b→W'.heap[b]? = W.heap[b]? := fun b hb=>by have aN:b<W.heap.size:=hb.elim (s.g.kz b) fun h=>s.g.bQ h;refine gw.block b aN fun hX=>?_;have:=s.fr b hX;simp_all
 have zl:∀b,Z b→b<W'.heap.size:=fun b hb=>ads (s.g.kz b hb) gw.size;refine⟨s.wk.step (L:=Xj lv vs) (A:=fun _=>False) (B:=fun _=>False) (Tr.cp gw.os gw.tape gw.output gw.size gw.block) (fun _ h=>h.elim) s.x0,s.g.same (fun _ h=>h) hs (fun b hb hz=>(s.g.zA b hz).2 hb) zl,fD (fun p hp=>?_) iY hdf,j,fun b hb=>?_,fun b hb=>?_,hlv⟩
 ·rw[ht p hp];have:=s.t.rep p.1;rw[FM p hp]at this;exact this.less (fun _ h=>h) (fun b hb=>hs b (.inl hb)) fun i hi=>⟨hi,rfl⟩
 ·refine⟨j.lt hb,fun hz=>?_,fun ho=>?_⟩
  ·rcases hx b hb with h|h
   ·exact(s.fr b h).2.1 hz
   grind
  ·rcases hx b hb with h|h
   ·exact(s.fr b h).2.2 ho
   ·have:=s.g.bQ ho;omega
 ·rcases hx b hb with h|h
  ·exact s.x0 b h
  ·exact acE s.wk.size h
theorem di{P:Program}{ops:Array Oper}{Q:Exit→Act→World→Prop}{i:Nat}{rest:List Nat}{a:Act}{w w':World}{o:Oper}{v:Value}(ho:ops[i]? = some o)(hg:o.guard=none)(hr:(execOp a.eval o).run P w=.ok (.value v) w')(hk:wpOps P ops Q rest (a.put o.dst v) w'):wpOps P ops Q (i::rest) a w:=by
 grind [wpOps_cons,yv]
theorem oC{a:Act}{d i:Nat}{v:Value}(h:i≠d):(a.put (some d) v).eval (.tmp i)=a.eval (.tmp i):=dh a v fun j hj e=>h (by simp_all)
theorem dU{a:Act}{d:Nat}{v:Value}(h:d<a.tmps.size):(a.put (some d) v).eval (.tmp d)=v:=by show(a.put (some d) v).tmps.getD d undef=v;rw[iD h,if_pos rfl]
theorem acT:r3 7=.region 7 (opsOf (r3 7)) false:=by kernel_rfl
theorem acU:r3 8=.region 8 (opsOf (r3 8)) false:=by kernel_rfl
theorem Zu(n:Nat){x:V3.T}(hq:vs.length+1≤fB)(s:Pt Z0 w0 V3 x vs q a W)(FM:∀p∈(aw V3 x).tmps,look (aw V3 x).tmps p.1=p.2∧p.1∈[5,6,11,12,1,3,10]) :
  (r3 8).wpIn (FW none) n Tryz.prog (fun e a' W'=>e=.normal∧Pt Z0 w0 V3 x (vs++[EU]) q a' W') a W:=by
 obtain⟨lv,Z,ψ,s⟩:=s;obtain⟨i,z,he⟩:=P2;rw[acU];show Code.wpIn Fence.wide n Tryz.prog _ _ a W;refine wpIn_wide.2 (wp_region ?_);have hs:(opsOf (r3 8)).size=4:=by kernel_rfl
 have g0:(opsOf (r3 8))[0]? = some (o3 8 0):=by kernel_rfl
 have g1:(opsOf (r3 8))[1]? = some (o3 8 1):=by kernel_rfl
 have g2:(opsOf (r3 8))[2]? = some (o3 8 2):=by kernel_rfl
 have g3:(opsOf (r3 8))[3]? = some (o3 8 3):=by kernel_rfl
 have d0:(o3 8 0).dst=some 24:=by kernel_rfl
 have d1:(o3 8 1).dst=some 25:=by kernel_rfl
 have d2:(o3 8 2).dst=some 26:=by kernel_rfl
 have d3:(o3 8 3).dst=some 4:=by kernel_rfl
 have p0:(o3 8 0).op=.move (.tmp 4):=by kernel_rfl
 have p1:(o3 8 1).op=.buildSlice 235 1 #[(0,.const EU)]:=by kernel_rfl
 have p2:(o3 8 2).op=.call { callee:=.builtin .append,args:=#[.tmp 24,.tmp 25],argTypes:=#[235,235] }:=by kernel_rfl
 have p3:(o3 8 3).op=.assign (.tmp 26):=by kernel_rfl
 rw[hs,show List.range 4=[0,1,2,3] from rfl];obtain⟨Oj,W2,dn,j2,gw,hX⟩:=acQ s.j hq (o3 8 2).type;have iY:=s.t.size;refine di g0 (by kernel_rfl) (lg p0) ?_;rw[d0];obtain⟨a1,Tg⟩:∃a1,a1=a.put (some 24) (a.eval (.tmp 4)):=⟨_,rfl⟩;rw[←Tg];have ane:a1.tmps.size=47:=by grind [cJ]
 refine di g1 (by kernel_rfl) (WR p1 (Ml W Mk he EU rfl (.inl rfl))) ?_;rw[d1];obtain⟨a2,Th⟩:∃a2,a2=a1.put (some 25) (.slice (some ⟨W.heap.size,0,none⟩) 1 1):=⟨_,rfl⟩;rw[←Th];have pV:a2.tmps.size=47:=by grind [cJ]
 have e24:a2.eval (.tmp 24)=lv:=by rw[Th,oC (by decide),Tg,dU (by omega)];exact s.lv
 have e25:a2.eval (.tmp 25)=.slice (some ⟨W.heap.size,0,none⟩) 1 1:=by grind [dU]
 refine di g2 (by kernel_rfl) (HI p2 (by rw[e24,e25];exact dn)) ?_;rw[d2];obtain⟨a3,X6⟩:∃a3,a3=a2.put (some 26) Oj:=⟨_,rfl⟩;rw[←X6];have anf:a3.tmps.size=47:=by grind [cJ]
 have e26:a3.eval (.tmp 26)=Oj:=by grind [dU]
 refine di g3 (by kernel_rfl) (uX p3) ?_;rw[d3,e26];refine⟨rfl,Oj,Z,ψ,P4 s gw j2 hX ?_ (by grind [cJ]) (by rw[put_defers,X6,put_defers,Th,put_defers,Tg,put_defers];exact s.t.defers) (fun p hp=>?_) fun p hp=>(FM p hp).1⟩
 ·exact dU (by omega)
 ·have hm:=(FM p hp).2;have bB:∀d,d∈[4,24,25,26]→p.1≠d:=fun d hd e=>by
   grind
  grind [dh]
end Go.Vs
namespace Go.Vs
open Go.Proofs
variable {Z Z' Z0:Nat→Prop} {ψ ψ' ψ0:Nat→Value} {h h':Hp} {w w' w0 W W' W1 W2:World} {B0:Nat} {O N:Nat→Prop}
variable {a:Act} {lv:Value} {vs:List Value} {q:Nat}
theorem Zv(n:Nat){i y c j:Int}{d:ak}{p:Pm}{L:List Int}(s:Pt Z0 w0 V3 ((i,(y,(c,(j,())))),(((d,()),()),(p,(L,())))) vs q a W) :
  (r3 7).wpIn (FW none) n Tryz.prog (fun e a' W'=>e=.normal∧Pt Z0 w0 V3 ((i,(y,(c,(j,())))),(((d,()),()),(jN (.int .i64) i ((vs.length:Nat):Int) p,(L,())))) vs q a' W') a W:=by
 obtain⟨lv,Z,ψ,s⟩:=s;obtain⟨A,cap,S4⟩:=s.j.o.slice;rw[acT];obtain⟨ao2,aab⟩:∃v,v=a.tmps.getD 4 undef:=⟨_,rfl⟩;have hs:(opsOf (r3 7)).size=5:=by kernel_rfl
 have g0:(opsOf (r3 7))[0]? = some (o3 7 0):=by kernel_rfl
 have g1:(opsOf (r3 7))[1]? = some (o3 7 1):=by kernel_rfl
 have g2:(opsOf (r3 7))[2]? = some (o3 7 2):=by kernel_rfl
 have g3:(opsOf (r3 7))[3]? = some (o3 7 3):=by kernel_rfl
 have g4:(opsOf (r3 7))[4]? = some (o3 7 4):=by kernel_rfl
 have d0:(o3 7 0).dst=some 20:=by kernel_rfl
 have d1:(o3 7 1).dst=some 21:=by kernel_rfl
 have d2:(o3 7 2).dst=some 22:=by kernel_rfl
 have d3:(o3 7 3).dst=some 23:=by kernel_rfl
 have p0:(o3 7 0).op=.move (.tmp 3):=by kernel_rfl
 have p1:(o3 7 1).op=.move (.tmp 5):=by kernel_rfl
 have p2:(o3 7 2).op=.move (.tmp 4):=by kernel_rfl
 have p3:(o3 7 3).op=.call { callee:=.builtin .len,args:=#[.tmp 22],argTypes:=#[235] }:=by kernel_rfl
 have hds:(opsOf (r3 7)).all (fun o=>jl 47 o)=true:=by kernel_rfl
 have arI:(opsOf (r3 7)).any (fun o=>makes o.op)=false:=by kernel_rfl
 have ahj:PV [4] (opsOf (r3 7))=true:=by kernel_rfl
 have jQ:wpOps Tryz.prog (opsOf (r3 7)) (fun e a' W'=>e=.normal∧∃fk Z' ψ',cO V3 fk=some ((i,(y,(c,(j,())))),(((d,()),()),(jN (.int .i64) i ((vs.length:Nat):Int) p,(L,()))))∧Ok Z W (Own ψ (aw V3 ((i,(y,(c,(j,())))),(((d,()),()),(p,(L,()))))).heap.get) ψ Z' ψ' fk.heap.get W'∧cX Z' ψ' fk.heap.get W' 47 (look fk.tmps) a') (List.range (opsOf (r3 7)).size) a W:=by
  rw[hs,show List.range 5=[0,1,2,3,4] from rfl];have iY:=s.t.size;refine di g0 (by kernel_rfl) (lg p0) ?_;rw[d0];obtain⟨a1,Tg⟩:∃a1,a1=a.put (some 20) (a.eval (.tmp 3)):=⟨_,rfl⟩;rw[←Tg];have ane:a1.tmps.size=47:=by grind [cJ]
  refine di g1 (by kernel_rfl) (lg p1) ?_;rw[d1];obtain⟨a2,Th⟩:∃a2,a2=a1.put (some 21) (a1.eval (.tmp 5)):=⟨_,rfl⟩;rw[←Th];have pV:a2.tmps.size=47:=by grind [cJ]
  refine di g2 (by kernel_rfl) (lg p2) ?_;rw[d2];obtain⟨a3,X6⟩:∃a3,a3=a2.put (some 22) (a2.eval (.tmp 4)):=⟨_,rfl⟩;rw[←X6];have anf:a3.tmps.size=47:=by grind [cJ]
  have e22:a3.eval (.tmp 22)=.slice A vs.length cap:=by rw[X6,dU (by omega),Th,oC (by decide),Tg,oC (by decide),←S4];exact s.lv
  refine di g3 (by kernel_rfl) (WT p3 Mk e22) ?_;rw[d3];obtain⟨a4,ha4⟩:∃a4,a4=a3.put (some 23) (.int .i64 ((vs.length:Nat):Int)):=⟨_,rfl⟩;rw[←ha4];have ang:a4.tmps.size=47:=by grind [cJ]
  have cI:∀k,k≠20→k≠21→k≠22→k≠23→a4.tmps.getD k undef=a.tmps.getD k undef:=fun k h0 h1 h2 h3=>by
   grind [dh]
  have e20:a4.tmps.getD 20 undef=a.tmps.getD 3 undef:=by rw[ha4,dh _ _ fun j hj=>by grind,X6,dh _ _ fun j hj=>by grind,Th,dh _ _ fun j hj=>by grind,Tg,iD (by omega),if_pos rfl];rfl
  have e21:a4.tmps.getD 21 undef=a.tmps.getD 5 undef:=by
   rw[ha4,dh _ _ fun j hj=>by grind,X6,dh _ _ fun j hj=>by grind,Th,iD (by omega),if_pos rfl];show a1.tmps.getD 5 undef=_
   grind [dh]
  have e23:a4.tmps.getD 23 undef=.int .i64 ((vs.length:Nat):Int):=by rw[ha4,iD (by omega),if_pos rfl]
  have t4:cX Z ψ (st7 c i y j ((vs.length:Nat):Int) d p L).heap.get W 47 (look (st7 c i y j ((vs.length:Nat):Int) d p L).tmps) a4:=by
   refine fD (fun r hr=>?_) ang (by rw[ha4,put_defers,X6,put_defers,Th,put_defers,Tg,put_defers];exact s.t.defers);have hr:r∈[(20,AV.bN 31000),(21,AV.int .i64 i),(23,AV.int .i64 ((vs.length:Nat):Int)),(5,AV.int .i64 i),(6,AV.int .i64 y),(11,AV.int .i64 c),(12,AV.int .i64 j),(1,AV.ref 20001 0 0 0),(3,AV.bN 31000),(10,AV.bN 31001)]:=hr;simp only[List.mem_cons,List.not_mem_nil,or_false]at hr;rcases hr with rfl|rfl|rfl|rfl|rfl|rfl|rfl|rfl|rfl|rfl
   ·rw[e20];exact s.t.rep 3
   ·rw[e21];exact s.t.rep 5
   ·grind [aA]
   ·rw[cI 5 (by decide) (by decide) (by decide) (by decide)];exact s.t.rep 5
   ·rw[cI 6 (by decide) (by decide) (by decide) (by decide)];exact s.t.rep 6
   ·rw[cI 11 (by decide) (by decide) (by decide) (by decide)];exact s.t.rep 11
   ·rw[cI 12 (by decide) (by decide) (by decide) (by decide)];exact s.t.rep 12
   ·rw[cI 1 (by decide) (by decide) (by decide) (by decide)];exact s.t.rep 1
   ·rw[cI 3 (by decide) (by decide) (by decide) (by decide)];exact s.t.rep 3
   ·rw[cI 10 (by decide) (by decide) (by decide) (by decide)];exact s.t.rep 10
  refine mC rC (rid:=7) (n:=47) (b:=#[]) false (fun _ i o ho=>?_) (by omega) (fun i o ho=>adB.1 hds o (adH ho)) (kk:=cO V3) (fun fk Z ψ a w h1 h2 h3=>⟨rfl,fk,Z,ψ,h1,h2,h3⟩) [(4,o3 7 4)] 4 (st7 c i y j ((vs.length:Nat):Int) d p L) Z ψ a4 W ⟨rfl,g4,trivial⟩ (m7 F1 c i y j _ d p L) ⟨Good.start s.g,t4,fun d=>?_,fun i ty cs hb=>?_⟩
  ·grind
  ·exact(aL.top _).imp fun id _ h=>by cases h
  ·exact(aC.top _).imp fun id _ h=>by cases h
 have h2:=EL none n [] (keep:=[4]) (fun d=>a.tmps.getD d undef) (fun _ _ _ h=>h.1) ahj _ a W jQ fun _ _=>rfl;rw[dX]at h2;refine wpIn_mono (wpIn_region h2) ?_;rintro e a' W' ⟨h3,a0,h4,h5,h6,fk,Z',ψ',h7,h8,h9⟩;subst h3;subst h4;rw[dX];exact⟨rfl,Ol s h7 h8 h9 (h5 4 (by simp))⟩
theorem On{hp:Heap}{id off ty:Nat}{t:TypeId}{cs:List AV}{v:AV}(hb:hp.get id=some (.box ty cs))(fc:eO Tryz.prog t (cs.drop off)=some v):mK Tryz.prog hp t (.ref id 0 0 off) some=some (.val v):=by simp_all [mK,if_true]
theorem Oo{hp:Heap}{t e:TypeId}{k:K}{xs:List k.T}{y:k.T}{n:Int}{b:Bool}(el:su Tryz.prog t=some e)(hs:Tryz.prog.cellsOf e=k.sz)(hg:aU xs n=some y):dN Tryz.prog hp t (.sl b k xs) (.int .i64 n) some=some (.val (.fp k y 0)):=by simp_all [dN,if_true]
theorem Zw{α:Type}{xs:List α}{i:Nat}{y:α}(h:xs[i]? = some y):aU xs (i:Int)=some y:=by simp_all [aU,if_pos,Int.toNat_natCast]
structure ahk(W:World)(v1:Value)(i:Nat)(pD HJ pE pF Cd:Value):Prop where
 f1:(Instr.fieldAt 27 v1 0).run Tryz.prog W=.ok pD W
 l1:(Instr.loadAt 24 pD).run Tryz.prog W=.ok HJ W
 ix:(Instr.indexAt 24 HJ (.int .i64 (i:Int))).run Tryz.prog W=.ok pE W
 f2:(Instr.fieldAt 38 pE 0).run Tryz.prog W=.ok pF W
 l2:(Instr.loadAt 35 pF).run Tryz.prog W=.ok Cd W
 sz:Cd.cells.size=2
 one:∀u∈Cd.cells.toList,u.oneCell'=true
theorem Zx{hp:Heap}{d:ak}{v1:Value}{i:Nat}(g:Good Z ψ hp.get W B0 O)(hb:hp.get 20001=some (.box 27 (enc dK d)))(hr:aA Z ψ hp.get W (.ref 20001 0 0 0) v1)(hi:i<d.1.length):∃pD HJ pE pF Cd,ahk W v1 i pD HJ pE pF Cd:=by
 have fo1:ir Tryz.prog 27 0=some (0,24):=by kernel_rfl
 have fo2:ir Tryz.prog 38 0=some (0,35):=by kernel_rfl
 have hc1:Tryz.prog.cellsOf 24≠0:=by
  have:Tryz.prog.cellsOf 24=1:=by kernel_rfl
  omega
 have pC:Tryz.prog.cellsOf 35≠0:=by
  have:Tryz.prog.cellsOf 35=2:=by kernel_rfl
  omega
 obtain⟨pD,e1,r1⟩:=vo (P:=Tryz.prog) (t:=27) (f:=0) fo1 hc1 hr;have fc:eO Tryz.prog 24 ((enc dK d).drop (0+0))=some (.sl false cV d.1):=by kernel_rfl
 obtain⟨x2,HJ,q2,e2,r2⟩:=vW (P:=Tryz.prog) (hh:=hp) g (fun _ _ h=>h) (t:=24) (e:=.val (.sl false cV d.1)) r1 (On hb fc)
 cases q2
 have hx:d.1[i]? = some d.1[i]:=aa8 hi;have el:su Tryz.prog 24=some 38:=by kernel_rfl
 have iY:Tryz.prog.cellsOf 38=cV.sz:=by kernel_rfl
 obtain⟨x3,pE,q3,e3,r3⟩:=rJ (P:=Tryz.prog) (hh:=hp) g (fun _ _ h=>h) (t:=24) (i:=.int .i64 (i:Int)) (u:=.int .i64 (i:Int)) (e:=.val (.fp cV d.1[i] 0)) r2 (by rfl) (Oo el iY (Zw (i:=i) hx))
 cases q3
 obtain⟨pF,e4,r4⟩:=w7 (P:=Tryz.prog) (t:=38) (f:=0) fo2 pC r3;have fc2:eO Tryz.prog 35 ((enc cV d.1[i]).drop (0+0))=some (.agg [.int .i64 d.1[i].1.1,.int .i64 d.1[i].1.2]):=by generalize d.1[i]=v;kernel_rfl
 obtain⟨x5,Cd,q5,e5,r5⟩:=vW (P:=Tryz.prog) (hh:=hp) g (fun _ _ h=>h) (t:=35) (e:=.val (.agg [.int .i64 d.1[i].1.1,.int .i64 d.1[i].1.2])) r4 (by grind [mK])
 cases q5
 simp only[aA,au]at r5;obtain⟨us,rfl,u1,us1,MC,rfl,u2,us2,rfl,rfl,rfl⟩:=r5;have hc:(Value.agg us).cells=#[.int .i64 d.1[i].1.1,.int .i64 d.1[i].1.2]:=by
  show us=_
  grind
 refine⟨pD,HJ,pE,pF,_,e1,e2,e3,e4,e5,by rw[hc];rfl,fun u hu=>?_⟩;rw[hc]at hu;simp at hu;rcases hu with rfl|rfl<;>rfl
end Go.Vs
namespace Go.Vs
open Go.Proofs
variable {Z Z' Z0:Nat→Prop} {ψ ψ' ψ0:Nat→Value} {h h':Hp} {w w' w0 W W' W1 W2 W3 Wd:World} {B0:Nat} {O N:Nat→Prop}
variable {a:Act} {lv:Value} {vs:List Value} {q:Nat}
theorem Zy:r3 10=.region 10 (opsOf (r3 10)) true:=by kernel_rfl
def D10:List (List Nat):=[[],[],[],[],[2,3],[4],[],[6],[],[7,8],[9],[10],[11],[5,12],[0,1,13],[13,14]]
noncomputable abbrev iV:Array Oper:=opsOf (r3 10)
theorem Js:iV.size=16:=by kernel_rfl
theorem ahl:iV.toList.zipIdx.all (fun p=>(D10.getD p.2 []).all fun e=>p.1.after.any fun x=>Region.binds .any x&&x.on==e)=true:=by kernel_rfl
theorem ahm:iV.toList.zipIdx.all (fun p=>p.1.after.all fun x=>decide (x.on<p.2))=true:=by kernel_rfl
theorem Zz{L:Array Bool}{i:Nat}(h:i∈Region.ready .any iV L):i<16∧L.getD i true=false∧∀e,e∈D10.getD i []→L.getD e false=true:=by
 obtain⟨h1,o,ho,h2⟩:=mem_ready.1 h;refine⟨by grind [Array.getElem?_eq_some_iff,Js],h1,fun e he=>?_⟩;have hm:(o,i)∈iV.toList.zipIdx:=by
  grind
 have h3:=adp.1 (adp.1 ahl _ hm) e he
 grind
theorem WW{L:Array Bool}(h:Region.ready .any iV L=[]):∀n i,i<n→i<16→L.getD i true=true
 |0,i,h1,_=>by omega
 |n+1,i,h1,h2=>by
  have ih:=WW h n
  cases hc:L.getD i true with
  |true=>rfl
  |false =>
   exfalso;have ho:iV[i]? = some iV[i]:=acw (by grind [Js]);have hr:i∈Region.ready .any iV L:=mem_ready.2 ⟨hc,_,ho,fun e he _=>?_⟩
   ·simp_all
   ·have hm:(iV[i],i)∈iV.toList.zipIdx:=by
     grind
    have h3:=adB.1 (adp.1 ahm _ hm) e he
    grind
def SC(Wd W1 W2 W3:World)(L:Array Bool):World:=if L.getD 15 false=true then W3 else if L.getD 13 false=true then W2 else if L.getD 12 false=true then W1 else Wd
structure Iw(a0:Act)(V:List Value)(Wd W1 W2 W3:World)(L:Array Bool)(a:Act)(w:World):Prop where
 n:L.size=16
 cl:∀i e,L.getD i false=true→e∈D10.getD i []→L.getD e false=true
 v:∀i,i<15→L.getD i false=true→a.tmps.getD (30+i) undef=V.getD i undef
 cI:∀i,i<30∨45≤i→a.tmps.getD i undef=a0.tmps.getD i undef
 sz:a.tmps.size=47
 df:a.defers=[]
 w:w=SC Wd W1 W2 W3 L
variable {a0:Act} {V:List Value} {L:Array Bool}
theorem kW{L:Array Bool}{i j:Nat}(h:i<L.size):(L.setIfInBounds i true).getD j false=if i=j then true else L.getD j false:=by
 rw[Array.getD_eq_getD_getElem?,Array.getElem?_setIfInBounds];by_cases e:i=j
 ·simp_all
 ·simp[e]
theorem Ce{i:Nat}{d:Option Tmp}{v:Value}(I:Iw a0 V Wd W1 W2 W3 L a w)(hi:i<16)(hd:∀e,e∈D10.getD i []→L.getD e false=true)(nO:(i<15∧d=some (30+i)∧v=V.getD i undef)∨(i=15∧d=none))(hw:w'=SC Wd W1 W2 W3 (L.setIfInBounds i true)):Iw a0 V Wd W1 W2 W3 (L.setIfInBounds i true) (a.put d v) w':=by
 have hn:i<L.size:=by rw[I.n];exact hi
 refine⟨by rw[Array.size_setIfInBounds];exact I.n,fun j e hj he=>?_,fun j hj hl=>?_,fun j hj=>?_,by rw[cJ];exact I.sz,by rw[put_defers];exact I.df,hw⟩
 ·rw[kW hn]at hj ⊢;by_cases k:i=e
  ·rw[if_pos k]
  ·rw[if_neg k];by_cases k2:i=j
   ·simp_all
   ·rw[if_neg k2]at hj;exact I.cl j e hj he
 ·rcases nO with⟨h1,rfl,rfl⟩|⟨h1,rfl⟩
  ·rw[iD (by rw[I.sz];omega)];by_cases k:j=i
   ·simp_all
   ·rw[if_neg (by omega)];rw[kW hn,if_neg (fun e=>k e.symm)]at hl;exact I.v j hj hl
  ·show a.tmps.getD _ _=_;rw[kW hn,if_neg (by omega)]at hl;exact I.v j hj hl
 ·rcases nO with⟨h1,rfl,rfl⟩|⟨h1,rfl⟩
  ·rw[iD (by rw[I.sz];omega),if_neg (by omega)];exact I.cI j hj
  ·exact I.cI j hj
theorem WX{i:Nat}(hn:i<L.size)(h1:i≠12)(h2:i≠13)(h3:i≠15):SC Wd W1 W2 W3 (L.setIfInBounds i true)=SC Wd W1 W2 W3 L:=by simp_all [SC,kW,if_neg]
theorem kf{i j:Nat}(I:Iw a0 V Wd W1 W2 W3 L a w)(h:L.getD j false=false)(he:j∈D10.getD i []):L.getD i false=false:=by
 cases hc:L.getD i false with
 |false=>rfl
 |true=>rw[I.cl i j hc he]at h;cases h
end Go.Vs
namespace Go.Vs
open Go.Proofs
variable {Z Z' Z0:Nat→Prop} {ψ ψ' ψ0:Nat→Value} {h h':Hp} {w w' w0 W W' W1 W2 W3 Wd:World} {B0:Nat} {O N:Nat→Prop}
variable {a:Act} {lv:Value} {vs:List Value} {q:Nat}
theorem q10(i:Nat)(hi:i<16):iV[i]? = some (o3 10 i):=by
 have:∀i,i<iV.size→iV[i]? = some ((iV[i]?).getD { dst:=none,op:=.move (.tmp 0),type:=0,pos:= "",after:=#[],guard:=none }):=fun i h=>by simp_all
 exact this i (by grind [Js])
theorem anh:iV.toList.all (fun o=>o.guard.isNone)=true:=by kernel_rfl
theorem Cf(i:Nat)(hi:i<16):(o3 10 i).guard=none:=by have:=adp.1 anh (o3 10 i) (by have:=adH (q10 i hi);simp_all);simp_all
theorem ani:iV.toList.map (·.dst)=[some 30,some 31,some 32,some 33,some 34,some 35,some 36,some 37,some 38,some 39,some 40,some 41,some 42,some 43,some 44,none]:=by kernel_rfl
theorem P5(i:Nat)(hi:i<16):(o3 10 i).dst=if i<15 then some (30+i) else none:=by
 have h1:(iV.toList.map (·.dst))[i]? = some (o3 10 i).dst:=by rw[List.getElem?_map,Array.getElem?_toList,q10 i hi];rfl
 rw[ani]at h1;have h2:∀i,i<16→([some 30,some 31,some 32,some 33,some 34,some 35,some 36,some 37,some 38,some 39,some 40,some 41,some 42,some 43,some 44,none]:List (Option Tmp))[i]? = some (if i<15 then some (30+i) else none):=by decide
 rw[h2 i hi]at h1;exact(acP h1).symm
theorem ahn:(o3 10 0).op=.move (.tmp 4):=by kernel_rfl
theorem aho:(o3 10 1).op=.move (.tmp 7):=by kernel_rfl
theorem ahp:(o3 10 2).op=.move (.tmp 4):=by kernel_rfl
theorem ahq:(o3 10 3).op=.move (.tmp 7):=by kernel_rfl
theorem ahr:(o3 10 4).op=.indexAddr 235 (.tmp 32) (.tmp 33):=by kernel_rfl
theorem ahs:(o3 10 5).op=.load 163 (.tmp 34):=by kernel_rfl
theorem aht:(o3 10 6).op=.fieldAddr 27 (.tmp 1) 0:=by kernel_rfl
theorem ahu:(o3 10 7).op=.load 24 (.tmp 36):=by kernel_rfl
theorem ahv:(o3 10 8).op=.move (.tmp 5):=by kernel_rfl
theorem ahw:(o3 10 9).op=.indexAddr 24 (.tmp 37) (.tmp 38):=by kernel_rfl
theorem acW:(o3 10 10).op=.fieldAddr 38 (.tmp 39) 0:=by kernel_rfl
theorem acX:(o3 10 11).op=.load 35 (.tmp 40):=by kernel_rfl
theorem acY:(o3 10 12).op=.buildSlice 163 1 #[(0,.tmp 41)]:=by kernel_rfl
theorem acZ:(o3 10 13).op=.call { callee:=.builtin .append,args:=#[.tmp 35,.tmp 42],argTypes:=#[163,163] }:=by kernel_rfl
theorem ac0:(o3 10 14).op=.indexAddr 235 (.tmp 30) (.tmp 31):=by kernel_rfl
theorem ac1:(o3 10 15).op=.store 163 (.tmp 44) (.tmp 43):=by kernel_rfl
structure Dw(Wd W1 W2 W3:World)(a0:Act)(lv:Value)(k i:Nat)(row:Value)(g:Nat)(pD HJ pE pF Cd s1 v':Value):Prop where
 l4:a0.tmps.getD 4 undef=lv
 l7:a0.tmps.getD 7 undef=.int .i64 (k:Int)
 l5:a0.tmps.getD 5 undef=.int .i64 (i:Int)
 ix:∀W' K,(Instr.indexAt 235 lv (.int K (k:Int))).run Tryz.prog W'=.ok (.pointer (some ⟨g,k,none⟩)) W'
 ld:(Instr.loadAt 163 (.pointer (some ⟨g,k,none⟩))).run Tryz.prog Wd=.ok row Wd
 ld1:(Instr.loadAt 163 (.pointer (some ⟨g,k,none⟩))).run Tryz.prog W1=.ok row W1
 rd:ahk Wd (a0.tmps.getD 1 undef) i pD HJ pE pF Cd
 lit:(Instr.buildSlice 163 1 #[(0,Cd)]).run Tryz.prog Wd=.ok s1 W1
 app:(Builtin.append_ #[163,163] (o3 10 13).type #[row,s1]).run Tryz.prog W1=.ok v' W2
 st:(Instr.storeAt 163 (.pointer (some ⟨g,k,none⟩)) v').run Tryz.prog W2=.ok () W3
abbrev Bn(lv:Value)(k i:Nat)(row:Value)(g:Nat)(pD HJ pE pF Cd s1 v':Value):List Value :=[lv,.int .i64 (k:Int),lv,.int .i64 (k:Int),.pointer (some ⟨g,k,none⟩),row,pD,HJ,.int .i64 (i:Int),pE,pF,Cd,s1,v',.pointer (some ⟨g,k,none⟩)]
theorem SD{L:Array Bool}{i:Nat}(h:L.getD i true=false):L.getD i false=false:=by
 grind
theorem SF{a0:Act}{k i:Nat}{row:Value}{g:Nat}{pD HJ pE pF Cd s1 v':Value}(D:Dw Wd W1 W2 W3 a0 lv k i row g pD HJ pE pF Cd s1 v')(Q:Exit→Act→World→Prop) :
  ∀L a w j,Iw a0 (Bn lv k i row g pD HJ pE pF Cd s1 v') Wd W1 W2 W3 L a w→j∈Region.ready .any iV L→wpOp Tryz.prog iV Q j (fun a' w'=>Iw a0 (Bn lv k i row g pD HJ pE pF Cd s1 v') Wd W1 W2 W3 (L.setIfInBounds j true) a' w') a w:=by
 intro L a w j I hj;obtain⟨hj1,hj2,ZA⟩:=Zz hj;have WY:=SD hj2;have hn:j<L.size:=by rw[I.n];exact hj1
 have tmp:∀n,n∈D10.getD j []→n<15→a.eval (.tmp (30+n))=(Bn lv k i row g pD HJ pE pF Cd s1 v').getD n undef:=fun n h1 h2=>I.v n h2 (ZA n h1);have e4:a.eval (.tmp 4)=lv:=(I.cI 4 (by omega)).trans D.l4;have e7:a.eval (.tmp 7)=.int .i64 (k:Int):=(I.cI 7 (by omega)).trans D.l7;have e5:a.eval (.tmp 5)=.int .i64 (i:Int):=(I.cI 5 (by omega)).trans D.l5;have e1:a.eval (.tmp 1)=a0.tmps.getD 1 undef:=I.cI 1 (by omega);have still:∀{v:Value},j<15→j≠12→j≠13→v=(Bn lv k i row g pD HJ pE pF Cd s1 v').getD j undef→(execOp a.eval (o3 10 j)).run Tryz.prog w=.ok (.value v) w→wpOp Tryz.prog iV Q j (fun a' w'=>Iw a0 (Bn lv k i row g pD HJ pE pF Cd s1 v') Wd W1 W2 W3 (L.setIfInBounds j true) a' w') a w:=fun {v} h1 h2 h3 h4 h5=>by refine yv (q10 j hj1) (Cf j hj1) h5 ?_;rw[P5 j hj1,if_pos h1];exact Ce I hj1 ZA (.inl ⟨h1,rfl,h4⟩) (by rw[WX hn h2 h3 (by omega)];exact I.w)
 have f13:L.getD 12 false=false→L.getD 13 false=false:=fun h=>kf I h (by decide);have f14:L.getD 13 false=false→L.getD 14 false=false:=fun h=>kf I h (by decide);have f15:L.getD 13 false=false→L.getD 15 false=false:=fun h=>kf I h (by decide);have early:L.getD 12 false=false→w=Wd:=fun h=>by have h1:=f13 h;have h2:=f15 h1;rw[I.w];unfold SC;rw[h2,h1,h];rfl
 have f12:L.getD 11 false=false→L.getD 12 false=false:=fun h=>kf I h (by decide);have f11:L.getD 10 false=false→L.getD 11 false=false:=fun h=>kf I h (by decide);have f10:L.getD 9 false=false→L.getD 10 false=false:=fun h=>kf I h (by decide);have f97:L.getD 7 false=false→L.getD 9 false=false:=fun h=>kf I h (by decide);have f76:L.getD 6 false=false→L.getD 7 false=false:=fun h=>kf I h (by decide)
 match j,hj1 with
 |0,_=>exact still (by omega) (by omega) (by omega) rfl (by have h:=lg (P:=Tryz.prog) (ρC:=a.eval) (w:=w) ahn;rw[e4]at h;exact h)
 |1,_=>exact still (by omega) (by omega) (by omega) rfl (by have h:=lg (P:=Tryz.prog) (ρC:=a.eval) (w:=w) aho;rw[e7]at h;exact h)
 |2,_=>exact still (by omega) (by omega) (by omega) rfl (by have h:=lg (P:=Tryz.prog) (ρC:=a.eval) (w:=w) ahp;rw[e4]at h;exact h)
 |3,_=>exact still (by omega) (by omega) (by omega) rfl (by have h:=lg (P:=Tryz.prog) (ρC:=a.eval) (w:=w) ahq;rw[e7]at h;exact h)
 |4,_ =>have h2:=tmp 2 (by decide) (by omega);have h3:=tmp 3 (by decide) (by omega);exact still (by omega) (by omega) (by omega) rfl (ET ahr (by rw[h2,h3];exact D.ix _ _))
 |5,_ =>
  have h4:=tmp 4 (by decide) (by omega);have XO:L.getD 13 false=false:=kf I WY (by decide);have h15:=f15 XO;have hw:w=Wd∨w=W1:=by
   rw[I.w];unfold SC;rw[h15,XO];by_cases c:L.getD 12 false=true
   ·right;simp[c]
   ·left;simp[c]
  exact still (by omega) (by omega) (by omega) rfl (Cc ahs (by
   rw[h4];rcases hw with rfl|rfl
   ·exact D.ld
   ·exact D.ld1))
 |6,_ =>have hw:=early (f12 (f11 (f10 (f97 (f76 WY)))));exact still (by omega) (by omega) (by omega) rfl (Mj aht (by rw[e1,hw];exact D.rd.f1))
 |7,_ =>have h6:=tmp 6 (by decide) (by omega);have hw:=early (f12 (f11 (f10 (f97 WY))));exact still (by omega) (by omega) (by omega) rfl (Cc ahu (by rw[h6,hw];exact D.rd.l1))
 |8,_=>exact still (by omega) (by omega) (by omega) rfl (by have h:=lg (P:=Tryz.prog) (ρC:=a.eval) (w:=w) ahv;rw[e5]at h;exact h)
 |9,_ =>have h7:=tmp 7 (by decide) (by omega);have h8:=tmp 8 (by decide) (by omega);have hw:=early (f12 (f11 (f10 WY)));exact still (by omega) (by omega) (by omega) rfl (ET ahw (by rw[h7,h8,hw];exact D.rd.ix))
 |10,_ =>have h9:=tmp 9 (by decide) (by omega);have hw:=early (f12 (f11 WY));exact still (by omega) (by omega) (by omega) rfl (Mj acW (by rw[h9,hw];exact D.rd.f2))
 |11,_ =>have qq:=tmp 10 (by decide) (by omega);have hw:=early (f12 WY);exact still (by omega) (by omega) (by omega) rfl (Cc acX (by rw[qq,hw];exact D.rd.l2))
 |12,_ =>have Fg:=tmp 11 (by decide) (by omega);have hw:=early WY;refine yv (q10 12 (by omega)) (Cf 12 (by omega)) (WR acY (by rw[Fg,hw];exact D.lit)) ?_;rw[P5 12 (by omega),if_pos (by omega)];refine Ce I (by omega) ZA (.inl ⟨by omega,rfl,rfl⟩) ?_;have h1:=f13 WY;have h2:=f15 h1;unfold SC;simp[kW hn,h1,h2]
 |13,_ =>
  have h5:=tmp 5 (by decide) (by omega);have TI:=tmp 12 (by decide) (by omega);have c12:=ZA 12 (by decide);have c15:=f15 WY;have hw:w=W1:=by rw[I.w];unfold SC;rw[c15,WY,c12];rfl
  refine yv (q10 13 (by omega)) (Cf 13 (by omega)) (HI acZ (by rw[h5,TI,hw];exact D.app)) ?_;rw[P5 13 (by omega),if_pos (by omega)];refine Ce I (by omega) ZA (.inl ⟨by omega,rfl,rfl⟩) ?_;unfold SC;simp[kW hn,c15]
 |14,_ =>have h0:=tmp 0 (by decide) (by omega);have h1:=tmp 1 (by decide) (by omega);exact still (by omega) (by omega) (by omega) rfl (ET ac0 (by rw[h0,h1];exact D.ix _ _))
 |15,_ =>
  have h14:=tmp 14 (by decide) (by omega);have XO:=tmp 13 (by decide) (by omega);have c13:=ZA 13 (by decide);have hw:w=W2:=by rw[I.w];unfold SC;rw[WY,c13];rfl
  refine Zr (q10 15 (by omega)) (Cf 15 (by omega)) (WS ac1 (by rw[h14,XO,hw];exact D.st)) ?_;rw[P5 15 (by omega),if_neg (by omega)];refine Ce I (by omega) ZA (.inr ⟨rfl,rfl⟩) ?_;unfold SC;simp[kW hn]
 |n+16,hl=>exact absurd hl (by omega)
end Go.Vs
