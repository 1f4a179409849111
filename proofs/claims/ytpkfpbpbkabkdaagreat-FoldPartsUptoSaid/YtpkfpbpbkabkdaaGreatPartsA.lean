/- The walk of the function that -/
import Derived.Test.YtpkfpbpbkabkdaaGreatFacesB
import Derived.Great.BuildSlice
set_option linter.unusedSimpArgs false
set_option linter.unusedVariables false
namespace Go.Vs
open Go.Proofs
variable {P:Program} {ops:Array Oper} {Q:Exit→Act→World→Prop} {ρC:Operand→Value} {o:Oper} {w w':World} {v:Value}
theorem kr{x:Operand}(h:o.op=.move x):(execOp ρC o).run P w=.ok (.value (ρC x)) w:=by unfold execOp;rw[h];rfl
theorem te{x:Operand}(h:o.op=.assign x):(execOp ρC o).run P w=.ok (.value (ρC x)) w:=by unfold execOp;rw[h];rfl
theorem Ak{t:TypeId}{x:Operand}(h:o.op=.load t x)(hr:(Instr.loadAt t (ρC x)).run P w=.ok v w'):(execOp ρC o).run P w=.ok (.value v) w':=by unfold execOp;rw[h];show((do pure (Go.Next.value (←Instr.loadAt t (ρC x))):Sem Go.Next)).run _ _=_;rw[Sem.run_bind,hr];rfl
theorem Jk{t:TypeId}{x:Operand}{f:Nat}(h:o.op=.fieldAddr t x f)(hr:(Instr.fieldAt t (ρC x) f).run P w=.ok v w'):(execOp ρC o).run P w=.ok (.value v) w':=by unfold execOp;rw[h];show((do pure (Go.Next.value (←Instr.fieldAt t (ρC x) f)):Sem Go.Next)).run _ _=_;rw[Sem.run_bind,hr];rfl
theorem CU{t:TypeId}{x i:Operand}(h:o.op=.indexAddr t x i)(hr:(Instr.indexAt t (ρC x) (ρC i)).run P w=.ok v w'):(execOp ρC o).run P w=.ok (.value v) w':=by unfold execOp;rw[h];show((do pure (Go.Next.value (←Instr.indexAt t (ρC x) (ρC i))):Sem Go.Next)).run _ _=_;rw[Sem.run_bind,hr];rfl
theorem SA{t:TypeId}{x:Operand}(h:o.op=.buildSlice t 1 #[(0,x)])(hr:(Instr.buildSlice t 1 #[(0,ρC x)]).run P w=.ok v w'):(execOp ρC o).run P w=.ok (.value v) w':=by
 unfold execOp;rw[h];have e:(#[(0,x)]:Array (Nat×Operand)).map (fun(i,x)=>(i,ρC x))=#[(0,ρC x)]:=by simp
 show((do pure (Go.Next.value (←Instr.buildSlice t 1 ((#[(0,x)]:Array (Nat×Operand)).map (fun(i,x)=>(i,ρC x))))):Sem Go.Next)).run _ _=_;rw[e,Sem.run_bind,hr];rfl
theorem SB{t:TypeId}{a x:Operand}(h:o.op=.store t a x)(hr:(Instr.storeAt t (ρC a) (ρC x)).run P w=.ok () w'):(execOp ρC o).run P w=.ok .skip w':=by unfold execOp;rw[h];show((do Instr.storeAt t (ρC a) (ρC x);pure Go.Next.skip:Sem Go.Next)).run _ _=_;rw[Sem.run_bind,hr];rfl
theorem E6{t:TypeId}{x y:Operand}(h:o.op=.call { callee:=.builtin .append,args:=#[x,y],argTypes:=#[t,t] })(hr:(Builtin.append_ #[t,t] o.type #[ρC x,ρC y]).run P w=.ok v w'):(execOp ρC o).run P w=.ok (.value v) w':=by unfold execOp;rw[h];simp only[Go.resolve,invoke,builtin,Sem.run_bind,Sem.run_pure,Result.andThen_ok,List.map_toArray,List.map_cons,List.map_nil,hr]
theorem SC{t e:TypeId}{x:Operand}{A:Option Addr}{n c:Nat}(h:o.op=.call { callee:=.builtin .len,args:=#[x],argTypes:=#[t] })(hu:P.underlying t=some (.slice e))(hx:ρC x=.slice A n c):(execOp ρC o).run P w=.ok (.value (.int .i64 (n:Int))) w:=by unfold execOp;rw[h];simp[Go.resolve,invoke,builtin,Builtin.len_,run_underlying hu,hx,goInt]
theorem wC{i:Nat}{K:Act→World→Prop}{a:Act}(ho:ops[i]? = some o)(hg:o.guard=none)(hr:(execOp a.eval o).run P w=.ok (.value v) w')(hk:K (a.put o.dst v) w'):wpOp P ops Q i K a w:=by unfold wpOp;simp only[ho,lP hg,if_true];refine .inl ?_;unfold Oper.wp;rw[hr];exact hk
theorem Vm{i:Nat}{K:Act→World→Prop}{a:Act}(ho:ops[i]? = some o)(hg:o.guard=none)(hr:(execOp a.eval o).run P w=.ok .skip w')(hk:K (a.put o.dst undef) w'):wpOp P ops Q i K a w:=by unfold wpOp;simp only[ho,lP hg,if_true];refine .inl ?_;unfold Oper.wp;rw[hr];exact hk
def unl(L:Array Bool):Nat:=L.toList.countP (·==false)
theorem MM{L:Array Bool}{i:Nat}(h:L.getD i true=false):unl (L.setIfInBounds i true)+1=unl L:=by
 have hi:i<L.size:=by apply Classical.byContradiction;intro k;rw[Array.getD_eq_getD_getElem?,Array.getElem?_eq_none (by omega)]at h;simp at h
 have hv:L.toList[i]? = some false:=by rw[Array.getElem?_toList,Array.getElem?_eq_getElem hi];rw[Array.getD_eq_getD_getElem?,Array.getElem?_eq_getElem hi]at h;simpa using h
 unfold unl;rw[Array.toList_setIfInBounds];have key:∀(l:List Bool) (i:Nat),l[i]? = some false→(l.set i true).countP (·==false)+1=l.countP (·==false):=by
  intro l
  induction l with
  |nil=>intro i h;simp at h
  |cons b r ih =>
   intro i h
   cases i with
   |zero=>simp at h;subst h;simp
   |succ i =>have:=ih i (by simpa using h);rw[List.set_cons_succ,List.countP_cons,List.countP_cons];omega
 exact key _ _ hv
theorem MN{md:Region.Mode}(I:Array Bool→Act→World→Prop)(step:∀L a w i,I L a w→i∈Region.ready md ops L→wpOp P ops Q i (fun a' w'=>I (L.setIfInBounds i true) a' w') a w) (done:∀L a w,I L a w→Region.ready md ops L=[]→Q .normal a w):∀(n:Nat) (L:Array Bool) (a:Act) (w:World),unl L≤n→I L a w→wpAny P md ops Q n L a w
 |0,L,a,w,hn,hI=>by
  have hr:Region.ready md ops L=[]:=by
   cases h:Region.ready md ops L with
   |nil=>rfl
   |cons i r =>
    have hm:i∈Region.ready md ops L:=by rw[h];simp
    have:=MM (mem_ready.1 hm).1;omega
  exact⟨hr,done L a w hI hr⟩
 |n+1,L,a,w,hn,hI=>by refine⟨fun hr=>done L a w hI hr,fun i hi=>?_⟩;have h1:=MM (mem_ready.1 hi).1;exact wpOp_mono (fun a' w' hI'=>MN I step done n _ a' w' (by omega) hI') (step L a w i hI hi)
end Go.Vs
namespace Go.Vs
open Go.Proofs
variable {Z Z' Z0:Nat→Prop} {ψ ψ' ψ0:Nat→Value} {h h':Hp} {w w' w0 W W':World} {B0:Nat} {O N:Nat→Prop}
noncomputable abbrev r3(i:Nat):Code:=rg Tryz.f251 i
noncomputable abbrev cB3:Code:=.seq (r3 5) (.seq (.seq (r3 6) (.cond (.tmp 19) (.seq (r3 7) (r3 8)) .skip)) (.seq (r3 9) (r3 10)))
noncomputable abbrev cL3:Code:=.seq (r3 4) (.seq (.cond (.tmp 13) .skip (.exit 0)) (.seq (.block 1 cB3) (r3 11)))
theorem Vn:Tryz.f251.body=some (.seq (r3 0) (.seq (r3 1) (.seq (r3 2) (.seq (.seq (r3 3) (.block 0 (.loop cL3))) (.seq (r3 12) .ret))))):=by kernel_rfl
abbrev Pm:=List (Int×Int)
abbrev rw3:List (Nat×Nat×OK):=[(3,31000,.map iT iT),(10,31001,.row 3 iT)]
abbrev VE:Shape:=⟨[(11,iT),(12,iT)],[(.slot 1,20001,Lt)],[(3,31000,.map iT iT),(10,31001,.row 3 iT),(4,31002,.row 28 (.sl jZ))],[]⟩
abbrev V0:Shape:=⟨[(11,iT),(12,iT)],[(.slot 1,20001,Lt)],rw3,[]⟩
abbrev V1:Shape:=⟨[(13,.bool),(11,iT),(12,iT)],[(.slot 1,20001,Lt)],rw3,[]⟩
abbrev V2:Shape:=⟨[(19,.bool),(5,iT),(6,iT),(11,iT),(12,iT)],[(.slot 1,20001,Lt)],rw3,[]⟩
abbrev V3:Shape:=⟨[(5,iT),(6,iT),(11,iT),(12,iT)],[(.slot 1,20001,Lt)],rw3,[]⟩
abbrev V4:Shape:=⟨[(7,iT),(5,iT),(11,iT),(12,iT)],[(.slot 1,20001,Lt)],rw3,[]⟩
theorem ahr(F:FT)(d:ak):(rn F 47 [] (r3 0) { tmps:=[(0,b5 kZ d)],heap:=[] } fun st=>rn F 47 [] (r3 1) st fun st=>rn F 47 [] (r3 2) st fun st=>rn F 47 [] (r3 3) st (cz VE)) =(F 256 ic ((d,()),())).bind fun(y:(((List Int)×Unit)×Unit))=>some (((((List.length y.1.1):Nat):Int),((0:Int),())),(((d,()),()),(([]:Pm),(y.1.1,(([]:List (List ID)),()))))):=by kernel_rfl
theorem m4(F:FT)(n i:Int)(x:_):rn F 47 [4] (r3 4) (ar V0 (((n,((i,()):Int×Unit)):Int×(Int×Unit)),x)) (cz V1)=some ((decide (i<n),(n,(i,()))),x):=by kernel_rfl
theorem m5(F:FT)(b:Bool)(n i:Int)(d:ak)(p:Pm)(L:List Int):(rn F 47 [4] (r3 5) (ar V1 ((b,(n,(i,()))),(((d,()),()),(p,(L,()))))) fun st=>rn F 47 [4] (r3 6) st (cz V2)) = cond (decide ((0:Int)≤i)&&decide (i<((L.length:Nat):Int))) ((L[Int.toNat i]?).bind fun(y:Int)=>some ((y==i,(i,(y,(n,(i,()))))),(((d,()),()),(p,(L,()))))) none:=by kernel_rfl
theorem m9(F:FT)(n i y j:Int)(d:ak)(p:Pm)(L:List Int):rn F 47 [4] (r3 9) (ar V3 ((i,(y,(n,(j,())))),(((d,()),()),(p,(L,()))))) (cz V4)=some ((((fW (.int .i64) y p).getD (0:Int)),(i,(n,(j,())))),(((d,()),()),(p,(L,())))):=by kernel_rfl
theorem m11(F:FT)(n i:Int)(x:_):rn F 47 [4] (r3 11) (ar V0 (((n,((i,()):Int×Unit)):Int×(Int×Unit)),x)) (cz V0)=some ((n,(IntKind.wrap .i64 (i+1),())),x):=by kernel_rfl
abbrev st7(n i y j m:Int)(d:ak)(p:Pm)(L:List Int):St:={ tmps:=[(20,.bC 31000),(21,.int .i64 i),(23,.int .i64 m)]++(ar V3 ((i,(y,(n,(j,())))),(((d,()),()),(p,(L,()))))).tmps,heap:=(ar V3 ((i,(y,(n,(j,())))),(((d,()),()),(p,(L,()))))).heap }
noncomputable def o3(r i:Nat):Oper:=((opsOf (r3 r))[i]?).getD { dst:=none,op:=.move (.tmp 0),type:=0,pos:= "",after:=#[],guard:=none }
theorem m7(F:FT)(n i y j m:Int)(d:ak)(p:Pm)(L:List Int):bw Tryz.prog Eqs SgF F 7 false (opsOf (r3 7)) #[] [(4,o3 7 4)] (st7 n i y j m d p L) (cz V3)=some ((i,(y,(n,(j,())))),(((d,()),()),(jn (.int .i64) i m p,(L,())))):=by kernel_rfl
structure Jr(W:World)(lv:Value)(vs:List Value)(q:Nat):Prop where
 o:dx W 28 1 lv vs.length vs
 i:∀v∈vs,∃n cs,dx W 31 2 v n cs∧n≤q
 d:∀(j k:Nat) v u b,vs[j]? = some v→vs[k]? = some u→ob v=some b→ob u=some b→j=k
 a:∀v∈vs,∀b,ob v=some b→ob lv≠some b
def Xj(lv:Value)(vs:List Value)(b:Nat):Prop:=ob lv=some b∨∃v∈vs,ob v=some b
theorem Jr.kept{lv:Value}{vs:List Value}{q:Nat}(j:Jr W lv vs q)(hs:∀b,Xj lv vs b→W'.heap[b]? = W.heap[b]?):Jr W' lv vs q :=⟨j.o.kept fun g hg=>hs g (.inl hg),fun v hv=>by obtain⟨n,cs,h1,h2⟩:=j.i v hv;exact⟨n,cs,h1.kept fun g hg=>hs g (.inr ⟨v,hv,hg⟩),h2⟩,j.d,j.a⟩
theorem Jr.up{lv:Value}{vs:List Value}{q q':Nat}(j:Jr W lv vs q)(h:q≤q'):Jr W lv vs q' :=⟨j.o,fun v hv=>by obtain⟨n,cs,h1,h2⟩:=j.i v hv;exact⟨n,cs,h1,by omega⟩,j.d,j.a⟩
theorem dx.lt{e size n:Nat}{v:Value}{vs:List Value}(h:dx W e size v n vs){b:Nat}(hb:ob v=some b):b<W.heap.size:=by
 rcases h.2 with⟨h0,A,rfl⟩|⟨g,cap,cur,rfl,hc,hh,_⟩
 ·cases A<;>simp[ob]at hb
 ·simp only[ob]at hb;rw[if_neg (by omega)]at hb
  cases hb
  exact(abX.1 hh).1
theorem Jr.lt{lv:Value}{vs:List Value}{q:Nat}(j:Jr W lv vs q){b:Nat}(hb:Xj lv vs b):b<W.heap.size:=by
 rcases hb with hb|⟨v,hv,hb⟩
 ·exact j.o.lt hb
 ·obtain⟨n,cs,h1,_⟩:=j.i v hv;exact h1.lt hb
end Go.Vs
namespace Go.Vs
open Go.Proofs
variable {Z Z' Z0:Nat→Prop} {ψ ψ' ψ0:Nat→Value} {h h':Hp} {w w' w0 W W' W1 W2:World} {B0:Nat} {O N:Nat→Prop}
structure Gw(L:Nat→Prop)(W W':World):Prop where
 os:W'.os=W.os
 tape:W'.tape=W.tape
 output:W'.output=W.output
 size:W.heap.size≤W'.heap.size
 block:∀b,b<W.heap.size→¬L b→W'.heap[b]? = W.heap[b]?
theorem Gw.refl{L:Nat→Prop}(W:World):Gw L W W:=⟨rfl,rfl,rfl,acn _,fun _ _ _=>rfl⟩
theorem Gw.trans{L:Nat→Prop}(s:Gw L W W1)(t:Gw L W1 W2):Gw L W W2 :=⟨t.os.trans s.os,t.tape.trans s.tape,t.output.trans s.output,acB s.size t.size,fun b h1 h2=>(t.block b (adL h1 s.size) h2).trans (s.block b h1 h2)⟩
theorem Gw.less{L L':Nat→Prop}(s:Gw L W W1)(h:∀b,b<W.heap.size→L b→L' b):Gw L' W W1:=⟨s.os,s.tape,s.output,s.size,fun b h1 h2=>s.block b h1 fun k=>h2 (h b h1 k)⟩
theorem Gw.alloc{L:Nat→Prop}(W:World)(o:Obj):Gw L W (W.alloc o):=⟨rfl,rfl,rfl,by rw[World.size_alloc];omega,fun b hb _=>heap_alloc_old W _ hb⟩
theorem Gw.grown{row:Option Nat}(h:W.grownBy W1 row):Gw (fun b=>row=some b) W W1:=⟨h.os,h.tape,h.output,h.size,fun b hb hn=>h.block b hb fun e=>hn e.symm⟩
theorem Gw.set(W:World)(g:Nat)(arr:Array Value){cur:Array Value}{ty:TypeId}(hg:W.heap[g]? = some (.cells cur ty (0,0))):Gw (·=g) W (W.setRow g arr):=by have k:=cE.setRow (ψ:=fun _=>.slice (some ⟨g,0,none⟩) 1 1) (h:=fun _=>some (.box 0 [])) (w:=W) (gg:=g) ⟨0,by simp,by simp[ob]⟩ arr;exact⟨k.os,k.tape,k.output,k.size,fun b _ hb=>setRow_other _ (fun e=>hb e.symm)⟩
theorem Gw.drawn{L:Nat→Prop}(W:World):Gw L W { W with drawn:=W.drawn+1 }:=⟨rfl,rfl,rfl,acn _,fun _ _ _=>rfl⟩
theorem E7(W:World)(o:Obj):(W.alloc o).heap[W.heap.size]? = some o:=by show(W.heap.push o)[W.heap.size]? = _;simp
abbrev CV:Value:=.slice none 0 0
theorem MO:∃i z,nK Tryz.prog 28 (.sl jZ) i z:=b7 (by kernel_rfl)
theorem acI:∃i z,nK Tryz.prog 31 jZ i z:=b7 (by kernel_rfl)
theorem Jl:Tryz.prog.underlying 243=some (.slice 28):=by kernel_rfl
theorem WY:Tryz.prog.underlying 28=some (.slice 31):=by kernel_rfl
theorem SD(x a:Value)(cs:Array Value)(hc:x.cells=#[a])(hz:cs.size=1):Instr.fill (fun i=>some (i*1,1)) cs [(0,x)]=some #[a]:=by
 obtain⟨l⟩:=cs
 match l,hz with
 |[z],_=>simp[Instr.fill,hc]
theorem SF(x a b:Value)(cs:Array Value)(hc:x.cells=#[a,b])(hz:cs.size=2):Instr.fill (fun i=>some (i*2,2)) cs [(0,x)]=some #[a,b]:=by
 obtain⟨l⟩:=cs
 match l,hz with
 |[z,y],_=>simp[Instr.fill,hc]
theorem Jm(W:World){t e:TypeId}{k:K}{i:TypeInfo}{z:Value}(ht:Tryz.prog.underlying t=some (.slice e))(he:nK Tryz.prog e k i z)(x:Value)(hx:x.cells.size=k.sz)(hs:k.sz=1∨k.sz=2) :
  (Instr.buildSlice t 1 #[(0,x)]).run Tryz.prog W=.ok (.slice (some ⟨W.heap.size,0,none⟩) 1 1) (W.alloc (.cells x.cells e)):=by
 refine run_buildSlice W t e 1 _ x.cells i z ht he.info he.zero (by rw[he.size];omega) (by rw[he.size];omega) ?_;have hz:((Array.range (1*i.size)).map (z.cells[· % z.cells.size]!)).size=k.sz:=by rw[he.size];simp
 generalize (Array.range (1*i.size)).map (z.cells[· % z.cells.size]!)=zs at hz;rw[he.size];obtain⟨cs,Fq⟩:∃cs,cs=x.cells:=⟨_,rfl⟩;rw[←Fq]at hx;obtain⟨l⟩:=cs;rcases hs with hs|hs
 ·rw[hs]at hx hz ⊢
  match l,hx with
  |[a],_=>rw[←Fq];exact SD x a zs Fq.symm hz
 ·rw[hs]at hx hz ⊢
  match l,hx with
  |[a,b],_=>rw[←Fq];exact SF x a b zs Fq.symm hz
theorem acJ(W:World){k:K}{e:TypeId}{x:Value}(hx:x.cells.size=k.sz)(h1:∀q∈x.cells.toList,q.oneCell'=true):T1 (W.alloc (.cells x.cells e)) k.sz (.slice (some ⟨W.heap.size,0,none⟩) 1 1) 1 x.cells.toList:=by refine⟨by simpa using hx,h1,.inr ⟨_,_,rfl,fun j q hj=>?_⟩⟩;rw[cw,Nat.zero_add];simp only[World.cell?,E7];simpa using hj
theorem dx.sub{e size n:Nat}{v:Value}{vs:List Value}(h:dx W e size v n vs){L:Nat→Prop}(s:Gw L W W1)(hl:∀b,ob v=some b→¬L b):dx W1 e size v n vs:=h.kept fun g hg=>s.block g (h.lt hg) (hl g hg)
theorem Jr.sub{lv:Value}{vs:List Value}{q:Nat}(j:Jr W lv vs q){L:Nat→Prop}(s:Gw L W W1)(hl:∀b,Xj lv vs b→¬L b):Jr W1 lv vs q:=j.kept fun b hb=>s.block b (j.lt hb) (hl b hb)
theorem YC{lv:Value}{vs:List Value}{q:Nat}(j:Jr W lv vs q)(hq:vs.length+1≤eE)(ty:TypeId) :
  ∃Lv W2,(Builtin.append_ #[243,243] ty #[lv,.slice (some ⟨W.heap.size,0,none⟩) 1 1]).run Tryz.prog (W.alloc (.cells #[CV] 28))=.ok Lv W2∧Jr W2 Lv (vs++[CV]) q∧Gw (Xj lv vs) W W2∧∀b,Xj Lv (vs++[CV]) b→Xj lv vs b∨W.heap.size≤b:=by
 obtain⟨i,z,he⟩:=MO;have g1:Gw (Xj lv vs) W (W.alloc (.cells #[CV] 28)):=Gw.alloc _ _;have j1:Jr (W.alloc (.cells #[CV] 28)) lv vs q:=j.sub (L:=fun _=>False) (Gw.alloc _ _) fun _ _ h=>h;obtain⟨Lv,W2,cJ,h4,h5,h6⟩:=dD (P:=Tryz.prog) (ty:=ty) Jl he j1.o (acJ W (k:=.sl jZ) (x:=CV) rfl (by intro q hq;simp[Value.cells]at hq;subst hq;rfl)) hq;have g2:=Gw.grown h5;have la:∀b,ob Lv=some b→ob lv=some b∨W.heap.size≤b:=fun b hb=>by
  rcases h6 with h6|h6
  ·rw[h6]at hb;exact .inl hb
  ·have:=h6 b hb;rw[World.size_alloc]at this;exact .inr (by omega)
 refine⟨Lv,W2,cJ,⟨?_,?_,?_,?_⟩,g1.trans (g2.less fun b _ h=>.inl h),?_⟩
 ·rw[List.length_append];exact h4
 ·intro v hv;rcases ab0.1 hv with hv|hv
  ·obtain⟨n,cs,k1,k2⟩:=j1.i v hv;exact⟨n,cs,k1.sub g2 fun b hb e=>j.a v hv b hb e,k2⟩
  ·rw[List.mem_singleton]at hv;subst hv;exact⟨0,[],⟨rfl,.inl ⟨rfl,none,rfl⟩⟩,adO _⟩
 ·intro a k v u b h1 h2 h3 h4;have key:∀{a:Nat} {v:Value},(vs++[CV])[a]? = some v→ob v=some b→vs[a]? = some v:=fun {a v} h1 h2=>by
   by_cases ha:a<vs.length
   ·rwa [List.getElem?_append_left ha]at h1
   ·rw[List.getElem?_append_right (by omega)]at h1;have:v=CV:=by have:=acy h1;simpa using this
    subst this;simp[ob]at h2
  exact j.d a k v u b (key h1 h3) (key h2 h4) h3 h4
 ·intro v hv b hb;rcases ab0.1 hv with hv|hv
  ·intro e;rcases la b e with e|e
   ·exact j.a v hv b hb e
   ·have:=j.lt (b:=b) (.inr ⟨v,hv,hb⟩);omega
  ·rw[List.mem_singleton]at hv;subst hv;simp[ob]at hb
 ·rintro b (hb|⟨v,hv,hb⟩)
  ·exact(la b hb).imp .inl fun h=>h
  ·rcases ab0.1 hv with hv|hv
   ·exact .inl (.inr ⟨v,hv,hb⟩)
   ·rw[List.mem_singleton]at hv;subst hv;simp[ob]at hb
structure At(W:World)(lv:Value)(vs:List Value)(k:Nat)(v:Value)(g:Nat):Prop where
 ix:∀W' K,(Instr.indexAt 243 lv (.int K (k:Int))).run Tryz.prog W'=.ok (.pointer (some ⟨g,k,none⟩)) W'
 b:ob lv=some g
 ld:∀W',W'.heap[g]? = W.heap[g]?→(Instr.loadAt 28 (.pointer (some ⟨g,k,none⟩))).run Tryz.prog W'=.ok v W'
theorem acK{lv:Value}{vs:List Value}{q k:Nat}{v:Value}(j:Jr W lv vs q)(hk:vs[k]? = some v):∃g,At W lv vs k v g:=by
 have aF:=(abr.1 hk).1;obtain⟨i,z,he⟩:=MO;have hc:Tryz.prog.cellsOf 28=1:=by kernel_rfl
 rcases j.o.2 with⟨h0,_⟩|⟨g,cap,cur,rfl,Ww,hh,hle,acL,gE,km⟩
 ·omega
 refine⟨g,fun W' K=>?_,?_,fun W' hW=>?_⟩
 ·have:=nO (P:=Tryz.prog) (w:=W') Jl he.info ⟨g,0,none⟩ vs.length cap K (k:Int) (by omega) (by omega);rw[this,hc,cw,Int.toNat_natCast,Nat.mul_one,Nat.zero_add]
 ·simp only[ob];rw[if_neg (by omega)]
 ·have D3:cur.toList[k]? = some v:=by
   rw[←km,Nat.mul_one,List.getElem?_take]at hk;by_cases mY:k<vs.length
   ·rwa [if_pos mY]at hk
   ·rw[if_neg mY]at hk;cases hk
  have hb:DX Tryz.prog 28=some false:=by kernel_rfl
  have rh:W'.cell? ⟨g,k,none⟩=some v:=by simp only[World.cell?,hW,hh];simpa using D3
  simp[Instr.loadAt,Instr.sureAddr,loadVar,gi hb,rh]
theorem YD{lv:Value}{vs:List Value}{q k:Nat}{v x:Value}(j:Jr W lv vs q)(hk:vs[k]? = some v)(hq:q+1≤eE)(hx:x.cells.size=2)(h1:∀u∈x.cells.toList,u.oneCell'=true)(ty:TypeId) :
  ∃v' W2,(Builtin.append_ #[28,28] ty #[v,.slice (some ⟨W.heap.size,0,none⟩) 1 1]).run Tryz.prog (W.alloc (.cells x.cells 31))=.ok v' W2∧(∃n cs,dx W2 31 2 v' n cs∧n≤q+1)∧Gw (fun b=>ob v=some b) W W2∧∀b,ob v'=some b→ob v=some b∨W.heap.size≤b:=by
 obtain⟨i,z,he⟩:=acI;have hv:=acy hk;obtain⟨n,cs,k1,k2⟩:=j.i v hv;have g1:Gw (fun b=>ob v=some b) W (W.alloc (.cells x.cells 31)):=Gw.alloc _ _;have k3:dx (W.alloc (.cells x.cells 31)) 31 2 v n cs:=k1.sub (L:=fun _=>False) (Gw.alloc _ _) fun _ _ h=>h;obtain⟨v',W2,cJ,h4,h5,h6⟩:=dD (P:=Tryz.prog) (k:=jZ) (ty:=ty) WY he k3 (acJ W (k:=jZ) (x:=x) hx h1) (by omega);refine⟨v',W2,cJ,⟨n+1,_,h4,by omega⟩,g1.trans (Gw.grown h5),fun b hb=>?_⟩;rcases h6 with h6|h6
 ·rw[h6]at hb;exact .inl hb
 ·have:=h6 b hb;rw[World.size_alloc]at this;exact .inr (by omega)
theorem YE{lv:Value}{vs:List Value}{q k:Nat}{v v':Value}{g:Nat}(j:Jr W lv vs q)(hk:vs[k]? = some v)(yx:At W lv vs k v g)(gw:Gw (fun b=>ob v=some b) W W2)(zn:∃n cs,dx W2 31 2 v' n cs∧n≤q+1)(la:∀b,ob v'=some b→ob v=some b∨W.heap.size≤b) :
  ∃W3,(Instr.storeAt 28 (.pointer (some ⟨g,k,none⟩)) v').run Tryz.prog W2=.ok () W3∧Jr W3 lv (vs.set k v') (q+1)∧Gw (Xj lv vs) W W3∧∀b,Xj lv (vs.set k v') b→Xj lv vs b∨W.heap.size≤b:=by
 have hv:=acy hk;have aF:=(abr.1 hk).1;obtain⟨n',cs',nL,JY⟩:=zn;obtain⟨i,z,he⟩:=MO;have hc:Tryz.prog.cellsOf 28=1:=by kernel_rfl
 have VV:=j.a v hv;have Mx:∀b,ob v=some b→b≠g:=fun b hb e=>VV b hb (by rw[e];exact yx.b);rcases j.o.2 with⟨h0,_⟩|⟨g',cap,cur,e,Ww,hh,hle,acL,gE,km⟩
 ·omega
 have Nm:g'=g:=by have:=yx.b;rw[e]at this;simp only[ob]at this;rw[if_neg (by omega)]at this;exact ab5 this
 subst Nm;have XU:g'<W.heap.size:=j.o.lt yx.b;have hh2:W2.heap[g']? = some (.cells cur 28 (0,0)):=(gw.block g' XU fun e=>Mx g' e rfl).trans hh;obtain⟨Xq,nN⟩:=nL.one;have u6:=k9 (P:=Tryz.prog) (w:=W2) (t:=28) he.info g' k v' cur 28 hh2 (by rw[Xq,hc];rfl) (by rw[Xq];show k+1≤cur.size;omega) (by rw[Xq];intro u hu;simp at hu;subst hu;exact nN);refine⟨_,u6,?_⟩;rw[Xq];generalize WX:W2.setRow g' _=W3;have g3:Gw (·=g') W2 W3:=by rw[←WX];exact Gw.set _ _ _ hh2
 have mR:W3.heap[g']? = some (.cells (cur.toList.take k++#[v'].toList++cur.toList.drop (k+1)).toArray 28 (0,0)):=by rw[←WX];exact setRow_heap W2 g' cur _ 28 _ hh2
 have acM:(cur.toList.take k++#[v'].toList++cur.toList.drop (k+1))=cur.toList.set k v':=by
  have Py:k<cur.toList.length:=by simp;omega
  rw[List.set_eq_take_append_cons_drop,if_pos Py];simp
 rw[acM]at mR;have aht:Gw (Xj lv vs) W W3:=(gw.less fun b _ hb=>.inr ⟨v,hv,hb⟩).trans (g3.less fun b _ hb=>.inl (by rw[hb];exact yx.b));have acN:∀b,b<W.heap.size→ob v≠some b→b≠g'→W3.heap[b]? = W.heap[b]? := fun b h1 h2 h3=>(g3.block b (adL h1 gw.size) h3).trans (gw.block b h1 h2);have T3:∀b,ob v'=some b→b≠g':=fun b hb e=>by
  rcases la b hb with h|h
  ·exact Mx b h e
  ·omega
 have at_:∀{a:Nat} {u:Value},(vs.set k v')[a]? = some u→(a=k∧u=v')∨(a≠k∧vs[a]? = some u):=fun {a u} h=>by
  rw[List.getElem?_set]at h;by_cases hka:k=a
  ·rw[if_pos hka,if_pos (by omega)]at h;exact .inl ⟨hka.symm,(ab5 h).symm⟩
  ·rw[if_neg hka]at h;exact .inr ⟨fun e=>hka e.symm,h⟩
 have key:∀{a:Nat} {u:Value} {b:Nat},a≠k→vs[a]? = some u→ob u=some b→ob v≠some b:=fun {a u b} ha h1 h2 h3=>ha (j.d a k u v b h1 hk h2 h3);refine⟨⟨?_,?_,?_,?_⟩,aht,?_⟩
 ·refine⟨by simp,.inr ⟨g',cap,_,by rw[List.length_set];exact e,Ww,mR,by rw[List.length_set];exact hle,acL,?_,?_⟩⟩
  ·simp[gE]
  ·rw[List.toList_toArray,List.length_set,List.take_set,km]
 ·intro u hu;obtain⟨a,ha⟩:=List.mem_iff_getElem?.1 hu;rcases at_ ha with⟨_,rfl⟩|⟨h1,h2⟩
  ·exact⟨n',cs',nL.sub g3 fun b hb=>T3 b hb,JY⟩
  ·obtain⟨m,ds,k1,k2⟩:=j.i u (acy h2);exact⟨m,ds,k1.kept fun b hb=>acN b (k1.lt hb) (key h1 h2 hb) fun e=>j.a u (acy h2) b hb (by rw[e];exact yx.b),by omega⟩
 ·intro a c u y b h1 h2 h3 h4;rcases at_ h1 with⟨rfl,rfl⟩|⟨ha,h5⟩<;>rcases at_ h2 with⟨rfl,rfl⟩|⟨Zm,h6⟩
  ·rfl
  ·rcases la b h3 with h|h
   ·exact absurd h (key Zm h6 h4)
   ·have:=j.lt (b:=b) (.inr ⟨y,acy h6,h4⟩);omega
  ·rcases la b h4 with h|h
   ·exact absurd h (key ha h5 h3)
   ·have:=j.lt (b:=b) (.inr ⟨u,acy h5,h3⟩);omega
  ·exact j.d a c u y b h5 h6 h3 h4
 ·intro u hu b hb;obtain⟨a,ha⟩:=List.mem_iff_getElem?.1 hu;rcases at_ ha with⟨_,rfl⟩|⟨h1,h2⟩
  ·rw[yx.b];intro e2;exact T3 b hb (ab5 e2).symm
  ·exact j.a u (acy h2) b hb
 ·rintro b (hb|⟨u,hu,hb⟩)
  ·exact .inl (.inl hb)
  ·obtain⟨a,ha⟩:=List.mem_iff_getElem?.1 hu;rcases at_ ha with⟨_,rfl⟩|⟨h1,h2⟩
   ·exact(la b hb).imp (fun h=>.inr ⟨v,hv,h⟩) fun h=>h
   ·exact .inl (.inr ⟨u,acy h2,hb⟩)
structure PtX(Z0:Nat→Prop)(w0:World)(sh:Shape)(x:sh.T)(lv:Value)(vs:List Value)(q:Nat)(a:Act)(W:World)(Z:Nat→Prop)(ψ:Nat→Value):Prop where
 wk:Wk Z0 w0 C7 Z W
 g:Good Z ψ (ar sh x).heap.get W w0.heap.size C7
 t:cK Z ψ (ar sh x).heap.get W 47 (look (ar sh x).tmps) a
 j:Jr W lv vs q
 fr:gY (Xj lv vs) Z (Own ψ (ar sh x).heap.get) W
 x0:∀b,Xj lv vs b→w0.heap.size≤b
 lv:a.tmps.getD 4 undef=lv
def Pt(Z0:Nat→Prop)(w0:World)(sh:Shape)(x:sh.T)(vs:List Value)(q:Nat)(a:Act)(W:World):Prop:=∃lv Z ψ,PtX Z0 w0 sh x lv vs q a W Z ψ
variable {sh sh':Shape} {x:sh.T} {x':sh'.T} {a:Act} {lv:Value} {vs:List Value} {q:Nat}
theorem Lw{st:St}{a1:Act}(s:PtX Z0 w0 sh x lv vs q a W Z ψ)(u6:cz sh' st=some x'){ψ':Nat→Value}{Z':Nat→Prop}(ok:Ok Z W (Own ψ (ar sh x).heap.get) ψ Z' ψ' st.heap.get W')(t:cK Z' ψ' st.heap.get W' 47 (look st.tmps) a1)(hk:a1.tmps.getD 4 undef=a.tmps.getD 4 undef):Pt Z0 w0 sh' x' vs q a1 W':=by obtain⟨Z2,dR,C6,t2⟩:=gq u6 ok t;obtain⟨f1,f2⟩:=(C6.tr (L:=C7)).free s.fr fun _ _ h=>h;exact⟨lv,Z2,dR,s.wk.step (C6.tr (L:=C7)) s.g.from (fun _ h=>h.elim),C6.Lr s.g s.wk.size,t2,s.j.kept f2,f1,s.x0,hk.trans s.lv⟩
theorem Lx{c:Code}(hx:rn F1 47 [4] c (ar sh x) (cz sh')=some x')(n:Nat)(s:Pt Z0 w0 sh x vs q a W):c.wpIn (FW none) n Tryz.prog (fun e a' W'=>e=.normal∧Pt Z0 w0 sh' x' vs q a' W') a W:=by obtain⟨lv,Z,ψ,s⟩:=s;have:=dK qh hx none n [] (Good.start s.g) s.t;rw[dB]at this;refine wpIn_mono this ?_;rintro e a1 W1 ⟨rfl,a2,rfl,k,st,Z1,nW,u6,ok,t⟩;rw[dB];exact⟨rfl,Lw s u6 ok t (k 4 (by simp))⟩
theorem Vo{c c':Code}(hx:(rn F1 47 [4] c (ar sh x) fun st=>rn F1 47 [4] c' st (cz sh'))=some x')(n:Nat)(s:Pt Z0 w0 sh x vs q a W) :
  c.wpIn (FW none) n Tryz.prog (fun e a' W'=>e=.normal∧c'.wpIn (FW none) n Tryz.prog (fun e a' W'=>e=.normal∧Pt Z0 w0 sh' x' vs q a' W') a' W') a W:=by
 obtain⟨lv,Z,ψ,s⟩:=s;have:=dK qh hx none n [] (Good.start s.g) s.t;rw[dB]at this;refine wpIn_mono this ?_;rintro e a1 W1 ⟨rfl,a2,rfl,k,st,Z1,nW,u6,ok,t⟩;rw[dB];refine⟨rfl,?_⟩;have:=dK qh u6 none n [] ok t;rw[dB]at this;refine wpIn_mono this ?_;rintro e a3 W3 ⟨rfl,a4,rfl,k3,st3,Z3,Qa,YA,Vl,t3⟩;rw[dB];exact⟨rfl,Lw s YA Vl t3 ((k3 4 (by simp)).trans (k 4 (by simp)))⟩
theorem MP{y:sh'.T}(s:Pt Z0 w0 sh x vs q a W)(hh:(ar sh' y).heap=(ar sh x).heap)(ht:∀p∈(ar sh' y).tmps,look (ar sh x).tmps p.1=p.2):Pt Z0 w0 sh' y vs q a W:=by
 obtain⟨lv,Z,ψ,s⟩:=s;refine⟨lv,Z,ψ,s.wk,?_,?_,s.j,?_,s.x0,s.lv⟩
 ·rw[hh];exact s.g
 ·rw[hh];exact eL (fun p hp=>by have:=s.t.rep p.1;rwa [ht p hp]at this) s.t.size s.t.defers
 ·rw[hh];exact s.fr
theorem MQ{a1:Act}{Lv:Value}{hM:List Value}{q':Nat}(s:PtX Z0 w0 sh x lv vs q a W Z ψ)(gw:Gw (Xj lv vs) W W')(j:Jr W' Lv hM q')(hx:∀b,Xj Lv hM b→Xj lv vs b∨W.heap.size≤b)(WI:a1.tmps.getD 4 undef=Lv)(gE:a1.tmps.size=47)(hdf:a1.defers=[])(ht:∀p∈(ar sh x).tmps,a1.tmps.getD p.1 undef=a.tmps.getD p.1 undef)(nD:∀p∈(ar sh x).tmps,look (ar sh x).tmps p.1=p.2):PtX Z0 w0 sh x Lv hM q' a1 W' Z ψ:=by
 have hs:∀b,Z b∨Own ψ (ar sh x).heap.get b→W'.heap[b]? = W.heap[b]? := fun b hb=>by have aF:b<W.heap.size:=hb.elim (s.g.jO b) fun h=>s.g.bF h;refine gw.block b aF fun hX=>?_;have:=s.fr b hX;exact hb.elim this.2.1 this.2.2
 have zl:∀b,Z b→b<W'.heap.size:=fun b hb=>adL (s.g.jO b hb) gw.size;refine⟨s.wk.step (L:=Xj lv vs) (A:=fun _=>False) (B:=fun _=>False) (Tr.cq gw.os gw.tape gw.output gw.size gw.block) (fun _ h=>h.elim) s.x0,s.g.same (fun _ h=>h) hs (fun b hb hz=>(s.g.zA b hz).2 hb) zl,eL (fun p hp=>?_) gE hdf,j,fun b hb=>?_,fun b hb=>?_,WI⟩
 ·rw[ht p hp];have:=s.t.rep p.1;rw[nD p hp]at this;exact this.less (fun _ h=>h) (fun b hb=>hs b (.inl hb)) fun i hi=>⟨hi,rfl⟩
 ·refine⟨j.lt hb,fun hz=>?_,fun ho=>?_⟩
  ·rcases hx b hb with h|h
   ·exact(s.fr b h).2.1 hz
   ·have:=s.g.jO b hz;omega
  ·rcases hx b hb with h|h
   ·exact(s.fr b h).2.2 ho
   ·have:=s.g.bF ho;omega
 ·rcases hx b hb with h|h
  ·exact s.x0 b h
  ·exact acB s.wk.size h
theorem cP{P:Program}{ops:Array Oper}{Q:Exit→Act→World→Prop}{i:Nat}{rest:List Nat}{a:Act}{w w':World}{o:Oper}{v:Value}(ho:ops[i]? = some o)(hg:o.guard=none)(hr:(execOp a.eval o).run P w=.ok (.value v) w')(hk:wpOps P ops Q rest (a.put o.dst v) w'):wpOps P ops Q (i::rest) a w:=by rw[wpOps_cons];exact wC ho hg hr hk
theorem nE{a:Act}{d i:Nat}{v:Value}(h:i≠d):(a.put (some d) v).eval (.tmp i)=a.eval (.tmp i):=bT a v fun j hj e=>h (by cases hj;exact e)
theorem dw{a:Act}{d:Nat}{v:Value}(h:d<a.tmps.size):(a.put (some d) v).eval (.tmp d)=v:=by show(a.put (some d) v).tmps.getD d undef=v;rw[ib h,if_pos rfl]
theorem YF:r3 7=.region 7 (opsOf (r3 7)) false:=by kernel_rfl
theorem YG:r3 8=.region 8 (opsOf (r3 8)) false:=by kernel_rfl
theorem Vp(n:Nat){x:V3.T}(hq:vs.length+1≤eE)(s:Pt Z0 w0 V3 x vs q a W)(nD:∀p∈(ar V3 x).tmps,look (ar V3 x).tmps p.1=p.2∧p.1∈[5,6,11,12,1,3,10]) :
  (r3 8).wpIn (FW none) n Tryz.prog (fun e a' W'=>e=.normal∧Pt Z0 w0 V3 x (vs++[CV]) q a' W') a W:=by
 obtain⟨lv,Z,ψ,s⟩:=s;obtain⟨i,z,he⟩:=MO;rw[YG];show Code.wpIn Fence.wide n Tryz.prog _ _ a W;refine wpIn_wide.2 (wp_region ?_);have hs:(opsOf (r3 8)).size=4:=by kernel_rfl
 have g0:(opsOf (r3 8))[0]? = some (o3 8 0):=by kernel_rfl
 have g1:(opsOf (r3 8))[1]? = some (o3 8 1):=by kernel_rfl
 have g2:(opsOf (r3 8))[2]? = some (o3 8 2):=by kernel_rfl
 have g3:(opsOf (r3 8))[3]? = some (o3 8 3):=by kernel_rfl
 have d0:(o3 8 0).dst=some 24:=by kernel_rfl
 have d1:(o3 8 1).dst=some 25:=by kernel_rfl
 have d2:(o3 8 2).dst=some 26:=by kernel_rfl
 have d3:(o3 8 3).dst=some 4:=by kernel_rfl
 have p0:(o3 8 0).op=.move (.tmp 4):=by kernel_rfl
 have p1:(o3 8 1).op=.buildSlice 243 1 #[(0,.const CV)]:=by kernel_rfl
 have p2:(o3 8 2).op=.call { callee:=.builtin .append,args:=#[.tmp 24,.tmp 25],argTypes:=#[243,243] }:=by kernel_rfl
 have p3:(o3 8 3).op=.assign (.tmp 26):=by kernel_rfl
 rw[hs,show List.range 4=[0,1,2,3] from rfl];obtain⟨Lv,W2,cJ,j2,gw,hX⟩:=YC s.j hq (o3 8 2).type;have gE:=s.t.size;refine cP g0 (by kernel_rfl) (kr p0) ?_;rw[d0];obtain⟨a1,E2⟩:∃a1,a1=a.put (some 24) (a.eval (.tmp 4)):=⟨_,rfl⟩;rw[←E2];have YH:a1.tmps.size=47:=by rw[E2,cp];exact gE
 refine cP g1 (by kernel_rfl) (SA p1 (Jm W Jl he CV rfl (.inl rfl))) ?_;rw[d1];obtain⟨a2,Dy⟩:∃a2,a2=a1.put (some 25) (.slice (some ⟨W.heap.size,0,none⟩) 1 1):=⟨_,rfl⟩;rw[←Dy];have mT:a2.tmps.size=47:=by rw[Dy,cp];exact YH
 have e24:a2.eval (.tmp 24)=lv:=by rw[Dy,nE (by decide),E2,dw (by omega)];exact s.lv
 have e25:a2.eval (.tmp 25)=.slice (some ⟨W.heap.size,0,none⟩) 1 1:=by rw[Dy,dw (by omega)]
 refine cP g2 (by kernel_rfl) (E6 p2 (by rw[e24,e25];exact cJ)) ?_;rw[d2];obtain⟨a3,GQ⟩:∃a3,a3=a2.put (some 26) Lv:=⟨_,rfl⟩;rw[←GQ];have YI:a3.tmps.size=47:=by rw[GQ,cp];exact mT
 have e26:a3.eval (.tmp 26)=Lv:=by rw[GQ,dw (by omega)]
 refine cP g3 (by kernel_rfl) (te p3) ?_;rw[d3,e26];refine⟨rfl,Lv,Z,ψ,MQ s gw j2 hX ?_ (by rw[cp];exact YI) (by rw[put_defers,GQ,put_defers,Dy,put_defers,E2,put_defers];exact s.t.defers) (fun p hp=>?_) fun p hp=>(nD p hp).1⟩
 ·exact dw (by omega)
 ·have hm:=(nD p hp).2;have aW:∀d,d∈[4,24,25,26]→p.1≠d:=fun d hd e=>by simp only[List.mem_cons,List.not_mem_nil,or_false]at hm hd;omega
  rw[bT _ _ fun j hj=>by cases hj;exact aW 4 (by simp),GQ,bT _ _ fun j hj=>by cases hj;exact aW 26 (by simp),Dy,bT _ _ fun j hj=>by cases hj;exact aW 25 (by simp),E2,bT _ _ fun j hj=>by cases hj;exact aW 24 (by simp)]
end Go.Vs
namespace Go.Vs
open Go.Proofs
variable {Z Z' Z0:Nat→Prop} {ψ ψ' ψ0:Nat→Value} {h h':Hp} {w w' w0 W W' W1 W2:World} {B0:Nat} {O N:Nat→Prop}
variable {a:Act} {lv:Value} {vs:List Value} {q:Nat}
theorem Vq(n:Nat){i y c j:Int}{d:ak}{p:Pm}{L:List Int}(s:Pt Z0 w0 V3 ((i,(y,(c,(j,())))),(((d,()),()),(p,(L,())))) vs q a W) :
  (r3 7).wpIn (FW none) n Tryz.prog (fun e a' W'=>e=.normal∧Pt Z0 w0 V3 ((i,(y,(c,(j,())))),(((d,()),()),(jn (.int .i64) i ((vs.length:Nat):Int) p,(L,())))) vs q a' W') a W:=by
 obtain⟨lv,Z,ψ,s⟩:=s;obtain⟨A,cap,TZ⟩:=s.j.o.slice;rw[YF];obtain⟨ajb,VX⟩:∃v,v=a.tmps.getD 4 undef:=⟨_,rfl⟩;have hs:(opsOf (r3 7)).size=5:=by kernel_rfl
 have g0:(opsOf (r3 7))[0]? = some (o3 7 0):=by kernel_rfl
 have g1:(opsOf (r3 7))[1]? = some (o3 7 1):=by kernel_rfl
 have g2:(opsOf (r3 7))[2]? = some (o3 7 2):=by kernel_rfl
 have g3:(opsOf (r3 7))[3]? = some (o3 7 3):=by kernel_rfl
 have g4:(opsOf (r3 7))[4]? = some (o3 7 4):=by kernel_rfl
 have d0:(o3 7 0).dst=some 20:=by kernel_rfl
 have d1:(o3 7 1).dst=some 21:=by kernel_rfl
 have d2:(o3 7 2).dst=some 22:=by kernel_rfl
 have d3:(o3 7 3).dst=some 23:=by kernel_rfl
 have p0:(o3 7 0).op=.move (.tmp 3):=by kernel_rfl
 have p1:(o3 7 1).op=.move (.tmp 5):=by kernel_rfl
 have p2:(o3 7 2).op=.move (.tmp 4):=by kernel_rfl
 have p3:(o3 7 3).op=.call { callee:=.builtin .len,args:=#[.tmp 22],argTypes:=#[243] }:=by kernel_rfl
 have hds:(opsOf (r3 7)).all (fun o=>iG 47 o)=true:=by kernel_rfl
 have ahu:(opsOf (r3 7)).any (fun o=>makes o.op)=false:=by kernel_rfl
 have acO:MI [4] (opsOf (r3 7))=true:=by kernel_rfl
 have fq:wpOps Tryz.prog (opsOf (r3 7)) (fun e a' W'=>e=.normal∧∃eu Z' ψ',cz V3 eu=some ((i,(y,(c,(j,())))),(((d,()),()),(jn (.int .i64) i ((vs.length:Nat):Int) p,(L,()))))∧Ok Z W (Own ψ (ar V3 ((i,(y,(c,(j,())))),(((d,()),()),(p,(L,()))))).heap.get) ψ Z' ψ' eu.heap.get W'∧cK Z' ψ' eu.heap.get W' 47 (look eu.tmps) a') (List.range (opsOf (r3 7)).size) a W:=by
  rw[hs,show List.range 5=[0,1,2,3,4] from rfl];have gE:=s.t.size;refine cP g0 (by kernel_rfl) (kr p0) ?_;rw[d0];obtain⟨a1,E2⟩:∃a1,a1=a.put (some 20) (a.eval (.tmp 3)):=⟨_,rfl⟩;rw[←E2];have YH:a1.tmps.size=47:=by rw[E2,cp];exact gE
  refine cP g1 (by kernel_rfl) (kr p1) ?_;rw[d1];obtain⟨a2,Dy⟩:∃a2,a2=a1.put (some 21) (a1.eval (.tmp 5)):=⟨_,rfl⟩;rw[←Dy];have mT:a2.tmps.size=47:=by rw[Dy,cp];exact YH
  refine cP g2 (by kernel_rfl) (kr p2) ?_;rw[d2];obtain⟨a3,GQ⟩:∃a3,a3=a2.put (some 22) (a2.eval (.tmp 4)):=⟨_,rfl⟩;rw[←GQ];have YI:a3.tmps.size=47:=by rw[GQ,cp];exact mT
  have e22:a3.eval (.tmp 22)=.slice A vs.length cap:=by rw[GQ,dw (by omega),Dy,nE (by decide),E2,nE (by decide),←TZ];exact s.lv
  refine cP g3 (by kernel_rfl) (SC p3 Jl e22) ?_;rw[d3];obtain⟨a4,PA⟩:∃a4,a4=a3.put (some 23) (.int .i64 ((vs.length:Nat):Int)):=⟨_,rfl⟩;rw[←PA];have ahv:a4.tmps.size=47:=by rw[PA,cp];exact YI
  have cQ:∀k,k≠20→k≠21→k≠22→k≠23→a4.tmps.getD k undef=a.tmps.getD k undef:=fun k h0 h1 h2 h3=>by rw[PA,bT _ _ fun j hj=>by cases hj;exact h3,GQ,bT _ _ fun j hj=>by cases hj;exact h2,Dy,bT _ _ fun j hj=>by cases hj;exact h1,E2,bT _ _ fun j hj=>by cases hj;exact h0]
  have e20:a4.tmps.getD 20 undef=a.tmps.getD 3 undef:=by rw[PA,bT _ _ fun j hj=>by cases hj;decide,GQ,bT _ _ fun j hj=>by cases hj;decide,Dy,bT _ _ fun j hj=>by cases hj;decide,E2,ib (by omega),if_pos rfl];rfl
  have e21:a4.tmps.getD 21 undef=a.tmps.getD 5 undef:=by rw[PA,bT _ _ fun j hj=>by cases hj;decide,GQ,bT _ _ fun j hj=>by cases hj;decide,Dy,ib (by omega),if_pos rfl];show a1.tmps.getD 5 undef=_;rw[E2,bT _ _ fun j hj=>by cases hj;decide]
  have e23:a4.tmps.getD 23 undef=.int .i64 ((vs.length:Nat):Int):=by rw[PA,ib (by omega),if_pos rfl]
  have t4:cK Z ψ (st7 c i y j ((vs.length:Nat):Int) d p L).heap.get W 47 (look (st7 c i y j ((vs.length:Nat):Int) d p L).tmps) a4:=by
   refine eL (fun r hr=>?_) ahv (by rw[PA,put_defers,GQ,put_defers,Dy,put_defers,E2,put_defers];exact s.t.defers);have hr:r∈[(20,AV.bC 31000),(21,AV.int .i64 i),(23,AV.int .i64 ((vs.length:Nat):Int)),(5,AV.int .i64 i),(6,AV.int .i64 y),(11,AV.int .i64 c),(12,AV.int .i64 j),(1,AV.ref 20001 0 0 0),(3,AV.bC 31000),(10,AV.bC 31001)]:=hr;simp only[List.mem_cons,List.not_mem_nil,or_false]at hr;rcases hr with rfl|rfl|rfl|rfl|rfl|rfl|rfl|rfl|rfl|rfl
   ·rw[e20];exact s.t.rep 3
   ·rw[e21];exact s.t.rep 5
   ·rw[e23];simp only[au]
   ·rw[cQ 5 (by decide) (by decide) (by decide) (by decide)];exact s.t.rep 5
   ·rw[cQ 6 (by decide) (by decide) (by decide) (by decide)];exact s.t.rep 6
   ·rw[cQ 11 (by decide) (by decide) (by decide) (by decide)];exact s.t.rep 11
   ·rw[cQ 12 (by decide) (by decide) (by decide) (by decide)];exact s.t.rep 12
   ·rw[cQ 1 (by decide) (by decide) (by decide) (by decide)];exact s.t.rep 1
   ·rw[cQ 3 (by decide) (by decide) (by decide) (by decide)];exact s.t.rep 3
   ·rw[cQ 10 (by decide) (by decide) (by decide) (by decide)];exact s.t.rep 10
  refine lJ qh (rid:=7) (n:=47) (b:=#[]) false (fun _ i o ho=>?_) (by rw[hs];decide) (fun i o ho=>adT.1 hds o (adS ho)) (kk:=cz V3) (fun eu Z ψ a w h1 h2 h3=>⟨rfl,eu,Z,ψ,h1,h2,h3⟩) [(4,o3 7 4)] 4 (st7 c i y j ((vs.length:Nat):Int) d p L) Z ψ a4 W ⟨rfl,g4,trivial⟩ (m7 F1 c i y j _ d p L) ⟨Good.start s.g,t4,fun d=>?_,fun i ty cs hb=>?_⟩
  ·have:=Array.any_eq_false'.1 ahu o (adS ho);simpa using this
  ·exact(aD.top _).imp fun id _ h=>by cases h
  ·exact(av.top _).imp fun id _ h=>by cases h
 have h2:=CN none n [] (keep:=[4]) (fun d=>a.tmps.getD d undef) (fun _ _ _ h=>h.1) acO _ a W fq fun _ _=>rfl;rw[dB]at h2;refine wpIn_mono (wpIn_region h2) ?_;rintro e a' W' ⟨h3,a0,h4,h5,h6,eu,Z',ψ',h7,h8,h9⟩;subst h3;subst h4;rw[dB];exact⟨rfl,Lw s h7 h8 h9 (h5 4 (by simp))⟩
theorem Ly{hp:Heap}{id off ty:Nat}{t:TypeId}{cs:List AV}{v:AV}(hb:hp.get id=some (.box ty cs))(fc:dV Tryz.prog t (cs.drop off)=some v):lS Tryz.prog hp t (.ref id 0 0 off) some=some (.val v):=by unfold lS;simp only[hb,if_true,fc]
theorem LA{hp:Heap}{t e:TypeId}{k:K}{xs:List k.T}{y:k.T}{n:Int}{b:Bool}(el:qP Tryz.prog t=some e)(hs:Tryz.prog.cellsOf e=k.sz)(hg:bU xs n=some y):dm Tryz.prog hp t (.sl b k xs) (.int .i64 n) some=some (.val (.fp k y 0)):=by unfold dm;simp only[el,hs,if_true,hg];rfl
theorem Vr{α:Type}{xs:List α}{i:Nat}{y:α}(h:xs[i]? = some y):bU xs (i:Int)=some y:=by unfold bU;rw[if_pos (by omega),Int.toNat_natCast];exact h
structure acP(W:World)(v1:Value)(i:Nat)(pD E8 pE pF Al:Value):Prop where
 f1:(Instr.fieldAt 41 v1 0).run Tryz.prog W=.ok pD W
 l1:(Instr.loadAt 38 pD).run Tryz.prog W=.ok E8 W
 ix:(Instr.indexAt 38 E8 (.int .i64 (i:Int))).run Tryz.prog W=.ok pE W
 f2:(Instr.fieldAt 52 pE 0).run Tryz.prog W=.ok pF W
 l2:(Instr.loadAt 31 pF).run Tryz.prog W=.ok Al W
 sz:Al.cells.size=2
 one:∀u∈Al.cells.toList,u.oneCell'=true
theorem Vt{hp:Heap}{d:ak}{v1:Value}{i:Nat}(g:Good Z ψ hp.get W B0 O)(hb:hp.get 20001=some (.box 41 (enc kZ d)))(hr:au Z ψ hp.get W (.ref 20001 0 0 0) v1)(hi:i<d.1.length):∃pD E8 pE pF Al,acP W v1 i pD E8 pE pF Al:=by
 have fo1:gZ Tryz.prog 41 0=some (0,38):=by kernel_rfl
 have fo2:gZ Tryz.prog 52 0=some (0,31):=by kernel_rfl
 have Xq:Tryz.prog.cellsOf 38≠0:=by
  have:Tryz.prog.cellsOf 38=1:=by kernel_rfl
  omega
 have nN:Tryz.prog.cellsOf 31≠0:=by
  have:Tryz.prog.cellsOf 31=2:=by kernel_rfl
  omega
 obtain⟨pD,e1,r1⟩:=tE (P:=Tryz.prog) (t:=41) (f:=0) fo1 Xq hr;have fc:dV Tryz.prog 38 ((enc kZ d).drop (0+0))=some (.sl false dP d.1):=by kernel_rfl
 obtain⟨x2,E8,q2,e2,r2⟩:=ub (P:=Tryz.prog) (hh:=hp) g (fun _ _ h=>h) (t:=38) (e:=.val (.sl false dP d.1)) r1 (Ly hb fc)
 cases q2
 have hx:d.1[i]? = some d.1[i]:=abv hi;have el:qP Tryz.prog 38=some 52:=by kernel_rfl
 have gE:Tryz.prog.cellsOf 52=dP.sz:=by kernel_rfl
 obtain⟨x3,pE,q3,e3,r3⟩:=qo (P:=Tryz.prog) (hh:=hp) g (fun _ _ h=>h) (t:=38) (i:=.int .i64 (i:Int)) (u:=.int .i64 (i:Int)) (e:=.val (.fp dP d.1[i] 0)) r2 (by simp only[au]) (LA el gE (Vr (i:=i) hx))
 cases q3
 obtain⟨pF,e4,r4⟩:=vg (P:=Tryz.prog) (t:=52) (f:=0) fo2 nN r3;have fc2:dV Tryz.prog 31 ((enc dP d.1[i]).drop (0+0))=some (.agg [.int .i64 d.1[i].1.1,.int .i64 d.1[i].1.2]):=by generalize d.1[i]=v;kernel_rfl
 obtain⟨x5,Al,q5,e5,r5⟩:=ub (P:=Tryz.prog) (hh:=hp) g (fun _ _ h=>h) (t:=31) (e:=.val (.agg [.int .i64 d.1[i].1.1,.int .i64 d.1[i].1.2])) r4 (by unfold lS;simp only[fc2])
 cases q5
 simp only[au,an]at r5;obtain⟨us,rfl,u1,us1,Hd,rfl,u2,us2,rfl,rfl,rfl⟩:=r5;have hc:(Value.agg us).cells=#[.int .i64 d.1[i].1.1,.int .i64 d.1[i].1.2]:=by show us=_;apply Array.ext';rw[Hd]
 refine⟨pD,E8,pE,pF,_,e1,e2,e3,e4,e5,by rw[hc];rfl,fun u hu=>?_⟩;rw[hc]at hu;simp at hu;rcases hu with rfl|rfl<;>rfl
end Go.Vs
namespace Go.Vs
open Go.Proofs
variable {Z Z' Z0:Nat→Prop} {ψ ψ' ψ0:Nat→Value} {h h':Hp} {w w' w0 W W' W1 W2 W3 Wd:World} {B0:Nat} {O N:Nat→Prop}
variable {a:Act} {lv:Value} {vs:List Value} {q:Nat}
theorem Vu:r3 10=.region 10 (opsOf (r3 10)) true:=by kernel_rfl
def Zs:List (List Nat):=[[],[],[],[],[2,3],[4],[],[6],[],[7,8],[9],[10],[11],[5,12],[0,1,13],[13,14]]
noncomputable abbrev iB:Array Oper:=opsOf (r3 10)
theorem GB:iB.size=16:=by kernel_rfl
theorem acQ:iB.toList.zipIdx.all (fun p=>(Zs.getD p.2 []).all fun e=>p.1.after.any fun x=>Region.binds .any x&&x.on==e)=true:=by kernel_rfl
theorem acR:iB.toList.zipIdx.all (fun p=>p.1.after.all fun x=>decide (x.on<p.2))=true:=by kernel_rfl
theorem Vv{L:Array Bool}{i:Nat}(h:i∈Region.ready .any iB L):i<16∧L.getD i true=false∧∀e,e∈Zs.getD i []→L.getD e false=true:=by
 obtain⟨h1,o,ho,h2⟩:=mem_ready.1 h;refine⟨by have:=(abX.1 ho).1;rw[GB]at this;exact this,h1,fun e he=>?_⟩;have hm:(o,i)∈iB.toList.zipIdx:=by rw[List.mem_zipIdx_iff_getElem?];simpa using ho
 have h3:=acH.1 (acH.1 acQ _ hm) e he;obtain⟨n,hn,h4⟩:=Array.any_eq_true.1 h3;obtain⟨x,hxe⟩:∃x,x=o.after[n]:=⟨_,rfl⟩;have hx:x∈o.after:=hxe▸Array.getElem_mem hn;rw[←hxe]at h4;simp only[Bool.and_eq_true,beq_iff_eq]at h4;rw[←h4.2];exact h2 x hx h4.1
theorem SH{L:Array Bool}(h:Region.ready .any iB L=[]):∀n i,i<n→i<16→L.getD i true=true
 |0,i,h1,_=>by omega
 |n+1,i,h1,h2=>by
  have ih:=SH h n
  cases hc:L.getD i true with
  |true=>rfl
  |false =>
   exfalso;have ho:iB[i]? = some iB[i]:=acz (by rw[GB];exact h2);have hr:i∈Region.ready .any iB L:=mem_ready.2 ⟨hc,_,ho,fun e he _=>?_⟩
   ·rw[h]at hr;cases hr
   ·have hm:(iB[i],i)∈iB.toList.zipIdx:=by rw[List.mem_zipIdx_iff_getElem?];simpa using ho
    have h3:=adT.1 (acH.1 acR _ hm) e he;simp only[decide_eq_true_eq]at h3;have h4:=ih e.on (by omega) (by omega);have hi:i<L.size:=by apply Classical.byContradiction;intro k;rw[Array.getD_eq_getD_getElem?,Array.getElem?_eq_none (by omega)]at hc;simp at hc
    rw[Array.getD_eq_getD_getElem?,Array.getElem?_eq_getElem (by omega)]at h4 ⊢;simpa using h4
def MR(Wd W1 W2 W3:World)(L:Array Bool):World:=if L.getD 15 false=true then W3 else if L.getD 13 false=true then W2 else if L.getD 12 false=true then W1 else Wd
structure Iw(a0:Act)(V:List Value)(Wd W1 W2 W3:World)(L:Array Bool)(a:Act)(w:World):Prop where
 n:L.size=16
 cl:∀i e,L.getD i false=true→e∈Zs.getD i []→L.getD e false=true
 v:∀i,i<15→L.getD i false=true→a.tmps.getD (30+i) undef=V.getD i undef
 cQ:∀i,i<30∨45≤i→a.tmps.getD i undef=a0.tmps.getD i undef
 sz:a.tmps.size=47
 df:a.defers=[]
 w:w=MR Wd W1 W2 W3 L
variable {a0:Act} {V:List Value} {L:Array Bool}
theorem gO{L:Array Bool}{i j:Nat}(h:i<L.size):(L.setIfInBounds i true).getD j false=if i=j then true else L.getD j false:=by
 rw[Array.getD_eq_getD_getElem?,Array.getElem?_setIfInBounds];by_cases e:i=j
 ·subst e;simp[h]
 ·simp[e]
theorem Am{i:Nat}{d:Option Tmp}{v:Value}(I:Iw a0 V Wd W1 W2 W3 L a w)(hi:i<16)(hd:∀e,e∈Zs.getD i []→L.getD e false=true)(lf:(i<15∧d=some (30+i)∧v=V.getD i undef)∨(i=15∧d=none))(hw:w'=MR Wd W1 W2 W3 (L.setIfInBounds i true)):Iw a0 V Wd W1 W2 W3 (L.setIfInBounds i true) (a.put d v) w':=by
 have hn:i<L.size:=by rw[I.n];exact hi
 refine⟨by rw[Array.size_setIfInBounds];exact I.n,fun j e hj he=>?_,fun j hj hl=>?_,fun j hj=>?_,by rw[cp];exact I.sz,by rw[put_defers];exact I.df,hw⟩
 ·rw[gO hn]at hj ⊢;by_cases k:i=e
  ·rw[if_pos k]
  ·rw[if_neg k];by_cases k2:i=j
   ·subst k2;exact hd e he
   ·rw[if_neg k2]at hj;exact I.cl j e hj he
 ·rcases lf with⟨h1,rfl,rfl⟩|⟨h1,rfl⟩
  ·rw[ib (by rw[I.sz];omega)];by_cases k:j=i
   ·subst k;rw[if_pos rfl]
   ·rw[if_neg (by omega)];rw[gO hn,if_neg (fun e=>k e.symm)]at hl;exact I.v j hj hl
  ·show a.tmps.getD _ _=_;rw[gO hn,if_neg (by omega)]at hl;exact I.v j hj hl
 ·rcases lf with⟨h1,rfl,rfl⟩|⟨h1,rfl⟩
  ·rw[ib (by rw[I.sz];omega),if_neg (by omega)];exact I.cQ j hj
  ·exact I.cQ j hj
theorem SI{i:Nat}(hn:i<L.size)(h1:i≠12)(h2:i≠13)(h3:i≠15):MR Wd W1 W2 W3 (L.setIfInBounds i true)=MR Wd W1 W2 W3 L:=by unfold MR;rw[gO hn,gO hn,gO hn,if_neg h3,if_neg h2,if_neg h1]
theorem jN{i j:Nat}(I:Iw a0 V Wd W1 W2 W3 L a w)(h:L.getD j false=false)(he:j∈Zs.getD i []):L.getD i false=false:=by
 cases hc:L.getD i false with
 |false=>rfl
 |true=>rw[I.cl i j hc he]at h;cases h
end Go.Vs
namespace Go.Vs
open Go.Proofs
variable {Z Z' Z0:Nat→Prop} {ψ ψ' ψ0:Nat→Value} {h h':Hp} {w w' w0 W W' W1 W2 W3 Wd:World} {B0:Nat} {O N:Nat→Prop}
variable {a:Act} {lv:Value} {vs:List Value} {q:Nat}
theorem Zt(i:Nat)(hi:i<16):iB[i]? = some (o3 10 i):=by
 have:∀i,i<iB.size→iB[i]? = some ((iB[i]?).getD { dst:=none,op:=.move (.tmp 0),type:=0,pos:= "",after:=#[],guard:=none }):=fun i h=>by rw[Array.getElem?_eq_getElem h];rfl
 exact this i (by rw[GB];exact hi)
theorem ahw:iB.toList.all (fun o=>o.guard.isNone)=true:=by kernel_rfl
theorem Ao(i:Nat)(hi:i<16):(o3 10 i).guard=none:=by have:=acH.1 ahw (o3 10 i) (by have:=adS (Zt i hi);exact Array.mem_toList_iff.2 this);simpa using this
theorem ahx:iB.toList.map (·.dst)=[some 30,some 31,some 32,some 33,some 34,some 35,some 36,some 37,some 38,some 39,some 40,some 41,some 42,some 43,some 44,none]:=by kernel_rfl
theorem MS(i:Nat)(hi:i<16):(o3 10 i).dst=if i<15 then some (30+i) else none:=by
 have h1:(iB.toList.map (·.dst))[i]? = some (o3 10 i).dst:=by rw[List.getElem?_map,Array.getElem?_toList,Zt i hi];rfl
 rw[ahx]at h1;have h2:∀i,i<16→([some 30,some 31,some 32,some 33,some 34,some 35,some 36,some 37,some 38,some 39,some 40,some 41,some 42,some 43,some 44,none]:List (Option Tmp))[i]? = some (if i<15 then some (30+i) else none):=by decide
 rw[h2 i hi]at h1;exact(ab5 h1).symm
theorem acS:(o3 10 0).op=.move (.tmp 4):=by kernel_rfl
theorem acT:(o3 10 1).op=.move (.tmp 7):=by kernel_rfl
theorem acU:(o3 10 2).op=.move (.tmp 4):=by kernel_rfl
theorem acV:(o3 10 3).op=.move (.tmp 7):=by kernel_rfl
theorem acW:(o3 10 4).op=.indexAddr 243 (.tmp 32) (.tmp 33):=by kernel_rfl
theorem acX:(o3 10 5).op=.load 28 (.tmp 34):=by kernel_rfl
theorem acY:(o3 10 6).op=.fieldAddr 41 (.tmp 1) 0:=by kernel_rfl
theorem acZ:(o3 10 7).op=.load 38 (.tmp 36):=by kernel_rfl
theorem ac0:(o3 10 8).op=.move (.tmp 5):=by kernel_rfl
theorem ac1:(o3 10 9).op=.indexAddr 38 (.tmp 37) (.tmp 38):=by kernel_rfl
theorem YJ:(o3 10 10).op=.fieldAddr 52 (.tmp 39) 0:=by kernel_rfl
theorem YK:(o3 10 11).op=.load 31 (.tmp 40):=by kernel_rfl
theorem YL:(o3 10 12).op=.buildSlice 28 1 #[(0,.tmp 41)]:=by kernel_rfl
theorem YM:(o3 10 13).op=.call { callee:=.builtin .append,args:=#[.tmp 35,.tmp 42],argTypes:=#[28,28] }:=by kernel_rfl
theorem YN:(o3 10 14).op=.indexAddr 243 (.tmp 30) (.tmp 31):=by kernel_rfl
theorem YO:(o3 10 15).op=.store 28 (.tmp 44) (.tmp 43):=by kernel_rfl
structure Dw(Wd W1 W2 W3:World)(a0:Act)(lv:Value)(k i:Nat)(row:Value)(g:Nat)(pD E8 pE pF Al s1 v':Value):Prop where
 l4:a0.tmps.getD 4 undef=lv
 l7:a0.tmps.getD 7 undef=.int .i64 (k:Int)
 l5:a0.tmps.getD 5 undef=.int .i64 (i:Int)
 ix:∀W' K,(Instr.indexAt 243 lv (.int K (k:Int))).run Tryz.prog W'=.ok (.pointer (some ⟨g,k,none⟩)) W'
 ld:(Instr.loadAt 28 (.pointer (some ⟨g,k,none⟩))).run Tryz.prog Wd=.ok row Wd
 ld1:(Instr.loadAt 28 (.pointer (some ⟨g,k,none⟩))).run Tryz.prog W1=.ok row W1
 rd:acP Wd (a0.tmps.getD 1 undef) i pD E8 pE pF Al
 lit:(Instr.buildSlice 28 1 #[(0,Al)]).run Tryz.prog Wd=.ok s1 W1
 app:(Builtin.append_ #[28,28] (o3 10 13).type #[row,s1]).run Tryz.prog W1=.ok v' W2
 st:(Instr.storeAt 28 (.pointer (some ⟨g,k,none⟩)) v').run Tryz.prog W2=.ok () W3
abbrev zi(lv:Value)(k i:Nat)(row:Value)(g:Nat)(pD E8 pE pF Al s1 v':Value):List Value :=[lv,.int .i64 (k:Int),lv,.int .i64 (k:Int),.pointer (some ⟨g,k,none⟩),row,pD,E8,.int .i64 (i:Int),pE,pF,Al,s1,v',.pointer (some ⟨g,k,none⟩)]
theorem O9{L:Array Bool}{i:Nat}(h:L.getD i true=false):L.getD i false=false:=by
 have hi:i<L.size:=by apply Classical.byContradiction;intro k;rw[Array.getD_eq_getD_getElem?,Array.getElem?_eq_none (by omega)]at h;simp at h
 rw[Array.getD_eq_getD_getElem?,Array.getElem?_eq_getElem hi]at h ⊢;simpa using h
theorem Pb{a0:Act}{k i:Nat}{row:Value}{g:Nat}{pD E8 pE pF Al s1 v':Value}(D:Dw Wd W1 W2 W3 a0 lv k i row g pD E8 pE pF Al s1 v')(Q:Exit→Act→World→Prop) :
  ∀L a w j,Iw a0 (zi lv k i row g pD E8 pE pF Al s1 v') Wd W1 W2 W3 L a w→j∈Region.ready .any iB L→wpOp Tryz.prog iB Q j (fun a' w'=>Iw a0 (zi lv k i row g pD E8 pE pF Al s1 v') Wd W1 W2 W3 (L.setIfInBounds j true) a' w') a w:=by
 intro L a w j I hj;obtain⟨Zu,hj2,YP⟩:=Vv hj;have SJ:=O9 hj2;have hn:j<L.size:=by rw[I.n];exact Zu
 have tmp:∀n,n∈Zs.getD j []→n<15→a.eval (.tmp (30+n))=(zi lv k i row g pD E8 pE pF Al s1 v').getD n undef:=fun n h1 h2=>I.v n h2 (YP n h1);have e4:a.eval (.tmp 4)=lv:=(I.cQ 4 (by omega)).trans D.l4;have e7:a.eval (.tmp 7)=.int .i64 (k:Int):=(I.cQ 7 (by omega)).trans D.l7;have e5:a.eval (.tmp 5)=.int .i64 (i:Int):=(I.cQ 5 (by omega)).trans D.l5;have e1:a.eval (.tmp 1)=a0.tmps.getD 1 undef:=I.cQ 1 (by omega);have still:∀{v:Value},j<15→j≠12→j≠13→v=(zi lv k i row g pD E8 pE pF Al s1 v').getD j undef→(execOp a.eval (o3 10 j)).run Tryz.prog w=.ok (.value v) w→wpOp Tryz.prog iB Q j (fun a' w'=>Iw a0 (zi lv k i row g pD E8 pE pF Al s1 v') Wd W1 W2 W3 (L.setIfInBounds j true) a' w') a w:=fun {v} h1 h2 h3 h4 h5=>by refine wC (Zt j Zu) (Ao j Zu) h5 ?_;rw[MS j Zu,if_pos h1];exact Am I Zu YP (.inl ⟨h1,rfl,h4⟩) (by rw[SI hn h2 h3 (by omega)];exact I.w)
 have f13:L.getD 12 false=false→L.getD 13 false=false:=fun h=>jN I h (by decide);have f14:L.getD 13 false=false→L.getD 14 false=false:=fun h=>jN I h (by decide);have f15:L.getD 13 false=false→L.getD 15 false=false:=fun h=>jN I h (by decide);have early:L.getD 12 false=false→w=Wd:=fun h=>by have h1:=f13 h;have h2:=f15 h1;rw[I.w];unfold MR;rw[h2,h1,h];rfl
 have f12:L.getD 11 false=false→L.getD 12 false=false:=fun h=>jN I h (by decide);have f11:L.getD 10 false=false→L.getD 11 false=false:=fun h=>jN I h (by decide);have f10:L.getD 9 false=false→L.getD 10 false=false:=fun h=>jN I h (by decide);have f97:L.getD 7 false=false→L.getD 9 false=false:=fun h=>jN I h (by decide);have f76:L.getD 6 false=false→L.getD 7 false=false:=fun h=>jN I h (by decide)
 match j,Zu with
 |0,_=>exact still (by omega) (by omega) (by omega) rfl (by have h:=kr (P:=Tryz.prog) (ρC:=a.eval) (w:=w) acS;rw[e4]at h;exact h)
 |1,_=>exact still (by omega) (by omega) (by omega) rfl (by have h:=kr (P:=Tryz.prog) (ρC:=a.eval) (w:=w) acT;rw[e7]at h;exact h)
 |2,_=>exact still (by omega) (by omega) (by omega) rfl (by have h:=kr (P:=Tryz.prog) (ρC:=a.eval) (w:=w) acU;rw[e4]at h;exact h)
 |3,_=>exact still (by omega) (by omega) (by omega) rfl (by have h:=kr (P:=Tryz.prog) (ρC:=a.eval) (w:=w) acV;rw[e7]at h;exact h)
 |4,_ =>have h2:=tmp 2 (by decide) (by omega);have h3:=tmp 3 (by decide) (by omega);exact still (by omega) (by omega) (by omega) rfl (CU acW (by rw[h2,h3];exact D.ix _ _))
 |5,_ =>
  have h4:=tmp 4 (by decide) (by omega);have TD:L.getD 13 false=false:=jN I SJ (by decide);have h15:=f15 TD;have hw:w=Wd∨w=W1:=by
   rw[I.w];unfold MR;rw[h15,TD];by_cases c:L.getD 12 false=true
   ·right;simp[c]
   ·left;simp[c]
  exact still (by omega) (by omega) (by omega) rfl (Ak acX (by
   rw[h4];rcases hw with rfl|rfl
   ·exact D.ld
   ·exact D.ld1))
 |6,_ =>have hw:=early (f12 (f11 (f10 (f97 (f76 SJ)))));exact still (by omega) (by omega) (by omega) rfl (Jk acY (by rw[e1,hw];exact D.rd.f1))
 |7,_ =>have h6:=tmp 6 (by decide) (by omega);have hw:=early (f12 (f11 (f10 (f97 SJ))));exact still (by omega) (by omega) (by omega) rfl (Ak acZ (by rw[h6,hw];exact D.rd.l1))
 |8,_=>exact still (by omega) (by omega) (by omega) rfl (by have h:=kr (P:=Tryz.prog) (ρC:=a.eval) (w:=w) ac0;rw[e5]at h;exact h)
 |9,_ =>have h7:=tmp 7 (by decide) (by omega);have h8:=tmp 8 (by decide) (by omega);have hw:=early (f12 (f11 (f10 SJ)));exact still (by omega) (by omega) (by omega) rfl (CU ac1 (by rw[h7,h8,hw];exact D.rd.ix))
 |10,_ =>have h9:=tmp 9 (by decide) (by omega);have hw:=early (f12 (f11 SJ));exact still (by omega) (by omega) (by omega) rfl (Jk YJ (by rw[h9,hw];exact D.rd.f2))
 |11,_ =>have lY:=tmp 10 (by decide) (by omega);have hw:=early (f12 SJ);exact still (by omega) (by omega) (by omega) rfl (Ak YK (by rw[lY,hw];exact D.rd.l2))
 |12,_ =>have zj:=tmp 11 (by decide) (by omega);have hw:=early SJ;refine wC (Zt 12 (by omega)) (Ao 12 (by omega)) (SA YL (by rw[zj,hw];exact D.lit)) ?_;rw[MS 12 (by omega),if_pos (by omega)];refine Am I (by omega) YP (.inl ⟨by omega,rfl,rfl⟩) ?_;have h1:=f13 SJ;have h2:=f15 h1;unfold MR;simp[gO hn,h1,h2]
 |13,_ =>
  have h5:=tmp 5 (by decide) (by omega);have JG:=tmp 12 (by decide) (by omega);have c12:=YP 12 (by decide);have c15:=f15 SJ;have hw:w=W1:=by rw[I.w];unfold MR;rw[c15,SJ,c12];rfl
  refine wC (Zt 13 (by omega)) (Ao 13 (by omega)) (E6 YM (by rw[h5,JG,hw];exact D.app)) ?_;rw[MS 13 (by omega),if_pos (by omega)];refine Am I (by omega) YP (.inl ⟨by omega,rfl,rfl⟩) ?_;unfold MR;simp[gO hn,c15]
 |14,_ =>have h0:=tmp 0 (by decide) (by omega);have h1:=tmp 1 (by decide) (by omega);exact still (by omega) (by omega) (by omega) rfl (CU YN (by rw[h0,h1];exact D.ix _ _))
 |15,_ =>
  have V6:=tmp 14 (by decide) (by omega);have TD:=tmp 13 (by decide) (by omega);have c13:=YP 13 (by decide);have hw:w=W2:=by rw[I.w];unfold MR;rw[SJ,c13];rfl
  refine Vm (Zt 15 (by omega)) (Ao 15 (by omega)) (SB YO (by rw[V6,TD,hw];exact D.st)) ?_;rw[MS 15 (by omega),if_neg (by omega)];refine Am I (by omega) YP (.inr ⟨rfl,rfl⟩) ?_;unfold MR;simp[gO hn]
 |n+16,hl=>exact absurd hl (by omega)
end Go.Vs
