/- The walk of the function that -/
import Derived.Test.YtoleelddkocpkaaGreatFacesB
import Derived.Great.BuildSlice
set_option linter.unusedSimpArgs false
set_option linter.unusedVariables false
namespace Go.Vs
open Go.Proofs
variable {P:Program} {ops:Array Oper} {Q:Exit→Act→World→Prop} {ρC:Operand→Value} {o:Oper} {w w':World} {v:Value}
theorem lC{x:Operand}(h:o.op=.move x):(execOp ρC o).run P w=.ok (.value (ρC x)) w:=by simp_all [execOp]
theorem vM{x:Operand}(h:o.op=.assign x):(execOp ρC o).run P w=.ok (.value (ρC x)) w:=by simp_all [execOp]
theorem Dh{t:TypeId}{x:Operand}(h:o.op=.load t x)(hr:(Instr.loadAt t (ρC x)).run P w=.ok v w'):(execOp ρC o).run P w=.ok (.value v) w':=by unfold execOp;simp_all
theorem Nd{t:TypeId}{x:Operand}{f:Nat}(h:o.op=.fieldAddr t x f)(hr:(Instr.fieldAt t (ρC x) f).run P w=.ok v w'):(execOp ρC o).run P w=.ok (.value v) w':=by unfold execOp;simp_all
theorem F5{t:TypeId}{x i:Operand}(h:o.op=.indexAddr t x i)(hr:(Instr.indexAt t (ρC x) (ρC i)).run P w=.ok v w'):(execOp ρC o).run P w=.ok (.value v) w':=by unfold execOp;simp_all
theorem XJ{t:TypeId}{x:Operand}(h:o.op=.buildSlice t 1 #[(0,x)])(hr:(Instr.buildSlice t 1 #[(0,ρC x)]).run P w=.ok v w'):(execOp ρC o).run P w=.ok (.value v) w':=by unfold execOp;simp_all
theorem XK{t:TypeId}{a x:Operand}(h:o.op=.store t a x)(hr:(Instr.storeAt t (ρC a) (ρC x)).run P w=.ok () w'):(execOp ρC o).run P w=.ok .skip w':=by unfold execOp;simp_all
theorem IT{t:TypeId}{x y:Operand}(h:o.op=.call { callee:=.builtin .append,args:=#[x,y],argTypes:=#[t,t] })(hr:(Builtin.append_ #[t,t] o.type #[ρC x,ρC y]).run P w=.ok v w'):(execOp ρC o).run P w=.ok (.value v) w':=by simp_all [execOp,Go.resolve,invoke,builtin,Sem.run_bind,Sem.run_pure,Result.andThen_ok,List.map_toArray,List.map_cons,List.map_nil]
theorem XL{t e:TypeId}{x:Operand}{A:Option Addr}{n c:Nat}(h:o.op=.call { callee:=.builtin .len,args:=#[x],argTypes:=#[t] })(hu:P.underlying t=some (.slice e))(hx:ρC x=.slice A n c):(execOp ρC o).run P w=.ok (.value (.int .i64 (n:Int))) w:=by unfold execOp;rw[h];simp[Go.resolve,invoke,builtin,Builtin.len_,run_underlying hu,hx,goInt]
theorem zO{i:Nat}{K:Act→World→Prop}{a:Act}(ho:ops[i]? = some o)(hg:o.guard=none)(hr:(execOp a.eval o).run P w=.ok (.value v) w')(hk:K (a.put o.dst v) w'):wpOp P ops Q i K a w:=by unfold wpOp;simp only[ho,nj hg,if_true];refine .inl ?_;unfold Oper.wp;rw[hr];exact hk
theorem aaq{i:Nat}{K:Act→World→Prop}{a:Act}(ho:ops[i]? = some o)(hg:o.guard=none)(hr:(execOp a.eval o).run P w=.ok .skip w')(hk:K (a.put o.dst undef) w'):wpOp P ops Q i K a w:=by unfold wpOp;simp only[ho,nj hg,if_true];refine .inl ?_;unfold Oper.wp;rw[hr];exact hk
def unl(L:Array Bool):Nat:=L.toList.countP (·==false)
theorem Rd{L:Array Bool}{i:Nat}(h:L.getD i true=false):unl (L.setIfInBounds i true)+1=unl L:=by
 have hi:i<L.size:=by apply Classical.byContradiction;intro k;rw[Array.getD_eq_getD_getElem?,Array.getElem?_eq_none (by omega)]at h;simp at h
 have hv:L.toList[i]? = some false:=by rw[Array.getElem?_toList,Array.getElem?_eq_getElem hi];rw[Array.getD_eq_getD_getElem?,Array.getElem?_eq_getElem hi]at h;simpa using h
 unfold unl;rw[Array.toList_setIfInBounds];have key:∀(l:List Bool) (i:Nat),l[i]? = some false→(l.set i true).countP (·==false)+1=l.countP (·==false):=by
  intro l
  induction l with
  |nil=>intro i h;simp at h
  |cons b r ih =>
   intro i h
   cases i with
   |zero=>simp at h;subst h;simp
   |succ i =>have:=ih i (by simpa using h);rw[List.set_cons_succ,List.countP_cons,List.countP_cons];omega
 exact key _ _ hv
theorem Re{md:Region.Mode}(I:Array Bool→Act→World→Prop)(step:∀L a w i,I L a w→i∈Region.ready md ops L→wpOp P ops Q i (fun a' w'=>I (L.setIfInBounds i true) a' w') a w) (done:∀L a w,I L a w→Region.ready md ops L=[]→Q .normal a w):∀(n:Nat) (L:Array Bool) (a:Act) (w:World),unl L≤n→I L a w→wpAny P md ops Q n L a w
 |0,L,a,w,hn,hI=>by
  have hr:Region.ready md ops L=[]:=by
   cases h:Region.ready md ops L with
   |nil=>rfl
   |cons i r =>
    have hm:i∈Region.ready md ops L:=by rw[h];simp
    grind [Rd,mem_ready]
  exact⟨hr,done L a w hI hr⟩
 |n+1,L,a,w,hn,hI=>by refine⟨fun hr=>done L a w hI hr,fun i hi=>?_⟩;have h1:=Rd (mem_ready.1 hi).1;exact wpOp_mono (fun a' w' hI'=>Re I step done n _ a' w' (by omega) hI') (step L a w i hI hi)
end Go.Vs
namespace Go.Vs
open Go.Proofs
variable {Z Z' Z0:Nat→Prop} {ψ ψ' ψ0:Nat→Value} {h h':Hp} {w w' w0 W W':World} {B0:Nat} {O N:Nat→Prop}
noncomputable abbrev r3(i:Nat):Code:=rg Tryz.f225 i
noncomputable abbrev cB3:Code:=.seq (r3 5) (.seq (.seq (r3 6) (.cond (.tmp 19) (.seq (r3 7) (r3 8)) .skip)) (.seq (r3 9) (r3 10)))
noncomputable abbrev cL3:Code:=.seq (r3 4) (.seq (.cond (.tmp 13) .skip (.exit 0)) (.seq (.block 1 cB3) (r3 11)))
theorem aar:Tryz.f225.body=some (.seq (r3 0) (.seq (r3 1) (.seq (r3 2) (.seq (.seq (r3 3) (.block 0 (.loop cL3))) (.seq (r3 12) .ret))))):=by kernel_rfl
abbrev Pm:=List (Int×Int)
abbrev rw3:List (Nat×Nat×OK):=[(3,31000,.map iT iT),(10,31001,.row 3 iT)]
abbrev VE:Shape:=⟨[(11,iT),(12,iT)],[(.slot 1,20001,PA)],[(3,31000,.map iT iT),(10,31001,.row 3 iT),(4,31002,.row 163 (.sl fQ))],[]⟩
abbrev V0:Shape:=⟨[(11,iT),(12,iT)],[(.slot 1,20001,PA)],rw3,[]⟩
abbrev V1:Shape:=⟨[(13,.bool),(11,iT),(12,iT)],[(.slot 1,20001,PA)],rw3,[]⟩
abbrev V2:Shape:=⟨[(19,.bool),(5,iT),(6,iT),(11,iT),(12,iT)],[(.slot 1,20001,PA)],rw3,[]⟩
abbrev V3:Shape:=⟨[(5,iT),(6,iT),(11,iT),(12,iT)],[(.slot 1,20001,PA)],rw3,[]⟩
abbrev V4:Shape:=⟨[(7,iT),(5,iT),(11,iT),(12,iT)],[(.slot 1,20001,PA)],rw3,[]⟩
theorem anL(F:FT)(d:ar):(rn F 47 [] (r3 0) { tmps:=[(0,cp dX d)],heap:=[] } fun st=>rn F 47 [] (r3 1) st fun st=>rn F 47 [] (r3 2) st fun st=>rn F 47 [] (r3 3) st (db VE)) =(F 236 jn ((d,()),())).bind fun(y:(((List Int)×Unit)×Unit))=>some (((((List.length y.1.1):Nat):Int),((0:Int),())),(((d,()),()),(([]:Pm),(y.1.1,(([]:List (List ID)),()))))):=by kernel_rfl
theorem m4(F:FT)(n i:Int)(x:_):rn F 47 [4] (r3 4) (aA V0 (((n,((i,()):Int×Unit)):Int×(Int×Unit)),x)) (db V1)=some ((decide (i<n),(n,(i,()))),x):=by kernel_rfl
theorem m5(F:FT)(b:Bool)(n i:Int)(d:ar)(p:Pm)(L:List Int):(rn F 47 [4] (r3 5) (aA V1 ((b,(n,(i,()))),(((d,()),()),(p,(L,()))))) fun st=>rn F 47 [4] (r3 6) st (db V2)) = cond (decide ((0:Int)≤i)&&decide (i<((L.length:Nat):Int))) ((L[Int.toNat i]?).bind fun(y:Int)=>some ((y==i,(i,(y,(n,(i,()))))),(((d,()),()),(p,(L,()))))) none:=by kernel_rfl
theorem m9(F:FT)(n i y j:Int)(d:ar)(p:Pm)(L:List Int):rn F 47 [4] (r3 9) (aA V3 ((i,(y,(n,(j,())))),(((d,()),()),(p,(L,()))))) (db V4)=some ((((fG (.int .i64) y p).getD (0:Int)),(i,(n,(j,())))),(((d,()),()),(p,(L,())))):=by kernel_rfl
theorem m11(F:FT)(n i:Int)(x:_):rn F 47 [4] (r3 11) (aA V0 (((n,((i,()):Int×Unit)):Int×(Int×Unit)),x)) (db V0)=some ((n,(IntKind.wrap .i64 (i+1),())),x):=by kernel_rfl
abbrev st7(n i y j m:Int)(d:ar)(p:Pm)(L:List Int):St:={ tmps:=[(20,.bO 31000),(21,.int .i64 i),(23,.int .i64 m)]++(aA V3 ((i,(y,(n,(j,())))),(((d,()),()),(p,(L,()))))).tmps,heap:=(aA V3 ((i,(y,(n,(j,())))),(((d,()),()),(p,(L,()))))).heap }
noncomputable def o3(r i:Nat):Oper:=((opsOf (r3 r))[i]?).getD { dst:=none,op:=.move (.tmp 0),type:=0,pos:= "",after:=#[],guard:=none }
theorem m7(F:FT)(n i y j m:Int)(d:ar)(p:Pm)(L:List Int):bJ Tryz.prog Eqs SgF F 7 false (opsOf (r3 7)) #[] [(4,o3 7 4)] (st7 n i y j m d p L) (db V3)=some ((i,(y,(n,(j,())))),(((d,()),()),(j4 (.int .i64) i m p,(L,())))):=by kernel_rfl
structure Jr(W:World)(lv:Value)(vs:List Value)(q:Nat):Prop where
 o:eE W 163 1 lv vs.length vs
 i:∀v∈vs,∃n cs,eE W 35 2 v n cs∧n≤q
 d:∀(j k:Nat) v u b,vs[j]? = some v→vs[k]? = some u→ob v=some b→ob u=some b→j=k
 a:∀v∈vs,∀b,ob v=some b→ob lv≠some b
def Xj(lv:Value)(vs:List Value)(b:Nat):Prop:=ob lv=some b∨∃v∈vs,ob v=some b
theorem Jr.kept{lv:Value}{vs:List Value}{q:Nat}(j:Jr W lv vs q)(hs:∀b,Xj lv vs b→W'.heap[b]? = W.heap[b]?):Jr W' lv vs q :=⟨j.o.kept fun g hg=>hs g (.inl hg),fun v hv=>by obtain⟨n,cs,h1,h2⟩:=j.i v hv;exact⟨n,cs,h1.kept fun g hg=>hs g (.inr ⟨v,hv,hg⟩),h2⟩,j.d,j.a⟩
theorem Jr.up{lv:Value}{vs:List Value}{q q':Nat}(j:Jr W lv vs q)(h:q≤q'):Jr W lv vs q' :=⟨j.o,fun v hv=>by obtain⟨n,cs,h1,h2⟩:=j.i v hv;grind,j.d,j.a⟩
theorem eE.lt{e size n:Nat}{v:Value}{vs:List Value}(h:eE W e size v n vs){b:Nat}(hb:ob v=some b):b<W.heap.size:=by
 rcases h.2 with⟨h0,A,rfl⟩|⟨g,cap,cur,rfl,hc,hh,_⟩
 ·cases A<;>simp[ob]at hb
 ·simp only[ob]at hb
  grind
theorem Jr.lt{lv:Value}{vs:List Value}{q:Nat}(j:Jr W lv vs q){b:Nat}(hb:Xj lv vs b):b<W.heap.size:=by
 rcases hb with hb|⟨v,hv,hb⟩
 ·exact j.o.lt hb
 ·obtain⟨n,cs,h1,_⟩:=j.i v hv;exact h1.lt hb
end Go.Vs
namespace Go.Vs
open Go.Proofs
variable {Z Z' Z0:Nat→Prop} {ψ ψ' ψ0:Nat→Value} {h h':Hp} {w w' w0 W W' W1 W2:World} {B0:Nat} {O N:Nat→Prop}
structure Gw(L:Nat→Prop)(W W':World):Prop where
 os:W'.os=W.os
 tape:W'.tape=W.tape
 output:W'.output=W.output
 size:W.heap.size≤W'.heap.size
 block:∀b,b<W.heap.size→¬L b→W'.heap[b]? = W.heap[b]?
theorem Gw.refl{L:Nat→Prop}(W:World):Gw L W W:=⟨rfl,rfl,rfl,abX _,fun _ _ _=>rfl⟩
theorem Gw.trans{L:Nat→Prop}(s:Gw L W W1)(t:Gw L W1 W2):Gw L W W2 :=⟨t.os.trans s.os,t.tape.trans s.tape,t.output.trans s.output,acR s.size t.size,fun b h1 h2=>(t.block b (adf h1 s.size) h2).trans (s.block b h1 h2)⟩
theorem Gw.less{L L':Nat→Prop}(s:Gw L W W1)(h:∀b,b<W.heap.size→L b→L' b):Gw L' W W1:=⟨s.os,s.tape,s.output,s.size,fun b h1 h2=>s.block b h1 fun k=>h2 (h b h1 k)⟩
theorem Gw.alloc{L:Nat→Prop}(W:World)(o:Obj):Gw L W (W.alloc o):=⟨rfl,rfl,rfl,by simp_all,fun b hb _=>heap_alloc_old W _ hb⟩
theorem Gw.grown{row:Option Nat}(h:W.grownBy W1 row):Gw (fun b=>row=some b) W W1:=⟨h.os,h.tape,h.output,h.size,fun b hb hn=>h.block b hb fun e=>hn e.symm⟩
theorem Gw.set(W:World)(g:Nat)(arr:Array Value){cur:Array Value}{ty:TypeId}(hg:W.heap[g]? = some (.cells cur ty (0,0))):Gw (·=g) W (W.setRow g arr):=by have k:=dg.setRow (ψ:=fun _=>.slice (some ⟨g,0,none⟩) 1 1) (h:=fun _=>some (.box 0 [])) (w:=W) (gg:=g) ⟨0,by simp,by simp[ob]⟩ arr;exact⟨k.os,k.tape,k.output,k.size,fun b _ hb=>setRow_other _ (fun e=>hb e.symm)⟩
theorem Gw.drawn{L:Nat→Prop}(W:World):Gw L W { W with drawn:=W.drawn+1 }:=⟨rfl,rfl,rfl,abX _,fun _ _ _=>rfl⟩
theorem TI(W:World)(o:Obj):(W.alloc o).heap[W.heap.size]? = some o:=by show(W.heap.push o)[W.heap.size]? = _;simp
abbrev F6:Value:=.slice none 0 0
theorem Rf:∃i z,pI Tryz.prog 163 (.sl fQ) i z:=cx (by kernel_rfl)
theorem aih:∃i z,pI Tryz.prog 35 fQ i z:=cx (by kernel_rfl)
theorem Ng:Tryz.prog.underlying 235=some (.slice 163):=by kernel_rfl
theorem abZ:Tryz.prog.underlying 163=some (.slice 35):=by kernel_rfl
theorem XM(x a:Value)(cs:Array Value)(hc:x.cells=#[a])(hz:cs.size=1):Instr.fill (fun i=>some (i*1,1)) cs [(0,x)]=some #[a]:=by
 obtain⟨l⟩:=cs
 match l,hz with
 |[z],_=>simp[Instr.fill,hc]
theorem XN(x a b:Value)(cs:Array Value)(hc:x.cells=#[a,b])(hz:cs.size=2):Instr.fill (fun i=>some (i*2,2)) cs [(0,x)]=some #[a,b]:=by
 obtain⟨l⟩:=cs
 match l,hz with
 |[z,y],_=>simp[Instr.fill,hc]
theorem Nh(W:World){t e:TypeId}{k:K}{i:TypeInfo}{z:Value}(ht:Tryz.prog.underlying t=some (.slice e))(he:pI Tryz.prog e k i z)(x:Value)(hx:x.cells.size=k.sz)(hs:k.sz=1∨k.sz=2) :
  (Instr.buildSlice t 1 #[(0,x)]).run Tryz.prog W=.ok (.slice (some ⟨W.heap.size,0,none⟩) 1 1) (W.alloc (.cells x.cells e)):=by
 refine run_buildSlice W t e 1 _ x.cells i z ht he.info he.zero (by rw[he.size];omega) (by rw[he.size];omega) ?_;have hz:((Array.range (1*i.size)).map (z.cells[· % z.cells.size]!)).size=k.sz:=by rw[he.size];simp
 generalize (Array.range (1*i.size)).map (z.cells[· % z.cells.size]!)=zs at hz;rw[he.size];obtain⟨cs,N2⟩:∃cs,cs=x.cells:=⟨_,rfl⟩;rw[←N2]at hx;obtain⟨l⟩:=cs;rcases hs with hs|hs
 ·rw[hs]at hx hz ⊢
  match l,hx with
  |[a],_=>grind [XM]
 ·rw[hs]at hx hz ⊢
  match l,hx with
  |[a,b],_=>grind [XN]
theorem aii(W:World){k:K}{e:TypeId}{x:Value}(hx:x.cells.size=k.sz)(h1:∀q∈x.cells.toList,q.oneCell'=true):Y8 (W.alloc (.cells x.cells e)) k.sz (.slice (some ⟨W.heap.size,0,none⟩) 1 1) 1 x.cells.toList:=by refine⟨by simpa using hx,h1,.inr ⟨_,_,rfl,fun j q hj=>?_⟩⟩;rw[cF,Nat.zero_add];simp_all
theorem eE.sub{e size n:Nat}{v:Value}{vs:List Value}(h:eE W e size v n vs){L:Nat→Prop}(s:Gw L W W1)(hl:∀b,ob v=some b→¬L b):eE W1 e size v n vs:=h.kept fun g hg=>s.block g (h.lt hg) (hl g hg)
theorem Jr.sub{lv:Value}{vs:List Value}{q:Nat}(j:Jr W lv vs q){L:Nat→Prop}(s:Gw L W W1)(hl:∀b,Xj lv vs b→¬L b):Jr W1 lv vs q:=j.kept fun b hb=>s.block b (j.lt hb) (hl b hb)
theorem adW{lv:Value}{vs:List Value}{q:Nat}(j:Jr W lv vs q)(hq:vs.length+1≤fH)(ty:TypeId) :
  ∃PC W2,(Builtin.append_ #[235,235] ty #[lv,.slice (some ⟨W.heap.size,0,none⟩) 1 1]).run Tryz.prog (W.alloc (.cells #[F6] 163))=.ok PC W2∧Jr W2 PC (vs++[F6]) q∧Gw (Xj lv vs) W W2∧∀b,Xj PC (vs++[F6]) b→Xj lv vs b∨W.heap.size≤b:=by
 obtain⟨i,z,he⟩:=Rf;have g1:Gw (Xj lv vs) W (W.alloc (.cells #[F6] 163)):=Gw.alloc _ _;have j1:Jr (W.alloc (.cells #[F6] 163)) lv vs q:=j.sub (L:=fun _=>False) (Gw.alloc _ _) fun _ _ h=>h;obtain⟨PC,W2,dC,h4,h5,h6⟩:=eJ (P:=Tryz.prog) (ty:=ty) Ng he j1.o (aii W (k:=.sl fQ) (x:=F6) rfl (by intro q hq;simp[Value.cells]at hq;subst hq;rfl)) hq;have g2:=Gw.grown h5;have pT:∀b,ob PC=some b→ob lv=some b∨W.heap.size≤b:=fun b hb=>by
  grind [World.size_alloc]
 refine⟨PC,W2,dC,⟨?_,?_,?_,?_⟩,g1.trans (g2.less fun b _ h=>.inl h),?_⟩
 ·rw[List.length_append];exact h4
 ·intro v hv;rcases abY.1 hv with hv|hv
  ·obtain⟨n,cs,k1,k2⟩:=j1.i v hv;exact⟨n,cs,k1.sub g2 fun b hb e=>j.a v hv b hb e,k2⟩
  ·rw[List.mem_singleton]at hv;subst hv;exact⟨0,[],⟨rfl,.inl ⟨rfl,none,rfl⟩⟩,ac6 _⟩
 ·intro a k v u b h1 h2 h3 h4;have key:∀{a:Nat} {v:Value},(vs++[F6])[a]? = some v→ob v=some b→vs[a]? = some v:=fun {a v} h1 h2=>by
   by_cases ha:a<vs.length
   ·grind
   ·rw[List.getElem?_append_right (by omega)]at h1;have:v=F6:=by
     grind
    grind [ob]
  exact j.d a k v u b (key h1 h3) (key h2 h4) h3 h4
 ·intro v hv b hb;rcases abY.1 hv with hv|hv
  ·intro e;rcases pT b e with e|e
   ·exact j.a v hv b hb e
   ·have:=j.lt (b:=b) (.inr ⟨v,hv,hb⟩);omega
  grind [List.mem_singleton,ob]
 ·rintro b (hb|⟨v,hv,hb⟩)
  ·exact(pT b hb).imp .inl fun h=>h
  ·rcases abY.1 hv with hv|hv
   ·exact .inl (.inr ⟨v,hv,hb⟩)
   grind [List.mem_singleton,ob]
structure At(W:World)(lv:Value)(vs:List Value)(k:Nat)(v:Value)(g:Nat):Prop where
 ix:∀W' K,(Instr.indexAt 235 lv (.int K (k:Int))).run Tryz.prog W'=.ok (.pointer (some ⟨g,k,none⟩)) W'
 b:ob lv=some g
 ld:∀W',W'.heap[g]? = W.heap[g]?→(Instr.loadAt 163 (.pointer (some ⟨g,k,none⟩))).run Tryz.prog W'=.ok v W'
theorem aij{lv:Value}{vs:List Value}{q k:Nat}{v:Value}(j:Jr W lv vs q)(hk:vs[k]? = some v):∃g,At W lv vs k v g:=by
 have aG:=(abp.1 hk).1;obtain⟨i,z,he⟩:=Rf;have hc:Tryz.prog.cellsOf 163=1:=by kernel_rfl
 rcases j.o.2 with⟨h0,_⟩|⟨g,cap,cur,rfl,hc0,hh,hle,aik,iY,mi⟩
 ·omega
 refine⟨g,fun W' K=>?_,?_,fun W' hW=>?_⟩
 ·have:=pK (P:=Tryz.prog) (w:=W') Ng he.info ⟨g,0,none⟩ vs.length cap K (k:Int) (by omega) (by omega);rw[this,hc,cF,Int.toNat_natCast,Nat.mul_one,Nat.zero_add]
 ·simp only[ob];grind
 ·have aaZ:cur.toList[k]? = some v:=by
   grind
  have hb:Hq Tryz.prog 163=some false:=by kernel_rfl
  simp_all [World.cell?,Instr.loadAt,Instr.sureAddr,loadVar,iw]
theorem adX{lv:Value}{vs:List Value}{q k:Nat}{v x:Value}(j:Jr W lv vs q)(hk:vs[k]? = some v)(hq:q+1≤fH)(hx:x.cells.size=2)(h1:∀u∈x.cells.toList,u.oneCell'=true)(ty:TypeId) :
  ∃v' W2,(Builtin.append_ #[163,163] ty #[v,.slice (some ⟨W.heap.size,0,none⟩) 1 1]).run Tryz.prog (W.alloc (.cells x.cells 35))=.ok v' W2∧(∃n cs,eE W2 35 2 v' n cs∧n≤q+1)∧Gw (fun b=>ob v=some b) W W2∧∀b,ob v'=some b→ob v=some b∨W.heap.size≤b:=by
 obtain⟨i,z,he⟩:=aih;have hv:=abC hk;obtain⟨n,cs,k1,k2⟩:=j.i v hv;have g1:Gw (fun b=>ob v=some b) W (W.alloc (.cells x.cells 35)):=Gw.alloc _ _;have k3:eE (W.alloc (.cells x.cells 35)) 35 2 v n cs:=k1.sub (L:=fun _=>False) (Gw.alloc _ _) fun _ _ h=>h;obtain⟨v',W2,dC,h4,h5,h6⟩:=eJ (P:=Tryz.prog) (k:=fQ) (ty:=ty) abZ he k3 (aii W (k:=fQ) (x:=x) hx h1) (by omega);refine⟨v',W2,dC,⟨n+1,_,h4,by omega⟩,g1.trans (Gw.grown h5),fun b hb=>?_⟩
 grind [World.size_alloc]
theorem adY{lv:Value}{vs:List Value}{q k:Nat}{v v':Value}{g:Nat}(j:Jr W lv vs q)(hk:vs[k]? = some v)(Cx:At W lv vs k v g)(gw:Gw (fun b=>ob v=some b) W W2)(CR:∃n cs,eE W2 35 2 v' n cs∧n≤q+1)(pT:∀b,ob v'=some b→ob v=some b∨W.heap.size≤b) :
  ∃W3,(Instr.storeAt 163 (.pointer (some ⟨g,k,none⟩)) v').run Tryz.prog W2=.ok () W3∧Jr W3 lv (vs.set k v') (q+1)∧Gw (Xj lv vs) W W3∧∀b,Xj lv (vs.set k v') b→Xj lv vs b∨W.heap.size≤b:=by
 have hv:=abC hk;have aG:=(abp.1 hk).1;obtain⟨n',cs',mC,RS⟩:=CR;obtain⟨i,z,he⟩:=Rf;have hc:Tryz.prog.cellsOf 163=1:=by kernel_rfl
 have hag:=j.a v hv;have MK:∀b,ob v=some b→b≠g:=fun b hb e=>hag b hb (by rw[e];exact Cx.b);rcases j.o.2 with⟨h0,_⟩|⟨g',cap,cur,e,hc0,hh,hle,aik,iY,mi⟩
 ·omega
 have RR:g'=g:=by have:=Cx.b;rw[e]at this;simp only[ob]at this;simp_all
 subst RR;have hgl:g'<W.heap.size:=j.o.lt Cx.b;have hh2:W2.heap[g']? = some (.cells cur 163 (0,0)):=(gw.block g' hgl fun e=>MK g' e rfl).trans hh;obtain⟨hc1,rp⟩:=mC.one;have BH:=ml (P:=Tryz.prog) (w:=W2) (t:=163) he.info g' k v' cur 163 hh2 (by simp_all) (by grind) (by simp_all);refine⟨_,BH,?_⟩;rw[hc1];generalize hW3:W2.setRow g' _=W3;have g3:Gw (·=g') W2 W3:=by grind [Gw.set]
 have qf:W3.heap[g']? = some (.cells (cur.toList.take k++#[v'].toList++cur.toList.drop (k+1)).toArray 163 (0,0)):=by
  grind [setRow_heap]
 have ail:(cur.toList.take k++#[v'].toList++cur.toList.drop (k+1))=cur.toList.set k v':=by
  have T9:k<cur.toList.length:=by simp;omega
  rw[List.set_eq_take_append_cons_drop,if_pos T9];simp
 rw[ail]at qf;have anM:Gw (Xj lv vs) W W3:=(gw.less fun b _ hb=>.inr ⟨v,hv,hb⟩).trans (g3.less fun b _ hb=>.inl (by rw[hb];exact Cx.b));have aim:∀b,b<W.heap.size→ob v≠some b→b≠g'→W3.heap[b]? = W.heap[b]? := fun b h1 h2 h3=>(g3.block b (adf h1 gw.size) h3).trans (gw.block b h1 h2);have aff:∀b,ob v'=some b→b≠g':=fun b hb e=>by
  grind
 have at_:∀{a:Nat} {u:Value},(vs.set k v')[a]? = some u→(a=k∧u=v')∨(a≠k∧vs[a]? = some u):=fun {a u} h=>by
  grind
 have key:∀{a:Nat} {u:Value} {b:Nat},a≠k→vs[a]? = some u→ob u=some b→ob v≠some b:=fun {a u b} ha h1 h2 h3=>ha (j.d a k u v b h1 hk h2 h3);refine⟨⟨?_,?_,?_,?_⟩,anM,?_⟩
 ·refine⟨by simp,.inr ⟨g',cap,_,by simp_all,hc0,qf,by simp_all,aik,?_,?_⟩⟩
  ·simp[iY]
  ·rw[List.toList_toArray,List.length_set,List.take_set,mi]
 ·intro u hu;obtain⟨a,ha⟩:=aeA.1 hu;rcases at_ ha with⟨_,rfl⟩|⟨h1,h2⟩
  ·exact⟨n',cs',mC.sub g3 fun b hb=>aff b hb,RS⟩
  ·obtain⟨m,ds,k1,k2⟩:=j.i u (abC h2);exact⟨m,ds,k1.kept fun b hb=>aim b (k1.lt hb) (key h1 h2 hb) fun e=>j.a u (abC h2) b hb (by rw[e];exact Cx.b),by omega⟩
 ·intro a c u y b h1 h2 h3 h4;rcases at_ h1 with⟨rfl,rfl⟩|⟨ha,h5⟩<;>rcases at_ h2 with⟨rfl,rfl⟩|⟨hc',h6⟩
  ·rfl
  ·rcases pT b h3 with h|h
   ·grind
   ·have:=j.lt (b:=b) (.inr ⟨y,abC h6,h4⟩);omega
  ·rcases pT b h4 with h|h
   ·grind
   ·have:=j.lt (b:=b) (.inr ⟨u,abC h5,h3⟩);omega
  ·exact j.d a c u y b h5 h6 h3 h4
 ·intro u hu b hb;obtain⟨a,ha⟩:=aeA.1 hu;rcases at_ ha with⟨_,rfl⟩|⟨h1,h2⟩
  ·rw[Cx.b];grind
  ·exact j.a u (abC h2) b hb
 ·rintro b (hb|⟨u,hu,hb⟩)
  ·exact .inl (.inl hb)
  ·obtain⟨a,ha⟩:=aeA.1 hu;rcases at_ ha with⟨_,rfl⟩|⟨h1,h2⟩
   ·exact(pT b hb).imp (fun h=>.inr ⟨v,hv,h⟩) fun h=>h
   ·exact .inl (.inr ⟨u,abC h2,hb⟩)
structure PtX(Z0:Nat→Prop)(w0:World)(sh:Shape)(x:sh.T)(lv:Value)(vs:List Value)(q:Nat)(a:Act)(W:World)(Z:Nat→Prop)(ψ:Nat→Value):Prop where
 wk:Wk Z0 w0 Gy Z W
 g:Good Z ψ (aA sh x).heap.get W w0.heap.size Gy
 t:dm Z ψ (aA sh x).heap.get W 47 (look (aA sh x).tmps) a
 j:Jr W lv vs q
 fr:iX (Xj lv vs) Z (Own ψ (aA sh x).heap.get) W
 x0:∀b,Xj lv vs b→w0.heap.size≤b
 lv:a.tmps.getD 4 undef=lv
def Pt(Z0:Nat→Prop)(w0:World)(sh:Shape)(x:sh.T)(vs:List Value)(q:Nat)(a:Act)(W:World):Prop:=∃lv Z ψ,PtX Z0 w0 sh x lv vs q a W Z ψ
variable {sh sh':Shape} {x:sh.T} {x':sh'.T} {a:Act} {lv:Value} {vs:List Value} {q:Nat}
theorem PD{st:St}{a1:Act}(s:PtX Z0 w0 sh x lv vs q a W Z ψ)(BH:db sh' st=some x'){ψ':Nat→Value}{Z':Nat→Prop}(ok:Ok Z W (Own ψ (aA sh x).heap.get) ψ Z' ψ' st.heap.get W')(t:dm Z' ψ' st.heap.get W' 47 (look st.tmps) a1)(hk:a1.tmps.getD 4 undef=a.tmps.getD 4 undef):Pt Z0 w0 sh' x' vs q a1 W':=by obtain⟨Z2,fg,Co,t2⟩:=iB BH ok t;obtain⟨f1,f2⟩:=(Co.tr (L:=Gy)).free s.fr fun _ _ h=>h;exact⟨lv,Z2,fg,s.wk.step (Co.tr (L:=Gy)) s.g.from (fun _ h=>h.elim),Co.Py s.g s.wk.size,t2,s.j.kept f2,f1,s.x0,hk.trans s.lv⟩
theorem PE{c:Code}(hx:rn F1 47 [4] c (aA sh x) (db sh')=some x')(n:Nat)(s:Pt Z0 w0 sh x vs q a W):c.wpIn (FW none) n Tryz.prog (fun e a' W'=>e=.normal∧Pt Z0 w0 sh' x' vs q a' W') a W:=by obtain⟨lv,Z,ψ,s⟩:=s;have:=eR sB hx none n [] (Good.start s.g) s.t;rw[eF]at this;refine wpIn_mono this ?_;rintro e a1 W1 ⟨rfl,a2,rfl,k,st,Z1,pV,BH,ok,t⟩;rw[eF];exact⟨rfl,PD s BH ok t (k 4 (by simp))⟩
theorem aas{c c':Code}(hx:(rn F1 47 [4] c (aA sh x) fun st=>rn F1 47 [4] c' st (db sh'))=some x')(n:Nat)(s:Pt Z0 w0 sh x vs q a W) :
  c.wpIn (FW none) n Tryz.prog (fun e a' W'=>e=.normal∧c'.wpIn (FW none) n Tryz.prog (fun e a' W'=>e=.normal∧Pt Z0 w0 sh' x' vs q a' W') a' W') a W:=by
 obtain⟨lv,Z,ψ,s⟩:=s;have:=eR sB hx none n [] (Good.start s.g) s.t;rw[eF]at this;refine wpIn_mono this ?_;rintro e a1 W1 ⟨rfl,a2,rfl,k,st,Z1,pV,BH,ok,t⟩;rw[eF];refine⟨rfl,?_⟩;have:=eR sB BH none n [] ok t;rw[eF]at this;refine wpIn_mono this ?_;rintro e a3 W3 ⟨rfl,a4,rfl,k3,st3,Z3,UK,adU,ok3,t3⟩;rw[eF];exact⟨rfl,PD s adU ok3 t3 ((k3 4 (by simp)).trans (k 4 (by simp)))⟩
theorem Rg{y:sh'.T}(s:Pt Z0 w0 sh x vs q a W)(hh:(aA sh' y).heap=(aA sh x).heap)(ht:∀p∈(aA sh' y).tmps,look (aA sh x).tmps p.1=p.2):Pt Z0 w0 sh' y vs q a W:=by
 obtain⟨lv,Z,ψ,s⟩:=s;refine⟨lv,Z,ψ,s.wk,?_,?_,s.j,?_,s.x0,s.lv⟩
 ·rw[hh];exact s.g
 ·rw[hh];exact fK (fun p hp=>by have:=s.t.rep p.1;grind) s.t.size s.t.defers
 ·rw[hh];exact s.fr
theorem Rh{a1:Act}{PC:Value}{jt:List Value}{q':Nat}(s:PtX Z0 w0 sh x lv vs q a W Z ψ)(gw:Gw (Xj lv vs) W W')(j:Jr W' PC jt q')(hx:∀b,Xj PC jt b→Xj lv vs b∨W.heap.size≤b)(T8:a1.tmps.getD 4 undef=PC)(iY:a1.tmps.size=47)(hdf:a1.defers=[])(ht:∀p∈(aA sh x).tmps,a1.tmps.getD p.1 undef=a.tmps.getD p.1 undef)(v5:∀p∈(aA sh x).tmps,look (aA sh x).tmps p.1=p.2):PtX Z0 w0 sh x PC jt q' a1 W' Z ψ:=by
 have hs:∀b,Z b∨Own ψ (aA sh x).heap.get b→W'.heap[b]? = W.heap[b]? := fun b hb=>by have aG:b<W.heap.size:=hb.elim (s.g.kO b) fun h=>s.g.bT h;refine gw.block b aG fun hX=>?_;have:=s.fr b hX;simp_all
 have zl:∀b,Z b→b<W'.heap.size:=fun b hb=>adf (s.g.kO b hb) gw.size;refine⟨s.wk.step (L:=Xj lv vs) (A:=fun _=>False) (B:=fun _=>False) (Tr.cZ gw.os gw.tape gw.output gw.size gw.block) (fun _ h=>h.elim) s.x0,s.g.same (fun _ h=>h) hs (fun b hb hz=>(s.g.zA b hz).2 hb) zl,fK (fun p hp=>?_) iY hdf,j,fun b hb=>?_,fun b hb=>?_,T8⟩
 ·rw[ht p hp];have:=s.t.rep p.1;rw[v5 p hp]at this;exact this.less (fun _ h=>h) (fun b hb=>hs b (.inl hb)) fun i hi=>⟨hi,rfl⟩
 ·refine⟨j.lt hb,fun hz=>?_,fun ho=>?_⟩
  ·rcases hx b hb with h|h
   ·exact(s.fr b h).2.1 hz
   grind
  ·rcases hx b hb with h|h
   ·exact(s.fr b h).2.2 ho
   ·have:=s.g.bT ho;omega
 ·rcases hx b hb with h|h
  ·exact s.x0 b h
  ·exact acR s.wk.size h
theorem dy{P:Program}{ops:Array Oper}{Q:Exit→Act→World→Prop}{i:Nat}{rest:List Nat}{a:Act}{w w':World}{o:Oper}{v:Value}(ho:ops[i]? = some o)(hg:o.guard=none)(hr:(execOp a.eval o).run P w=.ok (.value v) w')(hk:wpOps P ops Q rest (a.put o.dst v) w'):wpOps P ops Q (i::rest) a w:=by
 grind [wpOps_cons,zO]
theorem pw{a:Act}{d i:Nat}{v:Value}(h:i≠d):(a.put (some d) v).eval (.tmp i)=a.eval (.tmp i):=dx a v fun j hj e=>h (by simp_all)
theorem eu{a:Act}{d:Nat}{v:Value}(h:d<a.tmps.size):(a.put (some d) v).eval (.tmp d)=v:=by show(a.put (some d) v).tmps.getD d undef=v;rw[jm h,if_pos rfl]
theorem adZ:r3 7=.region 7 (opsOf (r3 7)) false:=by kernel_rfl
theorem ad0:r3 8=.region 8 (opsOf (r3 8)) false:=by kernel_rfl
theorem aat(n:Nat){x:V3.T}(hq:vs.length+1≤fH)(s:Pt Z0 w0 V3 x vs q a W)(v5:∀p∈(aA V3 x).tmps,look (aA V3 x).tmps p.1=p.2∧p.1∈[5,6,11,12,1,3,10]) :
  (r3 8).wpIn (FW none) n Tryz.prog (fun e a' W'=>e=.normal∧Pt Z0 w0 V3 x (vs++[F6]) q a' W') a W:=by
 obtain⟨lv,Z,ψ,s⟩:=s;obtain⟨i,z,he⟩:=Rf;rw[ad0];show Code.wpIn Fence.wide n Tryz.prog _ _ a W;refine wpIn_wide.2 (wp_region ?_);have hs:(opsOf (r3 8)).size=4:=by kernel_rfl
 have g0:(opsOf (r3 8))[0]? = some (o3 8 0):=by kernel_rfl
 have g1:(opsOf (r3 8))[1]? = some (o3 8 1):=by kernel_rfl
 have g2:(opsOf (r3 8))[2]? = some (o3 8 2):=by kernel_rfl
 have g3:(opsOf (r3 8))[3]? = some (o3 8 3):=by kernel_rfl
 have d0:(o3 8 0).dst=some 24:=by kernel_rfl
 have d1:(o3 8 1).dst=some 25:=by kernel_rfl
 have d2:(o3 8 2).dst=some 26:=by kernel_rfl
 have d3:(o3 8 3).dst=some 4:=by kernel_rfl
 have p0:(o3 8 0).op=.move (.tmp 4):=by kernel_rfl
 have p1:(o3 8 1).op=.buildSlice 235 1 #[(0,.const F6)]:=by kernel_rfl
 have p2:(o3 8 2).op=.call { callee:=.builtin .append,args:=#[.tmp 24,.tmp 25],argTypes:=#[235,235] }:=by kernel_rfl
 have p3:(o3 8 3).op=.assign (.tmp 26):=by kernel_rfl
 rw[hs,show List.range 4=[0,1,2,3] from rfl];obtain⟨PC,W2,dC,j2,gw,hX⟩:=adW s.j hq (o3 8 2).type;have iY:=s.t.size;refine dy g0 (by kernel_rfl) (lC p0) ?_;rw[d0];obtain⟨a1,Ua⟩:∃a1,a1=a.put (some 24) (a.eval (.tmp 4)):=⟨_,rfl⟩;rw[←Ua];have anN:a1.tmps.size=47:=by grind [cY]
 refine dy g1 (by kernel_rfl) (XJ p1 (Nh W Ng he F6 rfl (.inl rfl))) ?_;rw[d1];obtain⟨a2,Ub⟩:∃a2,a2=a1.put (some 25) (.slice (some ⟨W.heap.size,0,none⟩) 1 1):=⟨_,rfl⟩;rw[←Ub];have qD:a2.tmps.size=47:=by grind [cY]
 have e24:a2.eval (.tmp 24)=lv:=by rw[Ub,pw (by decide),Ua,eu (by omega)];exact s.lv
 have e25:a2.eval (.tmp 25)=.slice (some ⟨W.heap.size,0,none⟩) 1 1:=by grind [eu]
 refine dy g2 (by kernel_rfl) (IT p2 (by rw[e24,e25];exact dC)) ?_;rw[d2];obtain⟨a3,YY⟩:∃a3,a3=a2.put (some 26) PC:=⟨_,rfl⟩;rw[←YY];have anO:a3.tmps.size=47:=by grind [cY]
 have e26:a3.eval (.tmp 26)=PC:=by grind [eu]
 refine dy g3 (by kernel_rfl) (vM p3) ?_;rw[d3,e26];refine⟨rfl,PC,Z,ψ,Rh s gw j2 hX ?_ (by grind [cY]) (by rw[put_defers,YY,put_defers,Ub,put_defers,Ua,put_defers];exact s.t.defers) (fun p hp=>?_) fun p hp=>(v5 p hp).1⟩
 ·exact eu (by omega)
 ·have hm:=(v5 p hp).2;have bA:∀d,d∈[4,24,25,26]→p.1≠d:=fun d hd e=>by
   grind
  grind [dx]
end Go.Vs
namespace Go.Vs
open Go.Proofs
variable {Z Z' Z0:Nat→Prop} {ψ ψ' ψ0:Nat→Value} {h h':Hp} {w w' w0 W W' W1 W2:World} {B0:Nat} {O N:Nat→Prop}
variable {a:Act} {lv:Value} {vs:List Value} {q:Nat}
theorem aau(n:Nat){i y c j:Int}{d:ar}{p:Pm}{L:List Int}(s:Pt Z0 w0 V3 ((i,(y,(c,(j,())))),(((d,()),()),(p,(L,())))) vs q a W) :
  (r3 7).wpIn (FW none) n Tryz.prog (fun e a' W'=>e=.normal∧Pt Z0 w0 V3 ((i,(y,(c,(j,())))),(((d,()),()),(j4 (.int .i64) i ((vs.length:Nat):Int) p,(L,())))) vs q a' W') a W:=by
 obtain⟨lv,Z,ψ,s⟩:=s;obtain⟨A,cap,TZ⟩:=s.j.o.slice;rw[adZ];obtain⟨apM,aa3⟩:∃v,v=a.tmps.getD 4 undef:=⟨_,rfl⟩;have hs:(opsOf (r3 7)).size=5:=by kernel_rfl
 have g0:(opsOf (r3 7))[0]? = some (o3 7 0):=by kernel_rfl
 have g1:(opsOf (r3 7))[1]? = some (o3 7 1):=by kernel_rfl
 have g2:(opsOf (r3 7))[2]? = some (o3 7 2):=by kernel_rfl
 have g3:(opsOf (r3 7))[3]? = some (o3 7 3):=by kernel_rfl
 have g4:(opsOf (r3 7))[4]? = some (o3 7 4):=by kernel_rfl
 have d0:(o3 7 0).dst=some 20:=by kernel_rfl
 have d1:(o3 7 1).dst=some 21:=by kernel_rfl
 have d2:(o3 7 2).dst=some 22:=by kernel_rfl
 have d3:(o3 7 3).dst=some 23:=by kernel_rfl
 have p0:(o3 7 0).op=.move (.tmp 3):=by kernel_rfl
 have p1:(o3 7 1).op=.move (.tmp 5):=by kernel_rfl
 have p2:(o3 7 2).op=.move (.tmp 4):=by kernel_rfl
 have p3:(o3 7 3).op=.call { callee:=.builtin .len,args:=#[.tmp 22],argTypes:=#[235] }:=by kernel_rfl
 have hds:(opsOf (r3 7)).all (fun o=>jB 47 o)=true:=by kernel_rfl
 have aso:(opsOf (r3 7)).any (fun o=>makes o.op)=false:=by kernel_rfl
 have ain:QY [4] (opsOf (r3 7))=true:=by kernel_rfl
 have je:wpOps Tryz.prog (opsOf (r3 7)) (fun e a' W'=>e=.normal∧∃fB Z' ψ',db V3 fB=some ((i,(y,(c,(j,())))),(((d,()),()),(j4 (.int .i64) i ((vs.length:Nat):Int) p,(L,()))))∧Ok Z W (Own ψ (aA V3 ((i,(y,(c,(j,())))),(((d,()),()),(p,(L,()))))).heap.get) ψ Z' ψ' fB.heap.get W'∧dm Z' ψ' fB.heap.get W' 47 (look fB.tmps) a') (List.range (opsOf (r3 7)).size) a W:=by
  rw[hs,show List.range 5=[0,1,2,3,4] from rfl];have iY:=s.t.size;refine dy g0 (by kernel_rfl) (lC p0) ?_;rw[d0];obtain⟨a1,Ua⟩:∃a1,a1=a.put (some 20) (a.eval (.tmp 3)):=⟨_,rfl⟩;rw[←Ua];have anN:a1.tmps.size=47:=by grind [cY]
  refine dy g1 (by kernel_rfl) (lC p1) ?_;rw[d1];obtain⟨a2,Ub⟩:∃a2,a2=a1.put (some 21) (a1.eval (.tmp 5)):=⟨_,rfl⟩;rw[←Ub];have qD:a2.tmps.size=47:=by grind [cY]
  refine dy g2 (by kernel_rfl) (lC p2) ?_;rw[d2];obtain⟨a3,YY⟩:∃a3,a3=a2.put (some 22) (a2.eval (.tmp 4)):=⟨_,rfl⟩;rw[←YY];have anO:a3.tmps.size=47:=by grind [cY]
  have e22:a3.eval (.tmp 22)=.slice A vs.length cap:=by rw[YY,eu (by omega),Ub,pw (by decide),Ua,pw (by decide),←TZ];exact s.lv
  refine dy g3 (by kernel_rfl) (XL p3 Ng e22) ?_;rw[d3];obtain⟨a4,ha4⟩:∃a4,a4=a3.put (some 23) (.int .i64 ((vs.length:Nat):Int)):=⟨_,rfl⟩;rw[←ha4];have anP:a4.tmps.size=47:=by grind [cY]
  have dJ:∀k,k≠20→k≠21→k≠22→k≠23→a4.tmps.getD k undef=a.tmps.getD k undef:=fun k h0 h1 h2 h3=>by
   grind [dx]
  have e20:a4.tmps.getD 20 undef=a.tmps.getD 3 undef:=by rw[ha4,dx _ _ fun j hj=>by grind,YY,dx _ _ fun j hj=>by grind,Ub,dx _ _ fun j hj=>by grind,Ua,jm (by omega),if_pos rfl];rfl
  have e21:a4.tmps.getD 21 undef=a.tmps.getD 5 undef:=by
   rw[ha4,dx _ _ fun j hj=>by grind,YY,dx _ _ fun j hj=>by grind,Ub,jm (by omega),if_pos rfl];show a1.tmps.getD 5 undef=_
   grind [dx]
  have e23:a4.tmps.getD 23 undef=.int .i64 ((vs.length:Nat):Int):=by rw[ha4,jm (by omega),if_pos rfl]
  have t4:dm Z ψ (st7 c i y j ((vs.length:Nat):Int) d p L).heap.get W 47 (look (st7 c i y j ((vs.length:Nat):Int) d p L).tmps) a4:=by
   refine fK (fun r hr=>?_) anP (by rw[ha4,put_defers,YY,put_defers,Ub,put_defers,Ua,put_defers];exact s.t.defers);have hr:r∈[(20,AV.bO 31000),(21,AV.int .i64 i),(23,AV.int .i64 ((vs.length:Nat):Int)),(5,AV.int .i64 i),(6,AV.int .i64 y),(11,AV.int .i64 c),(12,AV.int .i64 j),(1,AV.ref 20001 0 0 0),(3,AV.bO 31000),(10,AV.bO 31001)]:=hr;simp only[List.mem_cons,List.not_mem_nil,or_false]at hr;rcases hr with rfl|rfl|rfl|rfl|rfl|rfl|rfl|rfl|rfl|rfl
   ·rw[e20];exact s.t.rep 3
   ·rw[e21];exact s.t.rep 5
   ·grind [aD]
   ·rw[dJ 5 (by decide) (by decide) (by decide) (by decide)];exact s.t.rep 5
   ·rw[dJ 6 (by decide) (by decide) (by decide) (by decide)];exact s.t.rep 6
   ·rw[dJ 11 (by decide) (by decide) (by decide) (by decide)];exact s.t.rep 11
   ·rw[dJ 12 (by decide) (by decide) (by decide) (by decide)];exact s.t.rep 12
   ·rw[dJ 1 (by decide) (by decide) (by decide) (by decide)];exact s.t.rep 1
   ·rw[dJ 3 (by decide) (by decide) (by decide) (by decide)];exact s.t.rep 3
   ·rw[dJ 10 (by decide) (by decide) (by decide) (by decide)];exact s.t.rep 10
  refine mX sB (rid:=7) (n:=47) (b:=#[]) false (fun _ i o ho=>?_) (by omega) (fun i o ho=>adV.1 hds o (aeH ho)) (kk:=db V3) (fun fB Z ψ a w h1 h2 h3=>⟨rfl,fB,Z,ψ,h1,h2,h3⟩) [(4,o3 7 4)] 4 (st7 c i y j ((vs.length:Nat):Int) d p L) Z ψ a4 W ⟨rfl,g4,trivial⟩ (m7 F1 c i y j _ d p L) ⟨Good.start s.g,t4,fun d=>?_,fun i ty cs hb=>?_⟩
  ·grind
  ·exact(aM.top _).imp fun id _ h=>by cases h
  ·exact(aF.top _).imp fun id _ h=>by cases h
 have h2:=FU none n [] (keep:=[4]) (fun d=>a.tmps.getD d undef) (fun _ _ _ h=>h.1) ain _ a W je fun _ _=>rfl;rw[eF]at h2;refine wpIn_mono (wpIn_region h2) ?_;rintro e a' W' ⟨h3,a0,h4,h5,h6,fB,Z',ψ',h7,h8,h9⟩;subst h3;subst h4;rw[eF];exact⟨rfl,PD s h7 h8 h9 (h5 4 (by simp))⟩
theorem PF{hp:Heap}{id off ty:Nat}{t:TypeId}{cs:List AV}{v:AV}(hb:hp.get id=some (.box ty cs))(fc:eW Tryz.prog t (cs.drop off)=some v):nq Tryz.prog hp t (.ref id 0 0 off) some=some (.val v):=by simp_all [nq,if_true]
theorem PH{hp:Heap}{t e:TypeId}{k:K}{xs:List k.T}{y:k.T}{n:Int}{b:Bool}(el:tp Tryz.prog t=some e)(hs:Tryz.prog.cellsOf e=k.sz)(hg:aP xs n=some y):dZ Tryz.prog hp t (.sl b k xs) (.int .i64 n) some=some (.val (.fp k y 0)):=by simp_all [dZ,if_true]
theorem aav{α:Type}{xs:List α}{i:Nat}{y:α}(h:xs[i]? = some y):aP xs (i:Int)=some y:=by simp_all [aP,if_pos,Int.toNat_natCast]
structure aio(W:World)(v1:Value)(i:Nat)(pD IU pE pF Di:Value):Prop where
 f1:(Instr.fieldAt 27 v1 0).run Tryz.prog W=.ok pD W
 l1:(Instr.loadAt 24 pD).run Tryz.prog W=.ok IU W
 ix:(Instr.indexAt 24 IU (.int .i64 (i:Int))).run Tryz.prog W=.ok pE W
 f2:(Instr.fieldAt 38 pE 0).run Tryz.prog W=.ok pF W
 l2:(Instr.loadAt 35 pF).run Tryz.prog W=.ok Di W
 sz:Di.cells.size=2
 one:∀u∈Di.cells.toList,u.oneCell'=true
theorem aaw{hp:Heap}{d:ar}{v1:Value}{i:Nat}(g:Good Z ψ hp.get W B0 O)(hb:hp.get 20001=some (.box 27 (enc dX d)))(hr:aD Z ψ hp.get W (.ref 20001 0 0 0) v1)(hi:i<d.1.length):∃pD IU pE pF Di,aio W v1 i pD IU pE pF Di:=by
 have fo1:iZ Tryz.prog 27 0=some (0,24):=by kernel_rfl
 have fo2:iZ Tryz.prog 38 0=some (0,35):=by kernel_rfl
 have hc1:Tryz.prog.cellsOf 24≠0:=by
  have:Tryz.prog.cellsOf 24=1:=by kernel_rfl
  omega
 have rp:Tryz.prog.cellsOf 35≠0:=by
  have:Tryz.prog.cellsOf 35=2:=by kernel_rfl
  omega
 obtain⟨pD,e1,r1⟩:=wq (P:=Tryz.prog) (t:=27) (f:=0) fo1 hc1 hr;have fc:eW Tryz.prog 24 ((enc dX d).drop (0+0))=some (.sl false dh d.1):=by kernel_rfl
 obtain⟨x2,IU,q2,e2,r2⟩:=xg (P:=Tryz.prog) (hh:=hp) g (fun _ _ h=>h) (t:=24) (e:=.val (.sl false dh d.1)) r1 (PF hb fc)
 cases q2
 have hx:d.1[i]? = some d.1[i]:=abf hi;have el:tp Tryz.prog 24=some 38:=by kernel_rfl
 have iY:Tryz.prog.cellsOf 38=dh.sz:=by kernel_rfl
 obtain⟨x3,pE,q3,e3,r3⟩:=sK (P:=Tryz.prog) (hh:=hp) g (fun _ _ h=>h) (t:=24) (i:=.int .i64 (i:Int)) (u:=.int .i64 (i:Int)) (e:=.val (.fp dh d.1[i] 0)) r2 (by rfl) (PH el iY (aav (i:=i) hx))
 cases q3
 obtain⟨pF,e4,r4⟩:=ym (P:=Tryz.prog) (t:=38) (f:=0) fo2 rp r3;have fc2:eW Tryz.prog 35 ((enc dh d.1[i]).drop (0+0))=some (.agg [.int .i64 d.1[i].1.1,.int .i64 d.1[i].1.2]):=by generalize d.1[i]=v;kernel_rfl
 obtain⟨x5,Di,q5,e5,r5⟩:=xg (P:=Tryz.prog) (hh:=hp) g (fun _ _ h=>h) (t:=35) (e:=.val (.agg [.int .i64 d.1[i].1.1,.int .i64 d.1[i].1.2])) r4 (by grind [nq])
 cases q5
 simp only[aD,az]at r5;obtain⟨us,rfl,u1,us1,hus,rfl,u2,us2,rfl,rfl,rfl⟩:=r5;have hc:(Value.agg us).cells=#[.int .i64 d.1[i].1.1,.int .i64 d.1[i].1.2]:=by
  show us=_
  grind
 refine⟨pD,IU,pE,pF,_,e1,e2,e3,e4,e5,by rw[hc];rfl,fun u hu=>?_⟩;rw[hc]at hu;simp at hu;rcases hu with rfl|rfl<;>rfl
end Go.Vs
namespace Go.Vs
open Go.Proofs
variable {Z Z' Z0:Nat→Prop} {ψ ψ' ψ0:Nat→Value} {h h':Hp} {w w' w0 W W' W1 W2 W3 Wd:World} {B0:Nat} {O N:Nat→Prop}
variable {a:Act} {lv:Value} {vs:List Value} {q:Nat}
theorem aax:r3 10=.region 10 (opsOf (r3 10)) true:=by kernel_rfl
def D10:List (List Nat):=[[],[],[],[],[2,3],[4],[],[6],[],[7,8],[9],[10],[11],[5,12],[0,1,13],[13,14]]
noncomputable abbrev jr:Array Oper:=opsOf (r3 10)
theorem Kv:jr.size=16:=by kernel_rfl
theorem aip:jr.toList.zipIdx.all (fun p=>(D10.getD p.2 []).all fun e=>p.1.after.any fun x=>Region.binds .any x&&x.on==e)=true:=by kernel_rfl
theorem aiq:jr.toList.zipIdx.all (fun p=>p.1.after.all fun x=>decide (x.on<p.2))=true:=by kernel_rfl
theorem aay{L:Array Bool}{i:Nat}(h:i∈Region.ready .any jr L):i<16∧L.getD i true=false∧∀e,e∈D10.getD i []→L.getD e false=true:=by
 obtain⟨h1,o,ho,h2⟩:=mem_ready.1 h;refine⟨by grind [Array.getElem?_eq_some_iff,Kv],h1,fun e he=>?_⟩;have hm:(o,i)∈jr.toList.zipIdx:=by
  grind
 have h3:=ac2.1 (ac2.1 aip _ hm) e he
 grind
theorem XO{L:Array Bool}(h:Region.ready .any jr L=[]):∀n i,i<n→i<16→L.getD i true=true
 |0,i,h1,_=>by omega
 |n+1,i,h1,h2=>by
  have ih:=XO h n
  cases hc:L.getD i true with
  |true=>rfl
  |false =>
   exfalso;have ho:jr[i]? = some jr[i]:=acQ (by grind [Kv]);have hr:i∈Region.ready .any jr L:=mem_ready.2 ⟨hc,_,ho,fun e he _=>?_⟩
   ·simp_all
   ·have hm:(jr[i],i)∈jr.toList.zipIdx:=by
     grind
    have h3:=adV.1 (ac2.1 aiq _ hm) e he
    grind
def TJ(Wd W1 W2 W3:World)(L:Array Bool):World:=if L.getD 15 false=true then W3 else if L.getD 13 false=true then W2 else if L.getD 12 false=true then W1 else Wd
structure Iw(a0:Act)(V:List Value)(Wd W1 W2 W3:World)(L:Array Bool)(a:Act)(w:World):Prop where
 n:L.size=16
 cl:∀i e,L.getD i false=true→e∈D10.getD i []→L.getD e false=true
 v:∀i,i<15→L.getD i false=true→a.tmps.getD (30+i) undef=V.getD i undef
 dJ:∀i,i<30∨45≤i→a.tmps.getD i undef=a0.tmps.getD i undef
 sz:a.tmps.size=47
 df:a.defers=[]
 w:w=TJ Wd W1 W2 W3 L
variable {a0:Act} {V:List Value} {L:Array Bool}
theorem lp{L:Array Bool}{i j:Nat}(h:i<L.size):(L.setIfInBounds i true).getD j false=if i=j then true else L.getD j false:=by
 rw[Array.getD_eq_getD_getElem?,Array.getElem?_setIfInBounds];by_cases e:i=j
 ·simp_all
 ·simp[e]
theorem Dk{i:Nat}{d:Option Tmp}{v:Value}(I:Iw a0 V Wd W1 W2 W3 L a w)(hi:i<16)(hd:∀e,e∈D10.getD i []→L.getD e false=true)(oE:(i<15∧d=some (30+i)∧v=V.getD i undef)∨(i=15∧d=none))(hw:w'=TJ Wd W1 W2 W3 (L.setIfInBounds i true)):Iw a0 V Wd W1 W2 W3 (L.setIfInBounds i true) (a.put d v) w':=by
 have hn:i<L.size:=by rw[I.n];exact hi
 refine⟨by rw[Array.size_setIfInBounds];exact I.n,fun j e hj he=>?_,fun j hj hl=>?_,fun j hj=>?_,by rw[cY];exact I.sz,by rw[put_defers];exact I.df,hw⟩
 ·rw[lp hn]at hj ⊢;by_cases k:i=e
  ·rw[if_pos k]
  ·rw[if_neg k];by_cases k2:i=j
   ·simp_all
   ·rw[if_neg k2]at hj;exact I.cl j e hj he
 ·rcases oE with⟨h1,rfl,rfl⟩|⟨h1,rfl⟩
  ·rw[jm (by rw[I.sz];omega)];by_cases k:j=i
   ·simp_all
   ·rw[if_neg (by omega)];rw[lp hn,if_neg (fun e=>k e.symm)]at hl;exact I.v j hj hl
  ·show a.tmps.getD _ _=_;rw[lp hn,if_neg (by omega)]at hl;exact I.v j hj hl
 ·rcases oE with⟨h1,rfl,rfl⟩|⟨h1,rfl⟩
  ·rw[jm (by rw[I.sz];omega),if_neg (by omega)];exact I.dJ j hj
  ·exact I.dJ j hj
theorem XP{i:Nat}(hn:i<L.size)(h1:i≠12)(h2:i≠13)(h3:i≠15):TJ Wd W1 W2 W3 (L.setIfInBounds i true)=TJ Wd W1 W2 W3 L:=by simp_all [TJ,lp,if_neg]
theorem kx{i j:Nat}(I:Iw a0 V Wd W1 W2 W3 L a w)(h:L.getD j false=false)(he:j∈D10.getD i []):L.getD i false=false:=by
 cases hc:L.getD i false with
 |false=>rfl
 |true=>rw[I.cl i j hc he]at h;cases h
end Go.Vs
namespace Go.Vs
open Go.Proofs
variable {Z Z' Z0:Nat→Prop} {ψ ψ' ψ0:Nat→Value} {h h':Hp} {w w' w0 W W' W1 W2 W3 Wd:World} {B0:Nat} {O N:Nat→Prop}
variable {a:Act} {lv:Value} {vs:List Value} {q:Nat}
theorem q10(i:Nat)(hi:i<16):jr[i]? = some (o3 10 i):=by
 have:∀i,i<jr.size→jr[i]? = some ((jr[i]?).getD { dst:=none,op:=.move (.tmp 0),type:=0,pos:= "",after:=#[],guard:=none }):=fun i h=>by simp_all
 exact this i (by grind [Kv])
theorem anQ:jr.toList.all (fun o=>o.guard.isNone)=true:=by kernel_rfl
theorem Dl(i:Nat)(hi:i<16):(o3 10 i).guard=none:=by have:=ac2.1 anQ (o3 10 i) (by have:=aeH (q10 i hi);simp_all);simp_all
theorem anR:jr.toList.map (·.dst)=[some 30,some 31,some 32,some 33,some 34,some 35,some 36,some 37,some 38,some 39,some 40,some 41,some 42,some 43,some 44,none]:=by kernel_rfl
theorem Ri(i:Nat)(hi:i<16):(o3 10 i).dst=if i<15 then some (30+i) else none:=by
 have h1:(jr.toList.map (·.dst))[i]? = some (o3 10 i).dst:=by rw[List.getElem?_map,Array.getElem?_toList,q10 i hi];rfl
 rw[anR]at h1;have h2:∀i,i<16→([some 30,some 31,some 32,some 33,some 34,some 35,some 36,some 37,some 38,some 39,some 40,some 41,some 42,some 43,some 44,none]:List (Option Tmp))[i]? = some (if i<15 then some (30+i) else none):=by decide
 rw[h2 i hi]at h1;exact(acP h1).symm
theorem air:(o3 10 0).op=.move (.tmp 4):=by kernel_rfl
theorem ais:(o3 10 1).op=.move (.tmp 7):=by kernel_rfl
theorem ait:(o3 10 2).op=.move (.tmp 4):=by kernel_rfl
theorem aiu:(o3 10 3).op=.move (.tmp 7):=by kernel_rfl
theorem aiv:(o3 10 4).op=.indexAddr 235 (.tmp 32) (.tmp 33):=by kernel_rfl
theorem aiw:(o3 10 5).op=.load 163 (.tmp 34):=by kernel_rfl
theorem aix:(o3 10 6).op=.fieldAddr 27 (.tmp 1) 0:=by kernel_rfl
theorem aiy:(o3 10 7).op=.load 24 (.tmp 36):=by kernel_rfl
theorem aiz:(o3 10 8).op=.move (.tmp 5):=by kernel_rfl
theorem aiA:(o3 10 9).op=.indexAddr 24 (.tmp 37) (.tmp 38):=by kernel_rfl
theorem ad2:(o3 10 10).op=.fieldAddr 38 (.tmp 39) 0:=by kernel_rfl
theorem ad3:(o3 10 11).op=.load 35 (.tmp 40):=by kernel_rfl
theorem ad4:(o3 10 12).op=.buildSlice 163 1 #[(0,.tmp 41)]:=by kernel_rfl
theorem ad5:(o3 10 13).op=.call { callee:=.builtin .append,args:=#[.tmp 35,.tmp 42],argTypes:=#[163,163] }:=by kernel_rfl
theorem ad6:(o3 10 14).op=.indexAddr 235 (.tmp 30) (.tmp 31):=by kernel_rfl
theorem ad7:(o3 10 15).op=.store 163 (.tmp 44) (.tmp 43):=by kernel_rfl
structure Dw(Wd W1 W2 W3:World)(a0:Act)(lv:Value)(k i:Nat)(row:Value)(g:Nat)(pD IU pE pF Di s1 v':Value):Prop where
 l4:a0.tmps.getD 4 undef=lv
 l7:a0.tmps.getD 7 undef=.int .i64 (k:Int)
 l5:a0.tmps.getD 5 undef=.int .i64 (i:Int)
 ix:∀W' K,(Instr.indexAt 235 lv (.int K (k:Int))).run Tryz.prog W'=.ok (.pointer (some ⟨g,k,none⟩)) W'
 ld:(Instr.loadAt 163 (.pointer (some ⟨g,k,none⟩))).run Tryz.prog Wd=.ok row Wd
 ld1:(Instr.loadAt 163 (.pointer (some ⟨g,k,none⟩))).run Tryz.prog W1=.ok row W1
 rd:aio Wd (a0.tmps.getD 1 undef) i pD IU pE pF Di
 lit:(Instr.buildSlice 163 1 #[(0,Di)]).run Tryz.prog Wd=.ok s1 W1
 app:(Builtin.append_ #[163,163] (o3 10 13).type #[row,s1]).run Tryz.prog W1=.ok v' W2
 st:(Instr.storeAt 163 (.pointer (some ⟨g,k,none⟩)) v').run Tryz.prog W2=.ok () W3
abbrev Cu(lv:Value)(k i:Nat)(row:Value)(g:Nat)(pD IU pE pF Di s1 v':Value):List Value :=[lv,.int .i64 (k:Int),lv,.int .i64 (k:Int),.pointer (some ⟨g,k,none⟩),row,pD,IU,.int .i64 (i:Int),pE,pF,Di,s1,v',.pointer (some ⟨g,k,none⟩)]
theorem TK{L:Array Bool}{i:Nat}(h:L.getD i true=false):L.getD i false=false:=by
 grind
theorem TL{a0:Act}{k i:Nat}{row:Value}{g:Nat}{pD IU pE pF Di s1 v':Value}(D:Dw Wd W1 W2 W3 a0 lv k i row g pD IU pE pF Di s1 v')(Q:Exit→Act→World→Prop) :
  ∀L a w j,Iw a0 (Cu lv k i row g pD IU pE pF Di s1 v') Wd W1 W2 W3 L a w→j∈Region.ready .any jr L→wpOp Tryz.prog jr Q j (fun a' w'=>Iw a0 (Cu lv k i row g pD IU pE pF Di s1 v') Wd W1 W2 W3 (L.setIfInBounds j true) a' w') a w:=by
 intro L a w j I hj;obtain⟨YZ,hj2,XQ⟩:=aay hj;have XR:=TK hj2;have hn:j<L.size:=by rw[I.n];exact YZ
 have tmp:∀n,n∈D10.getD j []→n<15→a.eval (.tmp (30+n))=(Cu lv k i row g pD IU pE pF Di s1 v').getD n undef:=fun n h1 h2=>I.v n h2 (XQ n h1);have e4:a.eval (.tmp 4)=lv:=(I.dJ 4 (by omega)).trans D.l4;have e7:a.eval (.tmp 7)=.int .i64 (k:Int):=(I.dJ 7 (by omega)).trans D.l7;have e5:a.eval (.tmp 5)=.int .i64 (i:Int):=(I.dJ 5 (by omega)).trans D.l5;have e1:a.eval (.tmp 1)=a0.tmps.getD 1 undef:=I.dJ 1 (by omega);have still:∀{v:Value},j<15→j≠12→j≠13→v=(Cu lv k i row g pD IU pE pF Di s1 v').getD j undef→(execOp a.eval (o3 10 j)).run Tryz.prog w=.ok (.value v) w→wpOp Tryz.prog jr Q j (fun a' w'=>Iw a0 (Cu lv k i row g pD IU pE pF Di s1 v') Wd W1 W2 W3 (L.setIfInBounds j true) a' w') a w:=fun {v} h1 h2 h3 h4 h5=>by refine zO (q10 j YZ) (Dl j YZ) h5 ?_;rw[Ri j YZ,if_pos h1];exact Dk I YZ XQ (.inl ⟨h1,rfl,h4⟩) (by rw[XP hn h2 h3 (by omega)];exact I.w)
 have f13:L.getD 12 false=false→L.getD 13 false=false:=fun h=>kx I h (by decide);have f14:L.getD 13 false=false→L.getD 14 false=false:=fun h=>kx I h (by decide);have f15:L.getD 13 false=false→L.getD 15 false=false:=fun h=>kx I h (by decide);have early:L.getD 12 false=false→w=Wd:=fun h=>by have h1:=f13 h;have h2:=f15 h1;rw[I.w];unfold TJ;rw[h2,h1,h];rfl
 have f12:L.getD 11 false=false→L.getD 12 false=false:=fun h=>kx I h (by decide);have f11:L.getD 10 false=false→L.getD 11 false=false:=fun h=>kx I h (by decide);have f10:L.getD 9 false=false→L.getD 10 false=false:=fun h=>kx I h (by decide);have f97:L.getD 7 false=false→L.getD 9 false=false:=fun h=>kx I h (by decide);have f76:L.getD 6 false=false→L.getD 7 false=false:=fun h=>kx I h (by decide)
 match j,YZ with
 |0,_=>exact still (by omega) (by omega) (by omega) rfl (by have h:=lC (P:=Tryz.prog) (ρC:=a.eval) (w:=w) air;rw[e4]at h;exact h)
 |1,_=>exact still (by omega) (by omega) (by omega) rfl (by have h:=lC (P:=Tryz.prog) (ρC:=a.eval) (w:=w) ais;rw[e7]at h;exact h)
 |2,_=>exact still (by omega) (by omega) (by omega) rfl (by have h:=lC (P:=Tryz.prog) (ρC:=a.eval) (w:=w) ait;rw[e4]at h;exact h)
 |3,_=>exact still (by omega) (by omega) (by omega) rfl (by have h:=lC (P:=Tryz.prog) (ρC:=a.eval) (w:=w) aiu;rw[e7]at h;exact h)
 |4,_ =>have h2:=tmp 2 (by decide) (by omega);have h3:=tmp 3 (by decide) (by omega);exact still (by omega) (by omega) (by omega) rfl (F5 aiv (by rw[h2,h3];exact D.ix _ _))
 |5,_ =>
  have h4:=tmp 4 (by decide) (by omega);have YI:L.getD 13 false=false:=kx I XR (by decide);have h15:=f15 YI;have hw:w=Wd∨w=W1:=by
   rw[I.w];unfold TJ;rw[h15,YI];by_cases c:L.getD 12 false=true
   ·right;simp[c]
   ·left;simp[c]
  exact still (by omega) (by omega) (by omega) rfl (Dh aiw (by
   rw[h4];rcases hw with rfl|rfl
   ·exact D.ld
   ·exact D.ld1))
 |6,_ =>have hw:=early (f12 (f11 (f10 (f97 (f76 XR)))));exact still (by omega) (by omega) (by omega) rfl (Nd aix (by rw[e1,hw];exact D.rd.f1))
 |7,_ =>have h6:=tmp 6 (by decide) (by omega);have hw:=early (f12 (f11 (f10 (f97 XR))));exact still (by omega) (by omega) (by omega) rfl (Dh aiy (by rw[h6,hw];exact D.rd.l1))
 |8,_=>exact still (by omega) (by omega) (by omega) rfl (by have h:=lC (P:=Tryz.prog) (ρC:=a.eval) (w:=w) aiz;rw[e5]at h;exact h)
 |9,_ =>have h7:=tmp 7 (by decide) (by omega);have h8:=tmp 8 (by decide) (by omega);have hw:=early (f12 (f11 (f10 XR)));exact still (by omega) (by omega) (by omega) rfl (F5 aiA (by rw[h7,h8,hw];exact D.rd.ix))
 |10,_ =>have h9:=tmp 9 (by decide) (by omega);have hw:=early (f12 (f11 XR));exact still (by omega) (by omega) (by omega) rfl (Nd ad2 (by rw[h9,hw];exact D.rd.f2))
 |11,_ =>have q6:=tmp 10 (by decide) (by omega);have hw:=early (f12 XR);exact still (by omega) (by omega) (by omega) rfl (Dh ad3 (by rw[q6,hw];exact D.rd.l2))
 |12,_ =>have GB:=tmp 11 (by decide) (by omega);have hw:=early XR;refine zO (q10 12 (by omega)) (Dl 12 (by omega)) (XJ ad4 (by rw[GB,hw];exact D.lit)) ?_;rw[Ri 12 (by omega),if_pos (by omega)];refine Dk I (by omega) XQ (.inl ⟨by omega,rfl,rfl⟩) ?_;have h1:=f13 XR;have h2:=f15 h1;unfold TJ;simp[lp hn,h1,h2]
 |13,_ =>
  have h5:=tmp 5 (by decide) (by omega);have Uz:=tmp 12 (by decide) (by omega);have c12:=XQ 12 (by decide);have c15:=f15 XR;have hw:w=W1:=by rw[I.w];unfold TJ;rw[c15,XR,c12];rfl
  refine zO (q10 13 (by omega)) (Dl 13 (by omega)) (IT ad5 (by rw[h5,Uz,hw];exact D.app)) ?_;rw[Ri 13 (by omega),if_pos (by omega)];refine Dk I (by omega) XQ (.inl ⟨by omega,rfl,rfl⟩) ?_;unfold TJ;simp[lp hn,c15]
 |14,_ =>have h0:=tmp 0 (by decide) (by omega);have h1:=tmp 1 (by decide) (by omega);exact still (by omega) (by omega) (by omega) rfl (F5 ad6 (by rw[h0,h1];exact D.ix _ _))
 |15,_ =>
  have h14:=tmp 14 (by decide) (by omega);have YI:=tmp 13 (by decide) (by omega);have c13:=XQ 13 (by decide);have hw:w=W2:=by rw[I.w];unfold TJ;rw[XR,c13];rfl
  refine aaq (q10 15 (by omega)) (Dl 15 (by omega)) (XK ad7 (by rw[h14,YI,hw];exact D.st)) ?_;rw[Ri 15 (by omega),if_neg (by omega)];refine Dk I (by omega) XQ (.inr ⟨rfl,rfl⟩) ?_;unfold TJ;simp[lp hn]
 |n+16,hl=>exact absurd hl (by omega)
end Go.Vs
