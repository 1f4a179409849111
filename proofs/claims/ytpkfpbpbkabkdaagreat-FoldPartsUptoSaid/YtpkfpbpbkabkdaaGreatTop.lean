/- From the readings of a law's -/
import Derived.Test.YtpkfpbpbkabkdaaGreatRows
import Derived.Test.YtpkfpbpbkabkdaaGreatSpecials
import Derived.Test.YtpkfpbpbkabkdaaGreatRefB
import Derived.Deep.Slices
import Derived.ProofKit
import Derived.OpenShut
import Derived.JoinedCond
set_option linter.unusedVariables false
namespace Go.Vs
open Go.Proofs Go.Deep Go.ChangeShapes Go.WideShapes
def wc(P:Program)(g:TypeId→K→Bool):List Field→Nat→K→Bool
 |[],_,_=>false
 |[f],off,k=>decide (f.offset=off)&&(decide (P.cellsOf f.type=k.sz)&&g f.type k)
 |f::f'::r,off,.pair a b=>decide (f.offset=off)&&(decide (P.cellsOf f.type=a.sz)&&(g f.type a&&wc P g (f'::r) (off+a.sz) b))
 |_,_,_=>false
def UQ(P:Program):Nat→TypeId→K→Bool
 |0,_,_=>false
 |d+1,t,k =>
  match P.underlying t,k with
  |some (.int a),.int b=>decide (a=b)
  |some .bool,.bool=>true
  |some .string,.str=>true
  |some (.slice e),.sl k=>decide (P.cellsOf e=k.sz)&&UQ P d e k
  |some (.struct fs),.one k=>decide (P.cellsOf t=k.sz)&&wc P (UQ P d) fs.toList 0 k
  |some (.struct fs),.pair a b=>decide (P.cellsOf t=a.sz+b.sz)&&wc P (UQ P d) fs.toList 0 (.pair a b)
  |_,_=>false
def eV:(k:K)→k.T→Nat
 |.int _,_=>1
 |.bool,_=>1
 |.str,s=>s.size+1
 |.sl k,xs=>(xs.map (eV k)).sum+1
 |.pair a b,x=>eV a x.1+eV b x.2
 |.one k,x=>eV k x
 |.mp _ _,_=>0
 |.fn _,_=>0
def Mn:(k:K)→k.T→Prop
 |.int k,n=>k.min≤(show Int from n)∧(show Int from n)≤k.max
 |.bool,_=>True
 |.str,_=>True
 |.sl k,xs=>∀x∈(show List k.T from xs),Mn k x
 |.pair a b,x=>Mn a x.1∧Mn b x.2
 |.one k,x=>Mn k x
 |.mp _ _,_=>True
 |.fn _,_=>True
open Go.Proofs.YtpkfpbpbkabkdaaGreat (Rows.uptoBulk Rows.uptoBulkAll)
theorem Mo{α H:Type}(b:α→Nat):∀(ds:List (DataW H)) (p:Nat→α→Prop),(∀i (h:i<ds.length),∃y,p i y∧b y≤Rows.uptoBulk ds[i]) → ∃ys:List α,ys.length=ds.length∧(∀i y,ys[i]? = some y→p i y)∧(ys.map b).sum≤Rows.uptoBulkAll ds
 |[],p,_=>⟨[],rfl,fun i y h=>by simp at h,by simp⟩
 |d::r,p,h=>by
  obtain⟨y,h1,h2⟩:=h 0 (by simp);obtain⟨ys,h3,h4,h5⟩:=Mo b r (fun i=>p (i+1)) (fun i hi=>h (i+1) (by simpa using hi));refine⟨y::ys,by simp[h3],fun i z hz=>?_,?_⟩
  ·cases i with
   |zero=>simp at hz;subst hz;exact h1
   |succ i=>exact h4 i z (by simpa using hz)
  ·simp only[List.map_cons,List.sum_cons,Rows.uptoBulkAll];simp at h2;omega
variable {H:Type} {enc:TypeId×Value→H} {P:Program} {w:World} {spare:Nat→Bool} {held:Bool}
abbrev Old(w:World):Nat→Prop:=fun b=>b<w.heap.size
theorem KO{g:TypeId→K→Bool}{n:Nat}(hg:∀t k,g t k=true→∀(cs:List Value) (x:DataW H×List MemPlace),DataW.trod enc P w 0 spare held n t cs=some x→∃y:k.T,aB (Old w) w k y cs∧Mn k y∧eV k y≤Rows.uptoBulk x.1) :
  ∀(fs:List Field) (off:Nat) (k:K),wc P g fs off k=true→∀(cs:List Value) (xs:List (DataW H×List MemPlace)),xs.length=fs.length →(∀(i:Nat) (f:Field),fs[i]? = some f→DataW.trod enc P w 0 spare held n f.type ((cs.drop f.offset).take (P.cellsOf f.type))=xs[i]?)→∃y:k.T,aB (Old w) w k y ((cs.drop off).take k.sz)∧Mn k y∧eV k y≤Rows.uptoBulkAll (xs.map (·.1))
 |[],_,_,h,_,_,_,_=>by simp[wc]at h
 |[f],off,k,h,cs,xs,hl,hx=>by
  have h':f.offset=off∧P.cellsOf f.type=k.sz∧g f.type k=true:=by cases k<;>simpa[wc] using h
  obtain⟨h1,h2,h3⟩:=h'
  match xs,hl with
  |[x],_ =>
  have Rq:=hx 0 f rfl;rw[h1,h2]at Rq;obtain⟨y,Wx,Wy,hy3⟩:=hg _ _ h3 _ x Rq;exact⟨y,Wx,Wy,by simp[Rows.uptoBulkAll];exact hy3⟩
 |f::f'::r,off,.pair a b,h,cs,xs,hl,hx=>by
  simp only[wc,Bool.and_eq_true,decide_eq_true_eq]at h;obtain⟨h1,h2,h3,h4⟩:=h
  match xs,hl with
  |x::ZC,hl =>
  have Rq:=hx 0 f rfl;rw[h1,h2]at Rq;obtain⟨y,Wx,Wy,hy3⟩:=hg _ _ h3 _ x Rq;obtain⟨z,ve,zG,JC⟩:=KO hg (f'::r) (off+a.sz) b h4 cs ZC (by simpa using hl) (fun i q hq=>hx (i+1) q (by simpa using hq));refine⟨(y,z),?_,⟨Wy,zG⟩,?_⟩
  ·simp only[aB];refine⟨_,_,?_,Wx,ve⟩;simp only[K.sz];rw[←List.drop_drop,List.take_add]
  ·simp only[eV,List.map_cons,Rows.uptoBulkAll];omega
 |f::f'::r,off,.int _,h,_,_,_,_=>by simp[wc]at h
 |f::f'::r,off,.bool,h,_,_,_,_=>by simp[wc]at h
 |f::f'::r,off,.str,h,_,_,_,_=>by simp[wc]at h
 |f::f'::r,off,.sl _,h,_,_,_,_=>by simp[wc]at h
 |f::f'::r,off,.one _,h,_,_,_,_=>by simp[wc]at h
 |f::f'::r,off,.mp _ _,h,_,_,_,_=>by simp[wc]at h
 |f::f'::r,off,.fn _,h,_,_,_,_=>by simp[wc]at h
theorem we:∀(d:Nat) (t:TypeId) (k:K),UQ P d t k=true→∀(fuel:Nat) (cs:List Value) (x:DataW H×List MemPlace),DataW.trod enc P w 0 spare held fuel t cs=some x → ∃y:k.T,aB (Old w) w k y cs∧Mn k y∧eV k y≤Rows.uptoBulk x.1
 |0,_,_,h,_,_,_,_=>by simp[UQ]at h
 |d+1,t,k,h,0,cs,x,hx=>by simp[DataW.trod]at hx
 |d+1,t,k,h,fuel+1,cs,x,hx=>by
  unfold UQ at h
  split at h
  ·rename_i a b hu;simp only[decide_eq_true_eq]at h;subst h;obtain⟨n,rfl,rfl,hw⟩:=DataW.trod_int hu hx;exact⟨n,by simp only[aB],by unfold Lit.wf at hw;simp only[Bool.and_eq_true,decide_eq_true_eq]at hw;exact hw,by simp[eV,Rows.uptoBulk]⟩
  ·rename_i hu;obtain⟨b,rfl,rfl⟩:=DataW.trod_bool hu hx;exact⟨b,by simp only[aB],trivial,by simp[eV,Rows.uptoBulk]⟩
  ·rename_i hu;obtain⟨b,rfl,rfl,_⟩:=DataW.trod_string hu hx;exact⟨b,by simp only[aB],trivial,acn _⟩
  ·rename_i e k hu;simp only[Bool.and_eq_true,decide_eq_true_eq]at h;obtain⟨hc,hk⟩:=h;rcases open_slice hu hx with⟨rfl,rfl⟩|⟨a,len,cap,m,n,D,Pl,rfl,hb,hl,hm,Pr,rfl,wJ⟩
   ·refine⟨[],?_,by simp[Mn],by simp[eV,Rows.uptoBulk]⟩;simp only[aB];exact⟨_,rfl,none,0,rfl,acn _,fun _=>rfl,fun i x hx=>by simp at hx⟩
   ·have hlm:len≤m:=by rw[Pr];split<;>omega
    obtain⟨ys,h1,h2,h3⟩:=Mo (α:=k.T) (eV k) ((List.range len).map D) (fun i y=>Mn k y∧∃us,aB (Old w) w k y us∧a.block<w.heap.size∧∀(j:Nat) u,us[j]? = some u→w.cell? (a.add (i*k.sz+j))=some u) (fun i hi=>by
     have u7:i<len:=by simpa using hi
     obtain⟨cs',h4,h5⟩:=wJ i (by omega);obtain⟨y,Wx,Wy,hy3⟩:=we d e k hk n cs' _ h5;obtain⟨_,h6,h7⟩:=World.cells?_some h4;rw[hc]at h6 h7;refine⟨y,⟨Wy,cs',Wx,?_,fun j u hu=>?_⟩,by simpa using hy3⟩
     ·have h8:=h7 0 k.gh;rw[List.getElem?_eq_getElem (by have:=k.gh;omega)]at h8;rw[D1]at h8;have h9:(a.add (i*k.sz)).block<w.heap.size:=by
       unfold World.cell? at h8;refine Classical.byContradiction fun Df=>?_;rw[Array.getElem?_eq_none (by omega)]at h8
       cases h8
      rwa [eY]at h9
     ·have hj:j<k.sz:=by have:=(abr.1 hu).1;omega
      rw[←uY,←hu];exact h7 j hj)
    have hlen:ys.length=len:=by simpa using h1
    refine⟨ys,?_,fun y hy=>?_,?_⟩
    ·simp only[aB];refine⟨_,rfl,some a,cap,by rw[hlen],by omega,fun h=>(by cases h),fun i y hy=>?_⟩;obtain⟨_,us,h8,h9,lY⟩:=h2 i y hy;exact⟨a,us,rfl,h9,h8,lY⟩
    ·obtain⟨i,hi⟩:=adX hy;exact(h2 i y hi).1
    ·simp only[eV,Rows.uptoBulk];omega
  ·rename_i fs k hu;simp only[Bool.and_eq_true,decide_eq_true_eq]at h;obtain⟨hc,hk⟩:=h;obtain⟨xs,n,_,rfl,hl,hn,yl⟩:=DataW.trod_struct hu hx;obtain⟨y,h1,h2,h3⟩:=KO (fun t k hk cs x h=>we d t k hk n cs x h) fs.toList 0 k hk cs xs (by simpa using hn) (fun i f hf=>yl i f (by simpa using hf));refine⟨y,?_,h2,by simp only[eV,Rows.uptoBulk];omega⟩;simp only[aB]
   rwa [List.drop_zero,List.take_of_length_le (by omega)]at h1
  ·rename_i fs a b hu;simp only[Bool.and_eq_true,decide_eq_true_eq]at h;obtain⟨hc,hk⟩:=h;obtain⟨xs,n,_,rfl,hl,hn,yl⟩:=DataW.trod_struct hu hx;obtain⟨y,h1,h2,h3⟩:=KO (fun t k hk cs x h=>we d t k hk n cs x h) fs.toList 0 (.pair a b) hk cs xs (by simpa using hn) (fun i f hf=>yl i f (by simpa using hf));refine⟨y,?_,h2,by simp only[Rows.uptoBulk];omega⟩
   rwa [List.drop_zero,List.take_of_length_le (by simp only[K.sz];omega)]at h1
  ·cases h
end Go.Vs
namespace Go.Vs
open Go.Proofs Go.Deep Go.ChangeShapes Go.WideShapes Go.ChangeAt Go.RowKit
open Go.Proofs.YtpkfpbpbkabkdaaGreat (Rows.uptoBulk Rows.uptoBulkAll)
variable {H:Type} {ec:TypeId×Value→H} {P:Program} {w w':World} {spare:Nat→Bool} {held:Bool}
theorem Ix{d:Nat}{t:TypeId}{k:K}(ht:UQ P d t k=true){r:_root_.Go.Reach}{b0:Nat}{v:Value}(wg:Value.okWide P w r b0 t v){x:DataW H}{ps:List MemPlace}(hd:DataW.Trod ec P w 0 spare held t v x ps) :
  ∃y:k.T,au (Old w) JI gm w (b5 k y) v∧Mn k y∧eV k y≤Rows.uptoBulk x:=by
 obtain⟨fuel,hf⟩:=hd;obtain⟨y,h1,h2,h3⟩:=we d t k ht fuel _ _ hf;refine⟨y,?_,h2,h3⟩;have hr:an (Old w) JI gm w (enc k y) v.cells.toList:=iD h1
 cases d with
 |zero=>simp[UQ]at ht
 |succ d =>
  unfold UQ at ht
  split at ht
  ·rename_i hu;obtain⟨n,rfl⟩:=okWide_int hu wg;simp only[Value.cells,aB,List.cons.injEq,and_true]at h1;simp only[b5,au];exact h1
  ·rename_i hu;obtain⟨b,rfl⟩:=okWide_bool hu wg;simp only[Value.cells,aB,List.cons.injEq,and_true]at h1;simp only[b5,au];exact h1
  ·rename_i hu;obtain⟨b,rfl⟩:=okWide_string hu wg;simp only[Value.cells,aB,List.cons.injEq,and_true]at h1;simp only[b5,au];exact h1
  ·rename_i hu;obtain⟨a,len,cap,rfl⟩:=okWide_slice hu wg;simp only[b5,au];exact⟨h1,by simp⟩
  ·rename_i fs k hu;have:∃cs,v=.agg cs∧cs.size=P.cellsOf t∧Row.okWide P w r b0 t cs:=by simp only[Value.okWide,hu]at wg;exact wg
   obtain⟨cs,rfl,_⟩:=this;simp only[b5,au];exact⟨cs,rfl,by simpa[Value.cells] using hr⟩
  ·rename_i fs a b hu;have:∃cs,v=.agg cs∧cs.size=P.cellsOf t∧Row.okWide P w r b0 t cs:=by simp only[Value.okWide,hu]at wg;exact wg
   obtain⟨cs,rfl,_⟩:=this;simp only[b5,au];exact⟨cs,rfl,by simpa[Value.cells] using hr⟩
  ·cases ht
theorem Ol(hb:∀b,b<w.heap.size→w'.heap[b]? = w.heap[b]?){p:MemPlace}(hp:p.block<w.heap.size):w.sameAt w' p:=by
 cases p with
 |cell b off=>exact World.cell?_of_block (a:=⟨b,off,none⟩) (hb b hp)
 |map b=>exact hb b hp
theorem tQ{base:Nat}(hs:∀b,b<w.heap.size→w'.heap[b]? = w.heap[b]?):∀{ts:List TypeId} {vs:List Value} {ds:List (DataW H)} {ps:List MemPlace},(∀p∈ps,p.block<w.heap.size) → DataW.TrodAll ec P w base spare held ts vs ds ps→DataW.TrodAll ec P w' base spare held ts vs ds ps
 |[],[],[],_,_,h=>h
 |_::_,_::_,_::_,_,hp,⟨p,q,⟨n,h1⟩,h2,e⟩=>by subst e;exact⟨p,q,⟨n,DataW.trod_carry n _ _ _ h1 (fun x hx=>Ol hs (hp x (abK _ hx)))⟩,tQ hs (fun x hx=>hp x (abx _ hx)) h2,rfl⟩
theorem KP(Pq:w'.os=w.os)(Kc:w'.output=w.output)(hs:∀b,b<w.heap.size→w'.heap[b]? = w.heap[b]?)(may:MemPlace→Prop):w.keptBut w' may:=by
 refine⟨Pq,Kc,fun i hi=>?_⟩;rw[hs i hi]
 split
 ·rename_i c t fr c' t' fr' h1 h2;rw[h1]at h2;cases h2;exact⟨rfl,rfl,rfl,fun _ _=>rfl⟩
 ·rename_i h1 h2;rw[h1]at h2;cases h2;exact .inr ⟨rfl,rfl⟩
 ·rfl
theorem Iy{f:Func}{s:ChangeSpec}{apart fresh handsOn again:Bool}{W W':World}{args:Array Value}{v:Value}{ds gs:List (DataW H)}{before pa pv:List MemPlace} (hW:DataW.Whole ec P f.params.toList s.vars apart W args.toList ds gs before) (zp:∀(b:Nat) (sp:Nat→Bool) (hd:Bool),DataW.TrodAll ec P W' b sp hd f.resultTypes.toList (v.resultList f.resultTypes.size) (s.fn H (ds++gs)).results []) (iS:∀sp:Nat→Bool,(∀p∈before,sp p.block=true)→DataW.TrodAll ec P W' 0 sp true f.params.toList args.toList (s.fn H (ds++gs)).args pa) (WA:∀sp:Nat→Bool,(∀p∈before,sp p.block=true)→DataW.TrodVars ec P W' sp s.vars (s.fn H (ds++gs)).vars pv) (hps:before=pa++pv) (hk:W.keptBut W' (·∈before)) (hfz:∀p∈before,∀o,W'.frozen? ⟨p.block,o,none⟩=W.frozen? ⟨p.block,o,none⟩) (ki:∀(j:Nat) (t:TypeId) (r:Value),f.resultTypes[j]? = some t→(v.resultList f.resultTypes.size)[j]? = some r→Value.okWide P W' .any 0 t r) :
  s.post ec P f apart fresh handsOn again W args v W':=by
 have hold:∀p∈before,(fun b=>decide (b<W.heap.size)) p.block=true:=fun p hp=>by simpa using hW.lt p hp
 refine⟨ds,gs,before,[],pa,pv,hW,zp _ _ _,iS _ hold,WA _ hold,World.keptBut_mono (fun p hp=>⟨hp,?_⟩) hk,fun _=>?_⟩
 ·rw[hps,List.mem_append]at hp;exact Or.inr hp
 ·obtain⟨_,_,_,_,_,hz,hn⟩:=hW;refine⟨ki,_,_,([]++pa)++pv,⟨[]++pa,pv,trodAll_append (iS _ (fun _ _=>rfl)) (zp _ _ _),WA _ (fun _ _=>rfl),rfl,?_,?_⟩,?_⟩
  ·intro b off hp;have P7:MemPlace.cell b off∈before:=by rw[hps];simpa using hp
   exact(hfz _ P7 off).trans (hz b off P7)
  ·intro ha;have:=hn ha;rw[hps]at this;simpa using this
  ·intro p hp _;rw[hps];simpa using hp
structure WB(w w':World):Prop where
 os:w'.os=w.os
 output:w'.output=w.output
 size:w.heap.size≤w'.heap.size
 block:∀b,b<w.heap.size→w'.heap[b]? = w.heap[b]?
theorem Om{ks:List PK}{x:GR (k0 ks)}{f:FuncId}(hc:Ef P f ⟨ks,[],[.val .bool],none⟩ (x,()) ((true,()),())){args:List Value}(hr:an (Old w) JI gm w (Ec ⟨ks,[],[.val .bool],none⟩ x) args) :
  Calls P (f%1000) args.toArray w fun e w'=>e=.returned (.bool true)∧WB w w':=by
 refine((hc.zero rfl) (Old w) w args (fun _ h=>h) hr).mono fun e w' ⟨v,Z',ψ',h1,_,_,hk,_,h6⟩=>?_;have hv:v=.bool true:=by simpa[eU,aP,b5,au] using h6
 subst hv;exact⟨h1,hk.os,hk.output,hk.size,fun b hb=>hk.block b hb FA⟩
theorem Rz{fn:Func}{s:ChangeSpec}{apart fresh handsOn again:Bool}{tb:TypeId}{W W':World}{args:Array Value}{ds gs:List (DataW H)}{before:List MemPlace} (K:Kids P (·<P.types.size)) (full:∀t e,t<P.types.size→P.underlying t=some (.slice e)→0<P.cellsOf e) (hT:∀t∈fn.params.toList,t<P.types.size) (hrt:fn.resultTypes=#[tb]) (htb:P.underlying tb=some .bool) (hv:s.vars=[]) (hfn:s.fn H ds={ results:=[.lit (.bool true)],args:=ds }) (hW:DataW.Whole ec P fn.params.toList s.vars apart W args.toList ds gs before) (st:WB W W') :
  s.post ec P fn apart fresh handsOn again W args (.bool true) W':=by
 have hW':=hW;obtain⟨p,q,hA,hV,rfl,hfz,zQ⟩:=hW;rw[hv]at hV;obtain⟨rfl,rfl⟩:=trodVars_none hV;have aF:∀x∈p,x.block<W.heap.size:=hA.lt;have hA':=tQ st.block aF hA;refine Iy (pa:=p) (pv:=[]) hW' (fun b sp hd=>?_) (fun sp oz=>?_) (fun sp oz=>?_) (by simp) (KP st.os st.output st.block _) (fun x hx o=>?_) ?_
 ·rw[List.append_nil,hfn,hrt];exact trodAll_cons_mk (shut_bool htb _) trodAll_mk0
 ·rw[List.append_nil,hfn];exact DataW.TrodAll.respare K full hT hA' (fun x hx=>oz x (by simpa using hx))
 ·rw[hv,List.append_nil,hfn];rfl
 ·exact World.frozen?_of_block (a:=⟨x.block,o,none⟩) (st.block _ (aF x (by simpa using hx)))
 ·exact ok_one hrt rfl (okWide_bool_mk htb _)
end Go.Vs
namespace Go.Vs
open Go.Proofs
abbrev NoG:(f:FuncId)→(g:aO)→Option (g.A→Option g.B):=fun _ _=>none
theorem Ga{α:Type}(f:α→Nat):∀{l:List α} {x:α},x∈l→f x≤(l.map f).sum
 |y::r,x,h=>by
  simp only[List.map_cons,List.sum_cons];rcases abw.1 h with rfl|h
  ·omega
  ·have:=Ga f h;omega
theorem Mp{α:Type}(f:α→Nat)(hf:∀x,1≤f x):∀(l:List α),l.length≤(l.map f).sum
 |[]=>by simp
 |y::r=>by have:=Mp f hf r;have:=hf y;simp only[List.map_cons,List.sum_cons,List.length_cons];omega
theorem On(o:aY):o.2.2.2.2.2.2.2.1.size≤eV C4 o:=by show _≤1+((1+1)+((1+1)+((1+1)+(((1+1)+((1+1)+1))+(((1+1)+((1+1)+1))+(1+((o.2.2.2.2.2.2.2.1.size+1)+1)))))));omega
theorem Iz{l:List (List aY)}{m:Nat}(hb:eV (.sl rv) l≤m):l.length≤m∧∀e∈l,∀o∈e,o.2.2.2.2.2.2.2.1.size≤m:=by
 have h1:eV (.sl rv) l=(l.map fun e=>(e.map (eV C4)).sum+1).sum+1:=rfl;rw[h1]at hb;refine⟨?_,fun e he o ho=>?_⟩
 ·have:=Mp (fun e:List aY=>(e.map (eV C4)).sum+1) (fun _=>by omega) l;omega
 ·have h2:=Ga (fun e:List aY=>(e.map (eV C4)).sum+1) he;have h3:=Ga (eV C4) ho;have h4:=On o;omega
end Go.Vs
namespace Go.Proofs.YtpkfpbpbkabkdaaGreat
open Go.Vs Go.ChangeShapes Go.WideShapes Go.ChangeAt Go.RowKit
theorem own:ownKnob Tryz.prog.godebug=none:=by kernel_rfl
theorem kids:Kids Tryz.prog (·<Tryz.prog.types.size):=kids_rows (by kernel_rfl) (by kernel_rfl)
theorem full:∀t e,t<Tryz.prog.types.size→Tryz.prog.underlying t=some (.slice e)→0<Tryz.prog.cellsOf e:=slices_full_of Tryz.prog (by kernel_rfl)
end Go.Proofs.YtpkfpbpbkabkdaaGreat
