/- From the readings of a law's -/
import Derived.Test.YtoleelddkocpkaaGreatRows
import Derived.Test.YtoleelddkocpkaaGreatSpecials
import Derived.Test.YtoleelddkocpkaaGreatRefB
import Derived.Deep.Slices
import Derived.OpenShut
import Derived.ProofKit
import Derived.JoinedCond
set_option linter.unusedVariables false
set_option linter.unusedSimpArgs false
namespace Go.Vs
open Go.Proofs Go.Deep Go.ChangeShapes Go.WideShapes
def zp(P:Program)(g:TypeId→K→Bool):List Field→Nat→K→Bool
 |[],_,_=>false
 |[f],off,k=>decide (f.offset=off)&&(decide (P.cellsOf f.type=k.sz)&&g f.type k)
 |f::f'::r,off,.pair a b=>decide (f.offset=off)&&(decide (P.cellsOf f.type=a.sz)&&(g f.type a&&zp P g (f'::r) (off+a.sz) b))
 |_,_,_=>false
def WA(P:Program):Nat→TypeId→K→Bool
 |0,_,_=>false
 |d+1,t,k =>
  match P.underlying t,k with
  |some (.int a),.int b=>decide (a=b)
  |some .bool,.bool=>true
  |some .string,.str=>true
  |some (.slice e),.sl k=>decide (P.cellsOf e=k.sz)&&WA P d e k
  |some (.struct fs),.one k=>decide (P.cellsOf t=k.sz)&&zp P (WA P d) fs.toList 0 k
  |some (.struct fs),.pair a b=>decide (P.cellsOf t=a.sz+b.sz)&&zp P (WA P d) fs.toList 0 (.pair a b)
  |some (.array n e),.pair a b=>decide (n=2)&&(decide (P.cellsOf e=a.sz)&&(decide (a.sz=b.sz)&&(decide (P.cellsOf t=a.sz+b.sz)&&(WA P d e a&&WA P d e b))))
  |_,_=>false
def cf:(k:K)→k.T→Nat
 |.int _,_=>1
 |.bool,_=>1
 |.str,s=>s.size+1
 |.sl k,xs=>(xs.map (cf k)).sum+1
 |.pair a b,x=>cf a x.1+cf b x.2
 |.one k,x=>cf k x
 |.mp _ _,_=>0
 |.fn _,_=>0
def QF:(k:K)→k.T→Prop
 |.int k,n=>k.min≤(show Int from n)∧(show Int from n)≤k.max
 |.bool,_=>True
 |.str,_=>True
 |.sl k,xs=>∀x∈(show List k.T from xs),QF k x
 |.pair a b,x=>QF a x.1∧QF b x.2
 |.one k,x=>QF k x
 |.mp _ _,_=>True
 |.fn _,_=>True
open Go.Proofs.YtoleelddkocpkaaGreat (Rows.uptoBulk Rows.uptoBulkAll)
theorem QG{α H:Type}(b:α→Nat):∀(ds:List (DataW H)) (p:Nat→α→Prop),(∀i (h:i<ds.length),∃y,p i y∧b y≤Rows.uptoBulk ds[i]) → ∃ys:List α,ys.length=ds.length∧(∀i y,ys[i]? = some y→p i y)∧(ys.map b).sum≤Rows.uptoBulkAll ds
 |[],p,_=>⟨[],rfl,fun i y h=>by simp at h,by simp⟩
 |d::r,p,h=>by
  obtain⟨y,h1,h2⟩:=h 0 (by simp);obtain⟨ys,h3,h4,h5⟩:=QG b r (fun i=>p (i+1)) (fun i hi=>h (i+1) (by simpa using hi));refine⟨y::ys,by simp[h3],fun i z hz=>?_,?_⟩
  ·cases i with
   |zero=>simp at hz;subst hz;exact h1
   |succ i=>exact h4 i z (by simpa using hz)
  ·simp only[List.map_cons,List.sum_cons,Rows.uptoBulkAll];simp at h2;omega
variable {H:Type} {enc:TypeId×Value→H} {P:Program} {w:World} {spare:Nat→Bool} {held:Bool}
abbrev Old(w:World):Nat→Prop:=fun b=>b<w.heap.size
theorem O0{g:TypeId→K→Bool}{n:Nat}(hg:∀t k,g t k=true→∀(cs:List Value) (x:DataW H×List MemPlace),DataW.trod enc P w 0 spare held n t cs=some x→∃y:k.T,aL (Old w) w k y cs∧QF k y∧cf k y≤Rows.uptoBulk x.1) :
  ∀(fs:List Field) (off:Nat) (k:K),zp P g fs off k=true→∀(cs:List Value) (xs:List (DataW H×List MemPlace)),xs.length=fs.length →(∀(i:Nat) (f:Field),fs[i]? = some f→DataW.trod enc P w 0 spare held n f.type ((cs.drop f.offset).take (P.cellsOf f.type))=xs[i]?)→∃y:k.T,aL (Old w) w k y ((cs.drop off).take k.sz)∧QF k y∧cf k y≤Rows.uptoBulkAll (xs.map (·.1))
 |[],_,_,h,_,_,_,_=>by simp[zp]at h
 |[f],off,k,h,cs,xs,hl,hx=>by
  have h':f.offset=off∧P.cellsOf f.type=k.sz∧g f.type k=true:=by cases k<;>simpa[zp] using h
  obtain⟨h1,h2,h3⟩:=h'
  match xs,hl with
  |[x],_ =>
  have Wq:=hx 0 f rfl;rw[h1,h2]at Wq;obtain⟨y,Gu,YS,hy3⟩:=hg _ _ h3 _ x Wq;exact⟨y,Gu,YS,by simp[Rows.uptoBulkAll];exact hy3⟩
 |f::f'::r,off,.pair a b,h,cs,xs,hl,hx=>by
  simp only[zp,Bool.and_eq_true,decide_eq_true_eq]at h;obtain⟨h1,h2,h3,h4⟩:=h
  match xs,hl with
  |x::xs',hl =>
  have Wq:=hx 0 f rfl;rw[h1,h2]at Wq;obtain⟨y,Gu,YS,hy3⟩:=hg _ _ h3 _ x Wq;obtain⟨z,Ae,CQ,P0⟩:=O0 hg (f'::r) (off+a.sz) b h4 cs xs' (by simpa using hl) (fun i q hq=>hx (i+1) q (by simpa using hq));refine⟨(y,z),?_,⟨YS,CQ⟩,?_⟩
  ·simp only[aL];refine⟨_,_,?_,Gu,Ae⟩;simp only[K.sz];rw[←List.drop_drop,List.take_add]
  ·simp only[cf,List.map_cons,Rows.uptoBulkAll];omega
 |f::f'::r,off,.int _,h,_,_,_,_=>by simp[zp]at h
 |f::f'::r,off,.bool,h,_,_,_,_=>by simp[zp]at h
 |f::f'::r,off,.str,h,_,_,_,_=>by simp[zp]at h
 |f::f'::r,off,.sl _,h,_,_,_,_=>by simp[zp]at h
 |f::f'::r,off,.one _,h,_,_,_,_=>by simp[zp]at h
 |f::f'::r,off,.mp _ _,h,_,_,_,_=>by simp[zp]at h
 |f::f'::r,off,.fn _,h,_,_,_,_=>by simp[zp]at h
theorem qE:∀(d:Nat) (t:TypeId) (k:K),WA P d t k=true→∀(fuel:Nat) (cs:List Value) (x:DataW H×List MemPlace),DataW.trod enc P w 0 spare held fuel t cs=some x → ∃y:k.T,aL (Old w) w k y cs∧QF k y∧cf k y≤Rows.uptoBulk x.1
 |0,_,_,h,_,_,_,_=>by simp[WA]at h
 |d+1,t,k,h,0,cs,x,hx=>by simp[DataW.trod]at hx
 |d+1,t,k,h,fuel+1,cs,x,hx=>by
  unfold WA at h
  split at h
  ·rename_i a b hu;simp only[decide_eq_true_eq]at h;subst h;obtain⟨n,rfl,rfl,hw⟩:=DataW.trod_int hu hx;exact⟨n,by simp only[aL],by unfold Lit.wf at hw;simp only[Bool.and_eq_true,decide_eq_true_eq]at hw;exact hw,by simp[cf,Rows.uptoBulk]⟩
  ·rename_i hu;obtain⟨b,rfl,rfl⟩:=DataW.trod_bool hu hx;exact⟨b,by simp only[aL],trivial,by simp[cf,Rows.uptoBulk]⟩
  ·rename_i hu;obtain⟨b,rfl,rfl,_⟩:=DataW.trod_string hu hx;exact⟨b,by simp only[aL],trivial,abX _⟩
  ·rename_i e k hu;simp only[Bool.and_eq_true,decide_eq_true_eq]at h;obtain⟨hc,hk⟩:=h;rcases open_slice hu hx with⟨rfl,rfl⟩|⟨a,len,cap,m,n,D,Pl,rfl,hb,hl,hm,hmm,rfl,uX⟩
   ·refine⟨[],?_,by simp[QF],by simp[cf,Rows.uptoBulk]⟩;simp only[aL];exact⟨_,rfl,none,0,rfl,abX _,fun _=>rfl,fun i x hx=>by simp at hx⟩
   ·have hlm:len≤m:=by rw[hmm];split<;>omega
    obtain⟨ys,h1,h2,h3⟩:=QG (α:=k.T) (cf k) ((List.range len).map D) (fun i y=>QF k y∧∃us,aL (Old w) w k y us∧a.block<w.heap.size∧∀(j:Nat) u,us[j]? = some u→w.cell? (a.add (i*k.sz+j))=some u) (fun i hi=>by
     have xe:i<len:=by simpa using hi
     obtain⟨cs',h4,h5⟩:=uX i (by omega);obtain⟨y,Gu,YS,hy3⟩:=qE d e k hk n cs' _ h5;obtain⟨_,h6,h7⟩:=World.cells?_some h4;rw[hc]at h6 h7;refine⟨y,⟨YS,cs',Gu,?_,fun j u hu=>?_⟩,by simpa using hy3⟩
     ·have h8:=h7 0 k.iv;rw[List.getElem?_eq_getElem (by have:=k.iv;omega)]at h8;rw[Hu]at h8;have h9:(a.add (i*k.sz)).block<w.heap.size:=by
       unfold World.cell? at h8;refine Classical.byContradiction fun GM=>?_;rw[Array.getElem?_eq_none (by omega)]at h8
       cases h8
      rwa [fV]at h9
     ·have hj:j<k.sz:=by have:=(abp.1 hu).1;omega
      rw[←ye,←hu];exact h7 j hj)
    have hlen:ys.length=len:=by simpa using h1
    refine⟨ys,?_,fun y hy=>?_,?_⟩
    ·simp only[aL];refine⟨_,rfl,some a,cap,by rw[hlen],by omega,fun h=>(by cases h),fun i y hy=>?_⟩;obtain⟨_,us,h8,h9,q6⟩:=h2 i y hy;exact⟨a,us,rfl,h9,h8,q6⟩
    ·obtain⟨i,hi⟩:=aeo hy;exact(h2 i y hi).1
    ·simp only[cf,Rows.uptoBulk];omega
  ·rename_i fs k hu;simp only[Bool.and_eq_true,decide_eq_true_eq]at h;obtain⟨hc,hk⟩:=h;obtain⟨xs,n,_,rfl,hl,hn,BJ⟩:=DataW.trod_struct hu hx;obtain⟨y,h1,h2,h3⟩:=O0 (fun t k hk cs x h=>qE d t k hk n cs x h) fs.toList 0 k hk cs xs (by simpa using hn) (fun i f hf=>BJ i f (by simpa using hf));refine⟨y,?_,h2,by simp only[cf,Rows.uptoBulk];omega⟩;simp only[aL]
   rwa [List.drop_zero,List.take_of_length_le (by omega)]at h1
  ·rename_i fs a b hu;simp only[Bool.and_eq_true,decide_eq_true_eq]at h;obtain⟨hc,hk⟩:=h;obtain⟨xs,n,_,rfl,hl,hn,BJ⟩:=DataW.trod_struct hu hx;obtain⟨y,h1,h2,h3⟩:=O0 (fun t k hk cs x h=>qE d t k hk n cs x h) fs.toList 0 (.pair a b) hk cs xs (by simpa using hn) (fun i f hf=>BJ i f (by simpa using hf));refine⟨y,?_,h2,by simp only[Rows.uptoBulk];omega⟩
   rwa [List.drop_zero,List.take_of_length_le (by simp only[K.sz];omega)]at h1
  ·rename_i n e a b hu;simp only[Bool.and_eq_true,decide_eq_true_eq]at h;obtain⟨hn2,hca,Fc,hct,ha,hb⟩:=h;obtain⟨xs,m,_,rfl,hl,vR,BJ⟩:=DataW.trod_array hu hx;subst hn2
   match xs,vR with
   |[x0,x1],_ =>
   have h0:=BJ 0 (by omega);have h1:=BJ 1 (by omega);obtain⟨y,Gu,YS,hy3⟩:=qE d e a ha m _ x0 h0;obtain⟨z,Ae,CQ,P0⟩:=qE d e b hb m _ x1 h1;refine⟨(y,z),?_,⟨YS,CQ⟩,by simp only[cf,Rows.uptoBulk,Rows.uptoBulkAll,List.map_cons,List.map_nil];omega⟩;simp only[aL];refine⟨_,_,?_,Gu,Ae⟩;rw[Nat.zero_mul,Nat.one_mul,List.drop_zero,hca];have e2:(cs.drop a.sz).take a.sz=cs.drop a.sz:=List.take_of_length_le (by rw[List.length_drop];omega);rw[e2,List.take_append_drop]
  ·cases h
end Go.Vs
namespace Go.Vs
open Go.Proofs Go.Deep Go.ChangeShapes Go.WideShapes Go.ChangeAt Go.RowKit
open Go.Proofs.YtoleelddkocpkaaGreat (Rows.uptoBulk Rows.uptoBulkAll)
variable {H:Type} {ec:TypeId×Value→H} {P:Program} {w w':World} {spare:Nat→Bool} {held:Bool}
theorem Fi{d:Nat}{t:TypeId}{k:K}(ht:WA P d t k=true){r:_root_.Go.Reach}{b0:Nat}{v:Value}(uj:Value.okWide P w r b0 t v){x:DataW H}{ps:List MemPlace}(hd:DataW.Trod ec P w 0 spare held t v x ps) :
  ∃y:k.T,aD (Old w) NI iA w (cp k y) v∧QF k y∧cf k y≤Rows.uptoBulk x:=by
 obtain⟨fuel,hf⟩:=hd;obtain⟨y,h1,h2,h3⟩:=qE d t k ht fuel _ _ hf;refine⟨y,?_,h2,h3⟩;have hr:az (Old w) NI iA w (enc k y) v.cells.toList:=iH h1
 cases d with
 |zero=>simp[WA]at ht
 |succ d =>
  unfold WA at ht
  split at ht
  ·rename_i hu;obtain⟨n,rfl⟩:=okWide_int hu uj;simp only[Value.cells,aL,List.cons.injEq,and_true]at h1;simp only[cp,aD];exact h1
  ·rename_i hu;obtain⟨b,rfl⟩:=okWide_bool hu uj;simp only[Value.cells,aL,List.cons.injEq,and_true]at h1;simp only[cp,aD];exact h1
  ·rename_i hu;obtain⟨b,rfl⟩:=okWide_string hu uj;simp only[Value.cells,aL,List.cons.injEq,and_true]at h1;simp only[cp,aD];exact h1
  ·rename_i hu;obtain⟨a,len,cap,rfl⟩:=okWide_slice hu uj;simp only[cp,aD];exact⟨h1,by simp⟩
  ·rename_i fs k hu;have:∃cs,v=.agg cs∧cs.size=P.cellsOf t∧Row.okWide P w r b0 t cs:=by simp only[Value.okWide,hu]at uj;exact uj
   obtain⟨cs,rfl,_⟩:=this;simp only[cp,aD];exact⟨cs,rfl,by simpa[Value.cells] using hr⟩
  ·rename_i fs a b hu;have:∃cs,v=.agg cs∧cs.size=P.cellsOf t∧Row.okWide P w r b0 t cs:=by simp only[Value.okWide,hu]at uj;exact uj
   obtain⟨cs,rfl,_⟩:=this;simp only[cp,aD];exact⟨cs,rfl,by simpa[Value.cells] using hr⟩
  ·rename_i n e a b hu;have:∃cs,v=.agg cs∧cs.size=P.cellsOf t∧Row.okWide P w r b0 t cs:=by simp only[Value.okWide,hu]at uj;exact uj
   obtain⟨cs,rfl,_⟩:=this;simp only[cp,aD];exact⟨cs,rfl,by simpa[Value.cells] using hr⟩
  ·cases ht
theorem S5(hb:∀b,b<w.heap.size→w'.heap[b]? = w.heap[b]?){p:MemPlace}(hp:p.block<w.heap.size):w.sameAt w' p:=by
 cases p with
 |cell b off=>exact World.cell?_of_block (a:=⟨b,off,none⟩) (hb b hp)
 |map b=>exact hb b hp
theorem wJ{base:Nat}(hs:∀b,b<w.heap.size→w'.heap[b]? = w.heap[b]?):∀{ts:List TypeId} {vs:List Value} {ds:List (DataW H)} {ps:List MemPlace},(∀p∈ps,p.block<w.heap.size) → DataW.TrodAll ec P w base spare held ts vs ds ps→DataW.TrodAll ec P w' base spare held ts vs ds ps
 |[],[],[],_,_,h=>h
 |_::_,_::_,_::_,_,hp,⟨p,q,⟨n,h1⟩,h2,e⟩=>by subst e;exact⟨p,q,⟨n,DataW.trod_carry n _ _ _ h1 (fun x hx=>S5 hs (hp x (abr _ hx)))⟩,wJ hs (fun x hx=>hp x (abw _ hx)) h2,rfl⟩
theorem O2(hos:w'.os=w.os)(Og:w'.output=w.output)(hs:∀b,b<w.heap.size→w'.heap[b]? = w.heap[b]?)(may:MemPlace→Prop):w.keptBut w' may:=by
 refine⟨hos,Og,fun i hi=>?_⟩
 grind
theorem Mu{f:Func}{s:ChangeSpec}{apart fresh handsOn again:Bool}{W W':World}{args:Array Value}{v:Value}{ds gs:List (DataW H)}{before pa pv:List MemPlace} (hW:DataW.Whole ec P f.params.toList s.vars apart W args.toList ds gs before) (Cz:∀(b:Nat) (sp:Nat→Bool) (hd:Bool),DataW.TrodAll ec P W' b sp hd f.resultTypes.toList (v.resultList f.resultTypes.size) (s.fn H (ds++gs)).results []) (jQ:∀sp:Nat→Bool,(∀p∈before,sp p.block=true)→DataW.TrodAll ec P W' 0 sp true f.params.toList args.toList (s.fn H (ds++gs)).args pa) (abF:∀sp:Nat→Bool,(∀p∈before,sp p.block=true)→DataW.TrodVars ec P W' sp s.vars (s.fn H (ds++gs)).vars pv) (hps:before=pa++pv) (hk:W.keptBut W' (·∈before)) (hfz:∀p∈before,∀o,W'.frozen? ⟨p.block,o,none⟩=W.frozen? ⟨p.block,o,none⟩) (ly:∀(j:Nat) (t:TypeId) (r:Value),f.resultTypes[j]? = some t→(v.resultList f.resultTypes.size)[j]? = some r→Value.okWide P W' .any 0 t r) :
  s.post ec P f apart fresh handsOn again W args v W':=by
 have hold:∀p∈before,(fun b=>decide (b<W.heap.size)) p.block=true:=fun p hp=>by simpa using hW.lt p hp
 refine⟨ds,gs,before,[],pa,pv,hW,Cz _ _ _,jQ _ hold,abF _ hold,World.keptBut_mono (fun p hp=>⟨hp,?_⟩) hk,fun _=>?_⟩
 ·simp_all
 ·obtain⟨_,_,_,_,_,hz,hn⟩:=hW;refine⟨ly,_,_,([]++pa)++pv,⟨[]++pa,pv,trodAll_append (jQ _ (fun _ _=>rfl)) (Cz _ _ _),abF _ (fun _ _=>rfl),rfl,?_,?_⟩,?_⟩
  ·intro b off hp;have UH:MemPlace.cell b off∈before:=by simp_all
   exact(hfz _ UH off).trans (hz b off UH)
  ·simp_all
  simp_all
structure abG(w w':World):Prop where
 os:w'.os=w.os
 output:w'.output=w.output
 size:w.heap.size≤w'.heap.size
 block:∀b,b<w.heap.size→w'.heap[b]? = w.heap[b]?
theorem S6{ks:List PK}{x:KR (mj ks)}{f:FuncId}(hc:HM P f ⟨ks,[],[.val .bool],none⟩ (x,()) ((true,()),())){args:List Value}(hr:az (Old w) NI iA w (HJ ⟨ks,[],[.val .bool],none⟩ x) args) :
  Calls P (f%1000) args.toArray w fun e w'=>e=.returned (.bool true)∧abG w w':=by
 refine((hc.zero rfl) (Old w) w args (fun _ h=>h) hr).mono fun e w' ⟨v,Z',ψ',h1,_,_,hk,_,h6⟩=>?_;have hv:v=.bool true:=by grind [fP,aY,cp,aD]
 subst hv;exact⟨h1,hk.os,hk.output,hk.size,fun b hb=>hk.block b hb Jq⟩
theorem WB{fn:Func}{s:ChangeSpec}{apart fresh handsOn again:Bool}{tb:TypeId}{W W':World}{args:Array Value}{ds gs:List (DataW H)}{before:List MemPlace} (K:Kids P (·<P.types.size)) (full:∀t e,t<P.types.size→P.underlying t=some (.slice e)→0<P.cellsOf e) (hT:∀t∈fn.params.toList,t<P.types.size) (hrt:fn.resultTypes=#[tb]) (htb:P.underlying tb=some .bool) (hv:s.vars=[]) (hfn:s.fn H ds={ results:=[.lit (.bool true)],args:=ds }) (hW:DataW.Whole ec P fn.params.toList s.vars apart W args.toList ds gs before) (st:abG W W') :
  s.post ec P fn apart fresh handsOn again W args (.bool true) W':=by
 have hW':=hW;obtain⟨p,q,hA,hV,rfl,hfz,GL⟩:=hW;rw[hv]at hV;obtain⟨rfl,rfl⟩:=trodVars_none hV;have aG:∀x∈p,x.block<W.heap.size:=hA.lt;have hA':=wJ st.block aG hA;refine Mu (pa:=p) (pv:=[]) hW' (fun b sp hd=>?_) (fun sp rL=>?_) (fun sp rL=>?_) (by simp) (O2 st.os st.output st.block _) (fun x hx o=>?_) ?_
 ·rw[List.append_nil,hfn,hrt];exact trodAll_cons_mk (shut_bool htb _) trodAll_mk0
 ·rw[List.append_nil,hfn];exact DataW.TrodAll.respare K full hT hA' (fun x hx=>rL x (by simpa using hx))
 ·rw[hv,List.append_nil,hfn];rfl
 ·exact World.frozen?_of_block (a:=⟨x.block,o,none⟩) (st.block _ (aG x (by simpa using hx)))
 ·exact ok_one hrt rfl (okWide_bool_mk htb _)
end Go.Vs
namespace Go.Vs
open Go.Proofs
abbrev NoG:(f:FuncId)→(g:aO)→Option (g.A→Option g.B):=fun _ _=>none
theorem J7{α:Type}(f:α→Nat):∀{l:List α} {x:α},x∈l→f x≤(l.map f).sum
 |y::r,x,h=>by
  simp only[List.map_cons,List.sum_cons];rcases abq.1 h with rfl|h
  ·omega
  ·have:=J7 f h;omega
theorem zq{α:Type}(f:α→Nat)(hf:∀x,1≤f x):∀(l:List α),l.length≤(l.map f).sum
 |[]=>by simp
 |y::r=>by have:=zq f hf r;have:=hf y;simp only[List.map_cons,List.sum_cons,List.length_cons];omega
end Go.Vs
namespace Go.Proofs.YtoleelddkocpkaaGreat
open Go.Vs Go.ChangeShapes Go.WideShapes Go.ChangeAt Go.RowKit
theorem own:ownKnob Tryz.prog.godebug=none:=by kernel_rfl
theorem kids:Kids Tryz.prog (·<Tryz.prog.types.size):=kids_rows (by kernel_rfl) (by kernel_rfl)
theorem full:∀t e,t<Tryz.prog.types.size→Tryz.prog.underlying t=some (.slice e)→0<Tryz.prog.cellsOf e:=slices_full_of Tryz.prog (by kernel_rfl)
end Go.Proofs.YtoleelddkocpkaaGreat
