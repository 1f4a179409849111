/- From the readings of a law's -/
import Derived.Test.YtoleelddkocpkaaGreatRows
import Derived.Test.YtoleelddkocpkaaGreatSpecials
import Derived.Test.YtoleelddkocpkaaGreatRefB
import Derived.Deep.Slices
import Derived.OpenShut
import Derived.ProofKit
import Derived.JoinedCond
set_option linter.unusedVariables false
set_option linter.unusedSimpArgs false
namespace Go.Vs
open Go.Proofs Go.Deep Go.ChangeShapes Go.WideShapes
def xY(P:Program)(g:TypeId→K→Bool):List Field→Nat→K→Bool
 |[],_,_=>false
 |[f],off,k=>decide (f.offset=off)&&(decide (P.cellsOf f.type=k.sz)&&g f.type k)
 |f::f'::r,off,.pair a b=>decide (f.offset=off)&&(decide (P.cellsOf f.type=a.sz)&&(g f.type a&&xY P g (f'::r) (off+a.sz) b))
 |_,_,_=>false
def VJ(P:Program):Nat→TypeId→K→Bool
 |0,_,_=>false
 |d+1,t,k =>
  match P.underlying t,k with
  |some (.int a),.int b=>decide (a=b)
  |some .bool,.bool=>true
  |some .string,.str=>true
  |some (.slice e),.sl k=>decide (P.cellsOf e=k.sz)&&VJ P d e k
  |some (.struct fs),.one k=>decide (P.cellsOf t=k.sz)&&xY P (VJ P d) fs.toList 0 k
  |some (.struct fs),.pair a b=>decide (P.cellsOf t=a.sz+b.sz)&&xY P (VJ P d) fs.toList 0 (.pair a b)
  |some (.array n e),.pair a b=>decide (n=2)&&(decide (P.cellsOf e=a.sz)&&(decide (a.sz=b.sz)&&(decide (P.cellsOf t=a.sz+b.sz)&&(VJ P d e a&&VJ P d e b))))
  |_,_=>false
def dF:(k:K)→k.T→Nat
 |.int _,_=>1
 |.bool,_=>1
 |.str,s=>s.size+1
 |.sl k,xs=>(xs.map (dF k)).sum+1
 |.pair a b,x=>dF a x.1+dF b x.2
 |.one k,x=>dF k x
 |.mp _ _,_=>0
 |.fn _,_=>0
def Ls:(k:K)→k.T→Prop
 |.int k,n=>k.min≤(show Int from n)∧(show Int from n)≤k.max
 |.bool,_=>True
 |.str,_=>True
 |.sl k,xs=>∀x∈(show List k.T from xs),Ls k x
 |.pair a b,x=>Ls a x.1∧Ls b x.2
 |.one k,x=>Ls k x
 |.mp _ _,_=>True
 |.fn _,_=>True
open Go.Proofs.YtoleelddkocpkaaGreat (Rows.uptoBulk Rows.uptoBulkAll)
theorem PB{α H:Type}(b:α→Nat):∀(ds:List (DataW H)) (p:Nat→α→Prop),(∀i (h:i<ds.length),∃y,p i y∧b y≤Rows.uptoBulk ds[i]) → ∃ys:List α,ys.length=ds.length∧(∀i y,ys[i]? = some y→p i y)∧(ys.map b).sum≤Rows.uptoBulkAll ds
 |[],p,_=>⟨[],rfl,fun i y h=>by simp at h,by simp⟩
 |d::r,p,h=>by
  obtain⟨y,h1,h2⟩:=h 0 (by simp);obtain⟨ys,h3,h4,h5⟩:=PB b r (fun i=>p (i+1)) (fun i hi=>h (i+1) (by simpa using hi));refine⟨y::ys,by simp[h3],fun i z hz=>?_,?_⟩
  ·cases i with
   |zero=>simp at hz;subst hz;exact h1
   |succ i=>exact h4 i z (by simpa using hz)
  ·simp only[List.map_cons,List.sum_cons,Rows.uptoBulkAll];simp at h2;omega
variable {H:Type} {enc:TypeId×Value→H} {P:Program} {w:World} {spare:Nat→Bool} {held:Bool}
abbrev Old(w:World):Nat→Prop:=fun b=>b<w.heap.size
theorem NK{g:TypeId→K→Bool}{n:Nat}(hg:∀t k,g t k=true→∀(cs:List Value) (x:DataW H×List MemPlace),DataW.trod enc P w 0 spare held n t cs=some x→∃y:k.T,aJ (Old w) w k y cs∧Ls k y∧dF k y≤Rows.uptoBulk x.1) :
  ∀(fs:List Field) (off:Nat) (k:K),xY P g fs off k=true→∀(cs:List Value) (xs:List (DataW H×List MemPlace)),xs.length=fs.length →(∀(i:Nat) (f:Field),fs[i]? = some f→DataW.trod enc P w 0 spare held n f.type ((cs.drop f.offset).take (P.cellsOf f.type))=xs[i]?)→∃y:k.T,aJ (Old w) w k y ((cs.drop off).take k.sz)∧Ls k y∧dF k y≤Rows.uptoBulkAll (xs.map (·.1))
 |[],_,_,h,_,_,_,_=>by simp[xY]at h
 |[f],off,k,h,cs,xs,hl,hx=>by
  have h':f.offset=off∧P.cellsOf f.type=k.sz∧g f.type k=true:=by cases k<;>simpa[xY] using h
  obtain⟨h1,h2,h3⟩:=h'
  match xs,hl with
  |[x],_ =>
  have Vy:=hx 0 f rfl;rw[h1,h2]at Vy;obtain⟨y,XZ,X0,hy3⟩:=hg _ _ h3 _ x Vy;exact⟨y,XZ,X0,by simp[Rows.uptoBulkAll];exact hy3⟩
 |f::f'::r,off,.pair a b,h,cs,xs,hl,hx=>by
  simp only[xY,Bool.and_eq_true,decide_eq_true_eq]at h;obtain⟨h1,h2,h3,h4⟩:=h
  match xs,hl with
  |x::xs',hl =>
  have Vy:=hx 0 f rfl;rw[h1,h2]at Vy;obtain⟨y,XZ,X0,hy3⟩:=hg _ _ h3 _ x Vy;obtain⟨z,yC,BJ,ON⟩:=NK hg (f'::r) (off+a.sz) b h4 cs xs' (by simpa using hl) (fun i q hq=>hx (i+1) q (by simpa using hq));refine⟨(y,z),?_,⟨X0,BJ⟩,?_⟩
  ·simp only[aJ];refine⟨_,_,?_,XZ,yC⟩;simp only[K.sz];rw[←List.drop_drop,List.take_add]
  ·simp only[dF,List.map_cons,Rows.uptoBulkAll];omega
 |f::f'::r,off,.int _,h,_,_,_,_=>by simp[xY]at h
 |f::f'::r,off,.bool,h,_,_,_,_=>by simp[xY]at h
 |f::f'::r,off,.str,h,_,_,_,_=>by simp[xY]at h
 |f::f'::r,off,.sl _,h,_,_,_,_=>by simp[xY]at h
 |f::f'::r,off,.one _,h,_,_,_,_=>by simp[xY]at h
 |f::f'::r,off,.mp _ _,h,_,_,_,_=>by simp[xY]at h
 |f::f'::r,off,.fn _,h,_,_,_,_=>by simp[xY]at h
theorem pW:∀(d:Nat) (t:TypeId) (k:K),VJ P d t k=true→∀(fuel:Nat) (cs:List Value) (x:DataW H×List MemPlace),DataW.trod enc P w 0 spare held fuel t cs=some x → ∃y:k.T,aJ (Old w) w k y cs∧Ls k y∧dF k y≤Rows.uptoBulk x.1
 |0,_,_,h,_,_,_,_=>by simp[VJ]at h
 |d+1,t,k,h,0,cs,x,hx=>by simp[DataW.trod]at hx
 |d+1,t,k,h,fuel+1,cs,x,hx=>by
  unfold VJ at h
  split at h
  ·rename_i a b hu;simp only[decide_eq_true_eq]at h;subst h;obtain⟨n,rfl,rfl,hw⟩:=DataW.trod_int hu hx;exact⟨n,by simp only[aJ],by unfold Lit.wf at hw;simp only[Bool.and_eq_true,decide_eq_true_eq]at hw;exact hw,by simp[dF,Rows.uptoBulk]⟩
  ·rename_i hu;obtain⟨b,rfl,rfl⟩:=DataW.trod_bool hu hx;exact⟨b,by simp only[aJ],trivial,by simp[dF,Rows.uptoBulk]⟩
  ·rename_i hu;obtain⟨b,rfl,rfl,_⟩:=DataW.trod_string hu hx;exact⟨b,by simp only[aJ],trivial,acf _⟩
  ·rename_i e k hu;simp only[Bool.and_eq_true,decide_eq_true_eq]at h;obtain⟨hc,hk⟩:=h;rcases open_slice hu hx with⟨rfl,rfl⟩|⟨a,len,cap,m,n,D,Pl,rfl,hb,hl,hm,hmm,rfl,vl⟩
   ·refine⟨[],?_,by simp[Ls],by simp[dF,Rows.uptoBulk]⟩;simp only[aJ];exact⟨_,rfl,none,0,rfl,acf _,fun _=>rfl,fun i x hx=>by simp at hx⟩
   ·have hlm:len≤m:=by rw[hmm];split<;>omega
    obtain⟨ys,h1,h2,h3⟩:=PB (α:=k.T) (dF k) ((List.range len).map D) (fun i y=>Ls k y∧∃us,aJ (Old w) w k y us∧a.block<w.heap.size∧∀(j:Nat) u,us[j]? = some u→w.cell? (a.add (i*k.sz+j))=some u) (fun i hi=>by
     have yz:i<len:=by simpa using hi
     obtain⟨cs',h4,h5⟩:=vl i (by omega);obtain⟨y,XZ,X0,hy3⟩:=pW d e k hk n cs' _ h5;obtain⟨_,h6,h7⟩:=World.cells?_some h4;rw[hc]at h6 h7;refine⟨y,⟨X0,cs',XZ,?_,fun j u hu=>?_⟩,by simpa using hy3⟩
     ·have h8:=h7 0 k.gQ;rw[List.getElem?_eq_getElem (by have:=k.gQ;omega)]at h8;rw[Gl]at h8;have h9:(a.add (i*k.sz)).block<w.heap.size:=by
       unfold World.cell? at h8;refine Classical.byContradiction fun Fs=>?_;rw[Array.getElem?_eq_none (by omega)]at h8
       cases h8
      rwa [fP]at h9
     ·have hj:j<k.sz:=by have:=(abC.1 hu).1;omega
      rw[←wV,←hu];exact h7 j hj)
    have hlen:ys.length=len:=by simpa using h1
    refine⟨ys,?_,fun y hy=>?_,?_⟩
    ·simp only[aJ];refine⟨_,rfl,some a,cap,by rw[hlen],by omega,fun h=>(by cases h),fun i y hy=>?_⟩;obtain⟨_,us,h8,h9,qq⟩:=h2 i y hy;exact⟨a,us,rfl,h9,h8,qq⟩
    ·obtain⟨i,hi⟩:=adC hy;exact(h2 i y hi).1
    ·simp only[dF,Rows.uptoBulk];omega
  ·rename_i fs k hu;simp only[Bool.and_eq_true,decide_eq_true_eq]at h;obtain⟨hc,hk⟩:=h;obtain⟨xs,n,_,rfl,hl,hn,Ax⟩:=DataW.trod_struct hu hx;obtain⟨y,h1,h2,h3⟩:=NK (fun t k hk cs x h=>pW d t k hk n cs x h) fs.toList 0 k hk cs xs (by simpa using hn) (fun i f hf=>Ax i f (by simpa using hf));refine⟨y,?_,h2,by simp only[dF,Rows.uptoBulk];omega⟩;simp only[aJ]
   rwa [List.drop_zero,List.take_of_length_le (by omega)]at h1
  ·rename_i fs a b hu;simp only[Bool.and_eq_true,decide_eq_true_eq]at h;obtain⟨hc,hk⟩:=h;obtain⟨xs,n,_,rfl,hl,hn,Ax⟩:=DataW.trod_struct hu hx;obtain⟨y,h1,h2,h3⟩:=NK (fun t k hk cs x h=>pW d t k hk n cs x h) fs.toList 0 (.pair a b) hk cs xs (by simpa using hn) (fun i f hf=>Ax i f (by simpa using hf));refine⟨y,?_,h2,by simp only[Rows.uptoBulk];omega⟩
   rwa [List.drop_zero,List.take_of_length_le (by simp only[K.sz];omega)]at h1
  ·rename_i n e a b hu;simp only[Bool.and_eq_true,decide_eq_true_eq]at h;obtain⟨hn2,hca,zH,hct,ha,hb⟩:=h;obtain⟨xs,m,_,rfl,hl,yE,Ax⟩:=DataW.trod_array hu hx;subst hn2
   match xs,yE with
   |[x0,x1],_ =>
   have h0:=Ax 0 (by omega);have h1:=Ax 1 (by omega);obtain⟨y,XZ,X0,hy3⟩:=pW d e a ha m _ x0 h0;obtain⟨z,yC,BJ,ON⟩:=pW d e b hb m _ x1 h1;refine⟨(y,z),?_,⟨X0,BJ⟩,by simp only[dF,Rows.uptoBulk,Rows.uptoBulkAll,List.map_cons,List.map_nil];omega⟩;simp only[aJ];refine⟨_,_,?_,XZ,yC⟩;rw[Nat.zero_mul,Nat.one_mul,List.drop_zero,hca];have e2:(cs.drop a.sz).take a.sz=cs.drop a.sz:=adQ (by rw[List.length_drop];omega);rw[e2,List.take_append_drop]
  ·cases h
end Go.Vs
namespace Go.Vs
open Go.Proofs Go.Deep Go.ChangeShapes Go.WideShapes Go.ChangeAt Go.RowKit
open Go.Proofs.YtoleelddkocpkaaGreat (Rows.uptoBulk Rows.uptoBulkAll)
variable {H:Type} {ec:TypeId×Value→H} {P:Program} {w w':World} {spare:Nat→Bool} {held:Bool}
theorem D9{d:Nat}{t:TypeId}{k:K}(ht:VJ P d t k=true){r:_root_.Go.Reach}{b0:Nat}{v:Value}(tj:Value.okWide P w r b0 t v){x:DataW H}{ps:List MemPlace}(hd:DataW.Trod ec P w 0 spare held t v x ps) :
  ∃y:k.T,aA (Old w) MG gV w (b6 k y) v∧Ls k y∧dF k y≤Rows.uptoBulk x:=by
 obtain⟨fuel,hf⟩:=hd;obtain⟨y,h1,h2,h3⟩:=pW d t k ht fuel _ _ hf;refine⟨y,?_,h2,h3⟩;have hr:au (Old w) MG gV w (enc k y) v.cells.toList:=gZ h1
 cases d with
 |zero=>simp[VJ]at ht
 |succ d =>
  unfold VJ at ht
  split at ht
  ·rename_i hu;obtain⟨n,rfl⟩:=okWide_int hu tj;simp only[Value.cells,aJ,List.cons.injEq,and_true]at h1;simp only[b6,aA];exact h1
  ·rename_i hu;obtain⟨b,rfl⟩:=okWide_bool hu tj;simp only[Value.cells,aJ,List.cons.injEq,and_true]at h1;simp only[b6,aA];exact h1
  ·rename_i hu;obtain⟨b,rfl⟩:=okWide_string hu tj;simp only[Value.cells,aJ,List.cons.injEq,and_true]at h1;simp only[b6,aA];exact h1
  ·rename_i hu;obtain⟨a,len,cap,rfl⟩:=okWide_slice hu tj;simp only[b6,aA];exact⟨h1,by simp⟩
  ·rename_i fs k hu;have:∃cs,v=.agg cs∧cs.size=P.cellsOf t∧Row.okWide P w r b0 t cs:=by simp only[Value.okWide,hu]at tj;exact tj
   obtain⟨cs,rfl,_⟩:=this;simp only[b6,aA];exact⟨cs,rfl,by simpa[Value.cells] using hr⟩
  ·rename_i fs a b hu;have:∃cs,v=.agg cs∧cs.size=P.cellsOf t∧Row.okWide P w r b0 t cs:=by simp only[Value.okWide,hu]at tj;exact tj
   obtain⟨cs,rfl,_⟩:=this;simp only[b6,aA];exact⟨cs,rfl,by simpa[Value.cells] using hr⟩
  ·rename_i n e a b hu;have:∃cs,v=.agg cs∧cs.size=P.cellsOf t∧Row.okWide P w r b0 t cs:=by simp only[Value.okWide,hu]at tj;exact tj
   obtain⟨cs,rfl,_⟩:=this;simp only[b6,aA];exact⟨cs,rfl,by simpa[Value.cells] using hr⟩
  ·cases ht
theorem RR(hb:∀b,b<w.heap.size→w'.heap[b]? = w.heap[b]?){p:MemPlace}(hp:p.block<w.heap.size):w.sameAt w' p:=by
 cases p with
 |cell b off=>exact World.cell?_of_block (a:=⟨b,off,none⟩) (hb b hp)
 |map b=>exact hb b hp
theorem vE{base:Nat}(hs:∀b,b<w.heap.size→w'.heap[b]? = w.heap[b]?):∀{ts:List TypeId} {vs:List Value} {ds:List (DataW H)} {ps:List MemPlace},(∀p∈ps,p.block<w.heap.size) → DataW.TrodAll ec P w base spare held ts vs ds ps→DataW.TrodAll ec P w' base spare held ts vs ds ps
 |[],[],[],_,_,h=>h
 |_::_,_::_,_::_,_,hp,⟨p,q,⟨n,h1⟩,h2,e⟩=>by subst e;exact⟨p,q,⟨n,DataW.trod_carry n _ _ _ h1 (fun x hx=>RR hs (hp x (abM _ hx)))⟩,vE hs (fun x hx=>hp x (abL _ hx)) h2,rfl⟩
theorem NL(hos:w'.os=w.os)(CZ:w'.output=w.output)(hs:∀b,b<w.heap.size→w'.heap[b]? = w.heap[b]?)(may:MemPlace→Prop):w.keptBut w' may:=by
 refine⟨hos,CZ,fun i hi=>?_⟩
 grind
theorem Lt{f:Func}{s:ChangeSpec}{apart fresh handsOn again:Bool}{W W':World}{args:Array Value}{v:Value}{ds gs:List (DataW H)}{before pa pv:List MemPlace} (hW:DataW.Whole ec P f.params.toList s.vars apart W args.toList ds gs before) (xu:∀(b:Nat) (sp:Nat→Bool) (hd:Bool),DataW.TrodAll ec P W' b sp hd f.resultTypes.toList (v.resultList f.resultTypes.size) (s.fn H (ds++gs)).results []) (jA:∀sp:Nat→Bool,(∀p∈before,sp p.block=true)→DataW.TrodAll ec P W' 0 sp true f.params.toList args.toList (s.fn H (ds++gs)).args pa) (aaM:∀sp:Nat→Bool,(∀p∈before,sp p.block=true)→DataW.TrodVars ec P W' sp s.vars (s.fn H (ds++gs)).vars pv) (hps:before=pa++pv) (hk:W.keptBut W' (·∈before)) (hfz:∀p∈before,∀o,W'.frozen? ⟨p.block,o,none⟩=W.frozen? ⟨p.block,o,none⟩) (kZ:∀(j:Nat) (t:TypeId) (r:Value),f.resultTypes[j]? = some t→(v.resultList f.resultTypes.size)[j]? = some r→Value.okWide P W' .any 0 t r) :
  s.post ec P f apart fresh handsOn again W args v W':=by
 have hold:∀p∈before,(fun b=>decide (b<W.heap.size)) p.block=true:=fun p hp=>by simpa using hW.lt p hp
 refine⟨ds,gs,before,[],pa,pv,hW,xu _ _ _,jA _ hold,aaM _ hold,World.keptBut_mono (fun p hp=>⟨hp,?_⟩) hk,fun _=>?_⟩
 ·simp_all
 ·obtain⟨_,_,_,_,_,hz,hn⟩:=hW;refine⟨kZ,_,_,([]++pa)++pv,⟨[]++pa,pv,trodAll_append (jA _ (fun _ _=>rfl)) (xu _ _ _),aaM _ (fun _ _=>rfl),rfl,?_,?_⟩,?_⟩
  ·intro b off hp;have TP:MemPlace.cell b off∈before:=by simp_all
   exact(hfz _ TP off).trans (hz b off TP)
  ·simp_all
  simp_all
structure aaN(w w':World):Prop where
 os:w'.os=w.os
 output:w'.output=w.output
 size:w.heap.size≤w'.heap.size
 block:∀b,b<w.heap.size→w'.heap[b]? = w.heap[b]?
theorem RS{ks:List PK}{x:JK (lZ ks)}{f:FuncId}(hc:GF P f ⟨ks,[],[.val .bool],none⟩ (x,()) ((true,()),())){args:List Value}(hr:au (Old w) MG gV w (GB ⟨ks,[],[.val .bool],none⟩ x) args) :
  Calls P (f%1000) args.toArray w fun e w'=>e=.returned (.bool true)∧aaN w w':=by
 refine((hc.zero rfl) (Old w) w args (fun _ h=>h) hr).mono fun e w' ⟨v,Z',ψ',h1,_,_,hk,_,h6⟩=>?_;have hv:v=.bool true:=by grind [fH,aW,b6,aA]
 subst hv;exact⟨h1,hk.os,hk.output,hk.size,fun b hb=>hk.block b hb Ie⟩
theorem VL{fn:Func}{s:ChangeSpec}{apart fresh handsOn again:Bool}{tb:TypeId}{W W':World}{args:Array Value}{ds gs:List (DataW H)}{before:List MemPlace} (K:Kids P (·<P.types.size)) (full:∀t e,t<P.types.size→P.underlying t=some (.slice e)→0<P.cellsOf e) (hT:∀t∈fn.params.toList,t<P.types.size) (hrt:fn.resultTypes=#[tb]) (htb:P.underlying tb=some .bool) (hv:s.vars=[]) (hfn:s.fn H ds={ results:=[.lit (.bool true)],args:=ds }) (hW:DataW.Whole ec P fn.params.toList s.vars apart W args.toList ds gs before) (st:aaN W W') :
  s.post ec P fn apart fresh handsOn again W args (.bool true) W':=by
 have hW':=hW;obtain⟨p,q,hA,hV,rfl,hfz,Fq⟩:=hW;rw[hv]at hV;obtain⟨rfl,rfl⟩:=trodVars_none hV;have aN:∀x∈p,x.block<W.heap.size:=hA.lt;have hA':=vE st.block aN hA;refine Lt (pa:=p) (pv:=[]) hW' (fun b sp hd=>?_) (fun sp qW=>?_) (fun sp qW=>?_) (by simp) (NL st.os st.output st.block _) (fun x hx o=>?_) ?_
 ·rw[List.append_nil,hfn,hrt];exact trodAll_cons_mk (shut_bool htb _) trodAll_mk0
 ·rw[List.append_nil,hfn];exact DataW.TrodAll.respare K full hT hA' (fun x hx=>qW x (by simpa using hx))
 ·rw[hv,List.append_nil,hfn];rfl
 ·exact World.frozen?_of_block (a:=⟨x.block,o,none⟩) (st.block _ (aN x (by simpa using hx)))
 ·exact ok_one hrt rfl (okWide_bool_mk htb _)
end Go.Vs
namespace Go.Vs
open Go.Proofs
abbrev NoG:(f:FuncId)→(g:aO)→Option (g.A→Option g.B):=fun _ _=>none
theorem I0{α:Type}(f:α→Nat):∀{l:List α} {x:α},x∈l→f x≤(l.map f).sum
 |y::r,x,h=>by
  simp only[List.map_cons,List.sum_cons];rcases abD.1 h with rfl|h
  ·omega
  ·have:=I0 f h;omega
theorem PC{α:Type}(f:α→Nat)(hf:∀x,1≤f x):∀(l:List α),l.length≤(l.map f).sum
 |[]=>by simp
 |y::r=>by have:=PC f hf r;have:=hf y;simp only[List.map_cons,List.sum_cons,List.length_cons];omega
theorem RT(o:br):o.2.2.2.2.2.2.2.1.size≤dF sZ o:=by show _≤1+((1+1)+((1+1)+((1+1)+(((1+1)+((1+1)+1))+(((1+1)+((1+1)+1))+(1+((o.2.2.2.2.2.2.2.1.size+1)+1)))))));omega
theorem A6{l:List (List br)}{m:Nat}(hb:dF (.sl nj) l≤m):l.length≤m∧∀e∈l,∀o∈e,o.2.2.2.2.2.2.2.1.size≤m:=by
 have h1:dF (.sl nj) l=(l.map fun e=>(e.map (dF sZ)).sum+1).sum+1:=rfl;rw[h1]at hb;refine⟨?_,fun e he o ho=>?_⟩
 ·have:=PC (fun e:List br=>(e.map (dF sZ)).sum+1) (fun _=>by omega) l;omega
 ·have h2:=I0 (fun e:List br=>(e.map (dF sZ)).sum+1) he;have h3:=I0 (dF sZ) ho
  grind [RT]
end Go.Vs
namespace Go.Proofs.YtoleelddkocpkaaGreat
open Go.Vs Go.ChangeShapes Go.WideShapes Go.ChangeAt Go.RowKit
theorem own:ownKnob Tryz.prog.godebug=none:=by kernel_rfl
theorem kids:Kids Tryz.prog (·<Tryz.prog.types.size):=kids_rows (by kernel_rfl) (by kernel_rfl)
theorem full:∀t e,t<Tryz.prog.types.size→Tryz.prog.underlying t=some (.slice e)→0<Tryz.prog.cellsOf e:=slices_full_of Tryz.prog (by kernel_rfl)
end Go.Proofs.YtoleelddkocpkaaGreat
