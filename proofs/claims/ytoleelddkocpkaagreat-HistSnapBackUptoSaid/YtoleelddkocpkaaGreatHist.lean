/- Rows of edits -/
import Derived.Test.YtoleelddkocpkaaGreatPartsB
import Derived.Test.YtoleelddkocpkaaGreatForm
import Derived.Test.YtoleelddkocpkaaGreatNormalD
import Derived.Test.YtoleelddkocpkaaGreatPlane
set_option linter.unusedVariables false
set_option linter.unusedSimpArgs false
namespace Go.Vs
open Go.Proofs
variable {G:(f:FuncId)→(g:aO)→Option (g.A→Option g.B)}
theorem Ov{n:Int}(h:Ls (.int .i64) n):RY n:=by
 have h1:IntKind.min .i64 = -9223372036854775808:=by decide
 have h2:IntKind.max .i64=9223372036854775807:=by decide
 have h:IntKind.min .i64≤n∧n≤IntKind.max .i64:=h;rw[h1,h2]at h;unfold RY;omega
theorem Xk{o:br}(h:Ls sZ o)(ht:tu o):Fit o:=by obtain⟨_,_,_,_,⟨_,_,h1⟩,⟨_,_,h2⟩,_,_,h3⟩:=h;exact⟨Ov h1,Ov h2,Ov h3,ht⟩
theorem Wf.bd{d:ak}(h:Wf d):Bd 100 d:=⟨by have:=h.nv;omega,by have:=h.ne;omega,fun v hv=>by have:=h.rv v hv;omega⟩
end Go.Vs
namespace Go.Vs
def wM:List (List br)→StateT→StateT
 |[],s=>s
 |e::r,s=>wM r (hY s e)
def EW:List (List br)→StateT→List Bool
 |[],_=>[]
 |e::r,s=>decide ((cZ s e).2.1=0)::EW r (hY s e)
theorem ZN(s:StateT):hY s []=s:=by rfl
theorem eZ.all:∀(l:List (List br)) {s:StateT},eZ s→eZ (wM l s)
 |[],_,h=>h
 |e::r,_,h=>eZ.all r (h.try e)
theorem Bs.all:∀{l:List (List br)} {n:Nat} {s:StateT},(∀e∈l,e.length≤8)→Bs n s→Bs (n+24*l.length) (wM l s)
 |[],_,_,_,h=>h
 |e::r,n,s,hl,h=>by have h1:Bs (n+24) (hY s e):=h.try.mono (by have:=hl e (by simp);omega);exact(Bs.all (fun e he=>hl e (by simp[he])) h1).mono (by simp;omega)
theorem Mn{l:List ai}{x:ID}:(aR l x).isSome=true↔∃v∈l,v.1=x:=by
 grind [aR,List.find?_isSome]
theorem Mo{l:List ag}{x:ID}:(ba l x).isSome=true↔∃v∈l,v.1=x:=by
 grind [ba,List.find?_isSome]
structure Gr(s t:StateT):Prop where
 v:∀x,(aR s.1.1 x).isSome=true→(aR t.1.1 x).isSome=true
 e:∀x,(ba s.1.2 x).isSome=true→(ba t.1.2 x).isSome=true
 nv:s.1.1.length≤t.1.1.length
 ne:s.1.2.length≤t.1.2.length
theorem Gr.rfl(s:StateT):Gr s s:=⟨fun _ h=>h,fun _ h=>h,acf _,acf _⟩
theorem Gr.trans{a b c:StateT}(h:Gr a b)(k:Gr b c):Gr a c:=⟨fun x p=>k.v x (h.v x p),fun x p=>k.e x (h.e x p),acE h.nv k.nv,acE h.ne k.ne⟩
def named(s:StateT)(o:br):Prop:=if o.1=1 then(aR s.1.1 (bf o)).isSome=true else(ba s.1.2 (bf o)).isSome=true
theorem named.up{s t:StateT}{o:br}(h:named s o)(k:Gr s t):named t o:=by
 unfold named at h ⊢
 split
 ·rename_i h1;rw[if_pos h1]at h;exact k.v _ h
 ·rename_i h1;rw[if_neg h1]at h;exact k.e _ h
theorem Qc(d:ak)(c:rN)(x:ab):(bV d c x).1.length=d.1.length∧(bV d c x).2=d.2:=⟨jy _ _ _,rfl⟩
theorem Xl{s:StateT}{o:br}(hk:o.1=1∨o.1=3)(h:(kh s o).2.1=0):Gr s (kh s o).1∧named (kh s o).1 o:=by
 unfold kh at h ⊢;by_cases hm:cG o=0
 case neg=>rw[if_pos hm]at h;exact absurd h hm
 rw[if_neg (by simp[hm])]at h ⊢;rcases hk with h1|h3
 ·rw[if_pos h1]at h ⊢;unfold oy at h ⊢;by_cases h2:(bq s.1 (bf o)).isSome=true
  ·rw[if_pos h2]at h;cases h
  rw[if_neg h2]at h ⊢;by_cases h4:24≤s.1.1.length
  ·rw[if_pos h4]at h;cases h
  rw[if_neg h4];refine⟨⟨fun x hx=>?_,fun x hx=>hx,by show _≤(c8 _ _).length;rw[fL];omega,acf _⟩,?_⟩
  ·rw[Mn]at hx ⊢;obtain⟨v,hv,e⟩:=hx;exact⟨v,j5.2 (.inr hv),e⟩
  ·unfold named;rw[if_pos h1,Mn];exact⟨_,j5.2 (.inl rfl),rfl⟩
 ·have n1:¬o.1=1:=by omega
  have n2:¬o.1=2:=by omega
  rw[if_neg n1,if_neg n2,if_pos h3]at h ⊢;unfold ox at h ⊢
  split at h
  ·cases h
  rename_i c1
  split at h
  ·cases h
  rename_i c2
  split at h
  ·cases h
  rename_i c3
  split at h
  ·cases h
  rename_i c4
  split at h
  ·cases h
  rename_i c5;rw[if_neg c1,if_neg c2,if_neg c3,if_neg c4,if_neg c5];have l1:(ig s o).1.length=s.1.1.length:=by unfold ig;rw[(Qc _ _ _).1,(Qc _ _ _).1]
  have l2:(ig s o).2=dL (bf o,(e0,0)) s.1.2:=rfl;refine⟨⟨fun x hx=>?_,fun x hx=>?_,by show _≤(ig s o).1.length;omega,by show _≤(ig s o).2.length;rw[l2,lR];omega⟩,?_⟩
  ·exact yl _ (yl _ hx)
  ·show(ba (ig s o).2 x).isSome=true;rw[l2];rw[Mo]at hx ⊢;obtain⟨v,hv,e⟩:=hx;exact⟨v,p7.2 (.inr hv),e⟩
  ·unfold named;rw[if_neg n1];show(ba (ig s o).2 (bf o)).isSome=true;rw[l2,Mo];exact⟨_,p7.2 (.inl rfl),rfl⟩
theorem SM{s:StateT}{o:br}(hk:o.1=1∨o.1=3)(h:named s o):(kh s o).2.1≠0:=by
 unfold kh;by_cases hm:cG o=0
 case neg=>simp_all
 rw[if_neg (by simp[hm])];unfold named at h;rcases hk with h1|h3
 ·simp_all [if_pos,oy,bq,bf]
 simp_all [if_neg,if_pos,ox,hP,bf]
structure ZO(e:List br):Prop where
 k:∀o∈e,o.1=1∨o.1=3
 n:e≠[]
theorem Jv:∀{e:List br} {s:StateT},(∀o∈e,o.1=1∨o.1=3)→(Ed e s).2.1=0→Gr s (Ed e s).1∧∀o∈e,named (Ed e s).1 o
 |[],s,_,_=>⟨Gr.rfl s,fun o ho=>by cases ho⟩
 |o::r,s,hk,h=>by
  unfold Ed at h ⊢;by_cases h1:(kh s o).2.1=0
  case neg=>simp_all
  rw[if_neg (by simp[h1])]at h ⊢;obtain⟨g1,n1⟩:=Xl (hk o (by simp)) h1;obtain⟨g2,n2⟩:=Jv (fun o ho=>hk o (by simp[ho])) h;refine⟨g1.trans g2,fun p hp=>?_⟩;rcases abD.1 hp with rfl|hp
  ·exact n1.up g2
  grind
theorem tE{s:StateT}{e:List br}(h:(cZ s e).2.1=0):cZ s e=Ed e s:=by
 unfold cZ at h ⊢
 grind
theorem Xm{s:StateT}{e:List br}(h:(cZ s e).2.1=0):hY s e=(cZ s e).1:=by simp_all [hY,if_neg]
theorem ZP{s:StateT}{e:List br}(h:(cZ s e).2.1≠0):hY s e=s:=by unfold hY;rw[if_pos h]
theorem Mp{s:StateT}{e:List br}(ha:ZO e):Gr s (hY s e):=by
 by_cases h:(cZ s e).2.1=0
 ·rw[Xm h,tE h];rw[tE h]at h;exact(Jv ha.k h).1
 grind [ZP,Gr.rfl]
theorem Mq:∀{l:List (List br)} {s:StateT},(∀e∈l,ZO e)→Gr s (wM l s)
 |[],s,_=>Gr.rfl s
 |e::r,s,h=>(Mp (h e (by simp))).trans (Mq fun e he=>h e (by simp[he]))
theorem Mr{s t:StateT}{e:List br}(ha:ZO e)(h:(cZ s e).2.1=0)(hg:Gr (hY s e) t):(cZ t e).2.1≠0:=fun h2=>by
 rw[Xm h,tE h]at hg;rw[tE h]at h;rw[tE h2]at h2;obtain⟨_,hn⟩:=Jv ha.k h
 cases e with
 |nil=>exact ha.n rfl
 |cons o r =>have h3:=SM (ha.k o (by simp)) ((hn o (by simp)).up hg);simp_all [Ed,if_pos]
theorem xi:∀{l:List (List br)} {s t:StateT},(∀e∈l,ZO e)→Gr (wM l s) t→∀i:Nat,(EW l s)[i]? = some true→(EW l t)[i]? = some true→False
 |[],_,_,_,_,i,h,_=>by simp[EW]at h
 |e::r,s,t,ha,hg,0,h1,h2=>by simp[EW]at h1 h2;exact Mr (ha e (by simp)) h1 ((Mq fun e he=>ha e (by simp[he])).trans hg) h2
 |e::r,s,t,ha,hg,i+1,h1,h2=>by have h1:(EW r (hY s e))[i]? = some true:=h1;have h2:(EW r (hY t e))[i]? = some true:=h2;exact xi (l:=r) (s:=hY s e) (t:=hY t e) (fun e he=>ha e (by simp[he])) (Gr.trans (show Gr (wM r (hY s e)) t from hg) (Mp (ha e (by simp)))) i h1 h2
end Go.Vs
namespace Go.Vs
open Go.Proofs
variable {G:(f:FuncId)→(g:aO)→Option (g.A→Option g.B)}
structure ql(l:List (List br)):Prop where
 n:l.length≤1073741824
 e:∀e∈l,e.length≤1073741824
 f:∀e∈l,∀o∈e,Fit o
theorem ql.mem{l m:List (List br)}(h:ql l)(hs:∀e∈m,e∈l)(hn:m.length≤1073741824):ql m:=⟨hn,fun e he=>h.e e (hs e he),fun e he=>h.f e (hs e he)⟩
theorem ada(hG:HG G)(FM:∀o,kb G o){l:List (List br)}(h:ql l){e:List br}(he:e∈l)(s:StateT)(hw:eZ s):FX G 62 KD ((s,e,()),())=some ((hY s e,()),()) :=agC hG s e hw (h.e e he) (h.f e he) fun o _=>FM o
theorem adb(hG:HG G)(FM:∀o,kb G o)(s:StateT)(hw:eZ s):FX G 62 KD ((s,[],()),())=some ((s,()),()):=by
 have:=agC hG s [] hw (by simp) (by simp) fun o _=>FM o
 rwa [ZN]at this
theorem ahE(hG:HG G)(s:StateT)(e:List br):FX G 36 K8 ((s,e,()),())=some ((),()):=av (hG _ _ rfl) afA rfl
theorem Xn(hG:HG G)(FM:∀o,kb G o)(l:List (List br))(h:ql l):∀(n i:Nat) (s:StateT),i+n=l.length→eZ s → LX G 37035 lH Tryz.f35 nu (aK Tryz.prog 35 0) ((l,(((l.length:Nat):Int),((i:Int),()))),((zW,((s,()),())),()))=some ((wM (l.drop i) s,()),()):=by
 intro n
 induction n with
 |zero =>intro i s hi hw;refine ar D3 (af (decide_eq_false (show ¬((i:Int)<((l.length:Nat):Int)) by omega)) ?_);rw[List.drop_eq_nil_of_le (by omega)];rfl
 |succ n ih =>
  intro i s hi hw;have aN:i<l.length:=by omega
  have hm:=acV aN;refine ar D3 (ae (aT aN) ?_);refine aa (aB (aa8 aN)) ?_;refine aa (ahE hG s l[i]) (aa (ada hG FM h hm s hw) ?_);rw[wI,aD aN h.n,List.drop_eq_getElem_cons aN,wM];exact ih (i+1) _ (by omega) (hw.try l[i])
theorem ahF(hG:HG G)(FM:∀o,kb G o)(s:StateT)(l:List (List br))(hw:eZ s)(h:ql l):FX G 13 G1 ((s,l,()),())=some ((wM l s,()),()):=by
 refine av (hG _ _ rfl) afs ?_;have h1:FX G 37035 lH ((s,l,()),())=some ((wM l s,()),()):=by refine av (hG _ _ rfl) Vt ?_;refine aa (adb hG FM s hw) ?_;exact Xn hG FM l h l.length 0 s (by omega) hw
 exact aa h1 rfl
theorem ZQ(n:Int):Fit (Y2 1 (1,n)):=⟨acy,acy,acy,by show e0.size≤_;simp[e0,ByteArray.size]⟩
theorem ahG(hG:HG G)(l:List br)(hl:l.length≤50000000):FX G 60 K9 ((l,()),())=some ((l,()),()):=by
 refine av (hG _ _ rfl) afB ?_
 cases l with
 |nil=>exact ae rfl (ml (by omega) fun j hj=>by cases j<;>rfl)
 |cons x r=>exact af rfl (ae (fits (by grind)) rfl)
abbrev X7(h:eU):StateT:=h.1
abbrev sr(h:eU):Int:=h.2.1
abbrev oD(h:eU):List (List br):=h.2.2.1
def SO(h:eU):Int:=sr h+((oD h).length:Nat)
structure JJ(m:Nat)(h:eU):Prop where
 b:eZ (X7 h)
 f0:0≤sr h
 f1:SO h≤m
 m1:m≤1000000000
 n:(oD h).length≤64
 r:ql (oD h)
theorem JJ.zero:JJ 0 (zS,(0,([],()))):=⟨eZ.zero,Int.le_refl _,by decide,by decide,adx _,⟨adx _,fun e he=>(by cases he),fun e he=>(by cases he)⟩⟩
theorem Xo(hG:HG G){m:Nat}(h:eU)(ho:JJ m h):FX G 32 A2 ((),(h,()))=some ((SO h,()),(h,())):=by refine av (hG _ _ rfl) afx ?_;have h1:=ho.f0;have h2:=ho.f1;have h3:=ho.n;have h4:=ho.m1;have hl:SO h=sr h+((oD h).length:Nat):=rfl;have e:IntKind.wrap .i64 (sr h+(((oD h).length:Nat):Int))=SO h:=wrap_small (by omega) (by omega);exact congrArg (fun n:Int=>some ((n,()),(h,()))) e
def SP(h:eU)(e:List br):(Int×(Int×Unit))×eU :=if dM e≠0 then((0,(dM e,())),h) else if 64≤(oD h).length then((0,(20,())),h) else((SO h+1,(0,())),(X7 h,(sr h,(oD h++[e],()))))
theorem Qd{α:Type}(l:List α):cut l 0 ((l.length:Nat):Int)=l:=by unfold cut;rw[show Int.toNat (0:Int)=0 from rfl,List.drop_zero];exact adQ (by omega)
theorem JJ.mono{m k:Nat}{h:eU}(ho:JJ m h)(hk:m≤k)(h1:k≤1000000000):JJ k h:=⟨ho.b,ho.f0,by have:=ho.f1;omega,h1,ho.n,ho.r⟩
theorem JJ.add{m:Nat}{h:eU}(ho:JJ m h)(hm:m<1000000000){e:List br}(he:e.length≤1073741824)(hf:∀o∈e,Fit o):JJ (m+1) (SP h e).2:=by
 unfold SP
 split
 ·exact ho.mono (by omega) (by omega)
 split
 ·exact ho.mono (by omega) (by omega)
 ·rename_i h1 h2;have h3:=ho.f1;have hl:SO h=sr h+((oD h).length:Nat):=rfl;refine⟨ho.b,ho.f0,?_,by omega,?_,?_,fun p hp=>?_,fun p hp=>?_⟩
  ·show sr h+(((oD h++[e]).length:Nat):Int)≤_;simp;omega
  ·grind
  ·grind
  ·rcases ab6.1 (show p∈oD h++[e] from hp) with hp|hp
   ·exact ho.r.e p hp
   simp_all
  ·rcases ab6.1 (show p∈oD h++[e] from hp) with hp|hp
   ·exact ho.r.f p hp
   simp_all
theorem ahH(hG:HG G){m:Nat}(h:eU)(ho:JJ m h)(hm:m<1000000000)(e:List br)(he:e.length≤50000000)(hf:∀o∈e,Fit o):FX G 29 K4 ((e,()),(h,()))=some ((SP h e).1,((SP h e).2,())):=by
 refine av (hG _ _ rfl) afu ?_;refine aa (agu hG e (by omega) hf) ?_;have ha:=ho.add hm (e:=e) (by omega) hf;unfold SP at ha ⊢;by_cases h0:dM e=0
 case neg=>rw[if_pos h0];exact ae (show(dM e != 0)=true by simp[h0]) rfl
 rw[if_neg (by simp[h0])]at ha ⊢;refine af (show(dM e != 0)=false by simp[h0]) ?_;by_cases h64:64≤(oD h).length
 ·rw[if_pos h64];exact ae (decide_eq_true (show(((oD h).length:Nat):Int)≥64 by omega)) rfl
 rw[if_neg h64]at ha ⊢;refine af (decide_eq_false (show ¬(((oD h).length:Nat):Int)≥64 by omega)) ?_;refine ae (cP (show az (oD h).length 0 (((oD h).length:Nat):Int)=true by simp[az]) (decide_eq_true rfl)) ?_;refine aa (ahG hG e he) ?_;have ec:cut (oD h) 0 (((oD h).length:Nat):Int)=oD h:=Qd _;refine ae (fits (show(cut (oD h) 0 (((oD h).length:Nat):Int)).length+1≤_ by rw[ec];omega)) ?_;show Option.bind (FX G 32 A2 ((),((X7 h,(sr h,(cut (oD h) 0 (((oD h).length:Nat):Int)++[e],()))),()))) _=_;rw[ec];refine aa (Xo hG _ ha) ?_;have:SO (X7 h,(sr h,(oD h++[e],())))=SO h+1:=by
  show sr h+(((oD h++[e]).length:Nat):Int)=sr h+(((oD h).length:Nat):Int)+1
  grind
 exact congrArg (fun n:Int=>(some ((n,((0:Int),())),((X7 h,(sr h,(oD h++[e],()))),())):Option ((Int×(Int×Unit))×(eU×Unit)))) this
def hIn(h:eU)(n:Int):Prop:=sr h≤n∧n≤SO h
instance (h:eU) (n:Int):Decidable (hIn h n):=by unfold hIn;infer_instance
def atH(h:eU)(n:Int):StateT×(Int×Unit):=if hIn h n then(wM ((oD h).take (n-sr h).toNat) (X7 h),(0,())) else(zS,(26,()))
theorem ql.take{l:List (List br)}(h:ql l)(n:Nat):ql (l.take n):=h.mem (fun e he=>List.mem_of_mem_take he) (by have:=h.n;simp;omega)
theorem ql.drop{l:List (List br)}(h:ql l)(n:Nat):ql (l.drop n):=h.mem (fun e he=>adK he) (by have:=h.n;simp;omega)
theorem ahI(hG:HG G)(FM:∀o,kb G o){m:Nat}(h:eU)(ho:JJ m h)(n:Int):FX G 61 K7 ((n,()),(h,()))=some (atH h n,(h,())):=by
 refine av (hG _ _ rfl) afz ?_;have h1:=ho.f0;have h2:=ho.f1;have h3:=ho.n;have h4:=ho.m1;have hl:SO h=sr h+((oD h).length:Nat):=rfl;unfold atH;by_cases ha:n<sr h
 ·rw[if_neg (show ¬hIn h n by unfold hIn;omega)];exact ae (decide_eq_true ha) rfl
 refine af (decide_eq_false ha) (aa (Xo hG h ho) ?_);by_cases hb:n>SO h
 ·rw[if_neg (show ¬hIn h n by unfold hIn;omega)];exact ae (decide_eq_true hb) rfl
 refine af (decide_eq_false hb) ?_;rw[if_pos (show hIn h n by unfold hIn;omega)];obtain⟨k,hk⟩:∃k:Nat,n=sr h+k:=⟨(n-sr h).toNat,by omega⟩;have ew:IntKind.wrap .i64 (n-sr h)=(k:Int):=by grind [wrap_small]
 refine ae (show az (oD h).length 0 (IntKind.wrap .i64 (n-sr h))=true by grind [az]) ?_;have ec:cut (oD h) 0 (IntKind.wrap .i64 (n-sr h))=(oD h).take (n-sr h).toNat:=by rw[ew];unfold cut;grind
 exact aa ((congrArg (fun l:List (List br)=>FX G 13 G1 ((X7 h,l,()),())) ec).trans (ahF hG FM (X7 h) _ ho.b (ho.r.take _))) rfl
def HN(h:eU)(n:Int):Int×eU:=if hIn h n then(0,(wM ((oD h).take (n-sr h).toNat) (X7 h),(n,((oD h).drop (n-sr h).toNat,())))) else(26,h)
theorem JJ.comp{m:Nat}{h:eU}(ho:JJ m h)(n:Int):JJ m (HN h n).2:=by
 unfold HN;have h1:=ho.f0;have h2:=ho.f1;have h3:=ho.n;have hl:SO h=sr h+((oD h).length:Nat):=rfl;by_cases hi:hIn h n
 ·rw[if_pos hi];unfold hIn at hi;refine⟨eZ.all _ ho.b,by grind,?_,ho.m1,?_,ho.r.drop _⟩
  ·show n+((((oD h).drop (n-sr h).toNat).length:Nat):Int)≤m
   grind
  grind
 simp_all
theorem ahJ(hG:HG G)(FM:∀o,kb G o){m:Nat}(h:eU)(ho:JJ m h)(n:Int):FX G 31 K6 ((n,()),(h,()))=some (((HN h n).1,()),((HN h n).2,())):=by
 refine av (hG _ _ rfl) afw ?_;refine aa (ahI hG FM h ho n) ?_;have h1:=ho.f0;have h2:=ho.f1;have h3:=ho.n;have h4:=ho.m1;have hl:SO h=sr h+((oD h).length:Nat):=rfl;unfold atH HN;by_cases hi:hIn h n
 case neg=>rw[if_neg hi,if_neg hi];rfl
 rw[if_pos hi,if_pos hi];unfold hIn at hi;refine ae rfl ?_;obtain⟨k,hk⟩:∃k:Nat,n=sr h+k:=⟨(n-sr h).toNat,by omega⟩;have ew:IntKind.wrap .i64 (n-sr h)=(k:Int):=by grind [wrap_small]
 refine ae (show az (oD h).length (IntKind.wrap .i64 (n-sr h)) (((oD h).length:Nat):Int)=true by grind [az]) ?_;have ec:cut (oD h) (IntKind.wrap .i64 (n-sr h)) (((oD h).length:Nat):Int)=(oD h).drop (n-sr h).toNat:=by rw[ew];unfold cut;rw[show(n-sr h).toNat=k by omega,List.take_of_length_le (by omega)];rfl
 exact congrArg (fun l:List (List br)=>(some (((0:Int),()),((wM ((oD h).take (n-sr h).toNat) (X7 h),(n,(l,()))),())):Option ((Int×Unit)×(eU×Unit)))) ec
theorem ahK(hG:HG G)(n:Int):FX G 47 K5 ((n,()),())=some (([Y2 1 (1,n)],()),()):=av (hG _ _ rfl) afv rfl
theorem ahL(hG:HG G)(FM:∀o,kb G o):FX G 20 K3 ((),())=some ((true,()),()):=by
 refine av (hG _ _ rfl) aft ?_;refine aa (ahK hG 1) ?_;have hf:∀o∈[Y2 1 (1,1)],Fit o:=fun o ho=>by grind [List.mem_singleton,ZQ]
 have ha:SP (zS,(0,([],()))) [Y2 1 (1,1)]=((1,(0,())),(zS,(0,([[Y2 1 (1,1)]],())))):=by rfl
 have h1:=ahH hG (zS,(0,([],()))) JJ.zero (by decide) [Y2 1 (1,1)] (by simp) hf;rw[ha]at h1;refine aa h1 ?_;have Rs:JJ 1 (zS,(0,([[Y2 1 (1,1)]],()))):=by have:=JJ.zero.add (by decide) (e:=[Y2 1 (1,1)]) (by simp) hf;simp_all
 have hc:∃t,HN (zS,(0,([[Y2 1 (1,1)]],()))) 1=(0,(t,(1,([],())))):=⟨_,if_pos (by decide)⟩;obtain⟨t,hc⟩:=hc;have h2:=ahJ hG FM _ Rs 1;rw[hc]at h2;refine aa h2 ?_;refine ae rfl (ae rfl (ae rfl (ae rfl ?_)));have ho2:=Rs.comp 1;rw[hc]at ho2;exact aa (Xo hG _ ho2) rfl
theorem abc(hG:HG G)(l:List br):FX G 27 G2 ((l,()),())=some ((l.take 8,()),()):=by
 refine av (hG _ _ rfl) afy ?_;by_cases h:8<l.length
 ·have d1:decide (((l.length:Nat):Int)>8)=true:=decide_eq_true (by omega);have d2:az l.length 0 8=true:=by simp[az];omega
  simp only[d1,d2];rfl
 ·have d1:decide (((l.length:Nat):Int)>8)=false:=decide_eq_false (by omega);rw[List.take_of_length_le (by omega)];simp only[d1];rfl
def ar7(h:eU)(n:Int):List (List br)×(Int×Unit):=if hIn h n then((oD h).drop (n-sr h).toNat,(0,())) else([],(26,()))
end Go.Vs
set_option maxRecDepth 1000000
set_option maxHeartbeats 0
namespace Go.Vs
open Go.Proofs
theorem abd{F:FT}{J:JT A3}{x:(((List Int)×((List Int)×Unit))×Unit)}:bH 46 A3 Tryz.f46 F J x = some ((((strOf x.1.1)==(strOf x.1.2.1)),()),()):=by kernel_rfl
theorem ahM{F:FT}{J:JT kl}{x:((ak×Unit)×Unit)}:bH 42 kl Tryz.f42 F J x =(F 67 Lb ((x.1.1,()),())).bind fun(y1:Q2) =>cond (y1.1.1 != 0) (some ((([]:List Int),y1.1),())) (J uz (aK Tryz.prog 42 0) ((x.1.1.2,((lI x.1.1.2),((0:Int),()))),(((x.1.1,()),()),(([]:List ab),(((IntKind.wrap .u8 (lI x.1.1.2))::([]:List Int)),()))))):=by kernel_rfl
theorem Qe{F:FT}{J:JT kl}{x:(((List ag)×(Int×(Int×Unit)))×(((ak×Unit)×Unit)×((List ab)×((List Int)×Unit))))}:eI 42 0 kl Tryz.f42 uz F J x = cond (decide (x.1.2.2.1<x.1.2.1)) (((aU x.1.1 x.1.2.2.1)).bind fun(y2:ag) =>(F 68 G3 ((x.2.2.2.1,(y2,())),())).bind fun(y3:XS) =>J uz (aK Tryz.prog 42 0) ((x.1.1,(x.1.2.1,((wI (x.1.2.2.1+1)),()))),(((x.2.1.1.1,()),()),((jN (.pair (.int .i64) (.int .i64)) y2.1 x.1.2.2.1 x.2.2.1),y3.1)))) (cond (aI (List.length x.2.2.2.1) (List.length ((IntKind.wrap .u8 (lI x.2.1.1.1.1))::([]:List Int)))) (J uA (aK Tryz.prog 42 1) ((x.2.1.1.1.1,((lI x.2.1.1.1.1),((0:Int),()))),((),(x.2.2.1,((x.2.2.2.1++((IntKind.wrap .u8 (lI x.2.1.1.1.1))::([]:List Int))),()))))) (none)):=by kernel_rfl
theorem Qf{F:FT}{J:JT kl}{x:(((List ai)×(Int×(Int×Unit)))×(Unit×((List ab)×((List Int)×Unit))))}:eI 42 1 kl Tryz.f42 uA F J x = cond (decide (x.1.2.2.1<x.1.2.1)) (((aU x.1.1 x.1.2.2.1)).bind fun(y4:ai) =>(F 68 G3 ((x.2.2.2.1,((y4.1,y4.2.2),())),())).bind fun(y5:XS) =>cond (aI (List.length y5.1.1) (List.length ((IntKind.wrap .u8 (lI y4.2.1))::([]:List Int)))) (J xS (aK Tryz.prog 42 2) ((x.1.1,(x.1.2.1,(x.1.2.2.1,(y4.2.1,((lI y4.2.1),((0:Int),())))))),((),(x.2.2.1,((y5.1.1++((IntKind.wrap .u8 (lI y4.2.1))::([]:List Int))),()))))) (none)) (some ((x.2.2.2.1,((0:Int),())),())):=by kernel_rfl
theorem Qg{F:FT}{J:JT kl}{x:(((List ai)×(Int×(Int×((List ab)×(Int×(Int×Unit))))))×(Unit×((List ab)×((List Int)×Unit))))}:eI 42 2 kl Tryz.f42 xS F J x = cond (decide (x.1.2.2.2.2.2.1<x.1.2.2.2.2.1)) (((aU x.1.2.2.2.1 x.1.2.2.2.2.2.1)).bind fun(y6:ab) =>cond (aI (List.length x.2.2.2.1) (List.length ((IntKind.wrap .u8 (wI ((Option.getD (fM (.pair (.int .i64) (.int .i64)) y6.1 x.2.2.1) (0:Int))+(wI ((128:Int)*y6.2)))))::([]:List Int)))) (J xS (aK Tryz.prog 42 2) ((x.1.1,(x.1.2.1,(x.1.2.2.1,(x.1.2.2.2.1,(x.1.2.2.2.2.1,((wI (x.1.2.2.2.2.2.1+1)),())))))),((),(x.2.2.1,((x.2.2.2.1++((IntKind.wrap .u8 (wI ((Option.getD (fM (.pair (.int .i64) (.int .i64)) y6.1 x.2.2.1) (0:Int))+(wI ((128:Int)*y6.2)))))::([]:List Int))),()))))) (none)) (J uA (aK Tryz.prog 42 1) ((x.1.1,(x.1.2.1,((wI (x.1.2.2.1+1)),()))),((),x.2.2))):=by kernel_rfl
theorem ahN{F:FT}{J:JT Lb}{x:((ak×Unit)×Unit)}:bH 67 Lb Tryz.f67 F J x =(F 95 Lc ((x.1.1,()),())).bind fun(y1:Q2) =>cond (y1.1.1 != 0) (some (y1.1,())) ((F 96 AT ((x.1.1,()),())).bind fun(y2:Q0) =>cond (not y2.1.1) (some (((11:Int),()),())) (some (((0:Int),()),()))):=by kernel_rfl
theorem ahO{F:FT}{J:JT G3}{x:(((List Int)×(ag×Unit))×Unit)}:bH 68 G3 Tryz.f68 F J x =(F 43 DA ((x.1.1,(x.1.2.1.1,())),())).bind fun(y1:XS) =>(F 97 Ld ((y1.1.1,(x.1.2.1.2.1,())),())).bind fun(y2:XS) =>(F 49 rQ ((y2.1.1,(x.1.2.1.2.2,())),())).bind fun(y3:XS) =>some (y3.1,()):=by kernel_rfl
theorem ahP{F:FT}{J:JT Lc}{x:((ak×Unit)×Unit)}:bH 95 Lc Tryz.f95 F J x = cond (decide ((lI x.1.1.1)>24)) (some (((3:Int),()),())) (cond (decide ((lI x.1.1.2)>40)) (some (((3:Int),()),())) ((F 136134 lJ ((x.1.1.1,()),())).bind fun(y1:(((List ID)×Unit)×Unit)) =>(F 133 xD (y1.1,())).bind fun(y2:Q0) =>cond (not y2.1.1) (some (((10:Int),()),())) ((F 138136 lK ((x.1.1.2,()),())).bind fun(y3:(((List ID)×Unit)×Unit)) =>(F 133 xD (y3.1,())).bind fun(y4:Q0) =>cond (not y4.1.1) (some (((10:Int),()),())) ((F 138 mb ((x.1.1,()),())).bind fun(y5:Q0) =>cond (not y5.1.1) (some (((10:Int),()),())) ((F 141139 ta ((x.1.1,()),())).bind fun(y6:Q0) =>cond y6.1.1 (some (((4:Int),()),())) ((F 143139 tc ((x.1.1,()),())).bind fun(y7:Q0) =>cond y7.1.1 (some (((1:Int),()),())) (some (((0:Int),()),())))))))):=by kernel_rfl
theorem ahQ{F:FT}{J:JT rQ}{x:(((List Int)×(Int×Unit))×Unit)}:bH 49 rQ Tryz.f49 F J x = cond ((decide ((0:Int)≤(wI ((lI x.1.1)+8))))&&((decide ((wI ((lI x.1.1)+8))≤1073741824))&&(decide ((wI ((lI x.1.1)+8))=(wI ((lI x.1.1)+8)))))) (cond (not (List.isEmpty (List.replicate (Int.toNat (wI ((lI x.1.1)+8))) (0:Int)))) (J q9 (aK Tryz.prog 49 0) ((x.1.1,(x.1.2.1,((0:Int),()))),((),((nR x.1.1 (List.replicate (Int.toNat (wI ((lI x.1.1)+8))) (0:Int))),())))) (none)) (none):=by kernel_rfl
theorem Qh{F:FT}{J:JT rQ}{x:(((List Int)×(Int×(Int×Unit)))×(Unit×((List Int)×Unit)))}:eI 49 0 rQ Tryz.f49 q9 F J x = cond (decide (x.1.2.2.1<8)) (cond (decide ((wI ((8:Int)*(wI ((7:Int)-x.1.2.2.1))))<0)) (none) (cond ((decide ((0:Int)≤(wI ((lI x.1.1)+x.1.2.2.1))))&&(decide ((wI ((lI x.1.1)+x.1.2.2.1))<(lI x.2.2.1)))) (((x.2.2.1)[(Int.toNat (wI ((lI x.1.1)+x.1.2.2.1)))]?).bind fun(y1:Int) =>J q9 (aK Tryz.prog 49 0) ((x.1.1,(x.1.2.1,((wI (x.1.2.2.1+1)),()))),((),((List.set x.2.2.1 (Int.toNat (wI ((lI x.1.1)+x.1.2.2.1))) (IntKind.wrap .u8 (iu .u64 (IntKind.wrap .u64 x.1.2.1) (wI ((8:Int)*(wI ((7:Int)-x.1.2.2.1))))))),())))) (none))) (some (x.2.2,())):=by kernel_rfl
theorem ahR{F:FT}{J:JT Ld}{x:(((List Int)×(ByteArray×Unit))×Unit)}:bH 97 Ld Tryz.f97 F J x = cond (aI (List.length x.1.1) (List.length ((IntKind.wrap .u8 (((ByteArray.size x.1.2.1):Nat):Int))::([]:List Int)))) (cond ((not (List.isEmpty (x.1.1++((IntKind.wrap .u8 (((ByteArray.size x.1.2.1):Nat):Int))::([]:List Int)))))&&(aI (List.length (x.1.1++((IntKind.wrap .u8 (((ByteArray.size x.1.2.1):Nat):Int))::([]:List Int)))) (ByteArray.size x.1.2.1))) (some (((sx (x.1.1++((IntKind.wrap .u8 (((ByteArray.size x.1.2.1):Nat):Int))::([]:List Int))) x.1.2.1),()),())) (none)) (none):=by kernel_rfl
theorem ahS{F:FT}{J:JT xD}{x:(((List ID)×Unit)×Unit)}:bH 133 xD Tryz.f133 F J x = J uB (aK Tryz.prog 133 0) ((x.1.1,(x.1.1,((lI x.1.1),((0:Int),())))),((),())):=by kernel_rfl
theorem Qi{F:FT}{J:JT xD}{x:(((List ID)×((List ID)×(Int×(Int×Unit))))×(Unit×Unit))}:eI 133 0 xD Tryz.f133 uB F J x = cond (decide (x.1.2.2.2.1<x.1.2.2.1)) (((aU x.1.2.1 x.1.2.2.2.1)).bind fun(y1:ID) =>(F 100 q6 ((y1,()),())).bind fun(y2:Q0) =>cond (not y2.1.1) (some ((false,()),())) (cond (decide (x.1.2.2.2.1>0)) (((aU x.1.1 (wI (x.1.2.2.2.1-1)))).bind fun(y3:ID) =>(F 102 AU ((y3,(y1,())),())).bind fun(y4:Q2) =>cond (decide (y4.1.1≥0)) (some ((false,()),())) (J uB (aK Tryz.prog 133 0) ((x.1.1,(x.1.2.1,(x.1.2.2.1,((wI (x.1.2.2.2.1+1)),())))),((),())))) (J uB (aK Tryz.prog 133 0) ((x.1.1,(x.1.2.1,(x.1.2.2.1,((wI (x.1.2.2.2.1+1)),())))),((),()))))) (some ((true,()),())):=by kernel_rfl
theorem ahT{F:FT}{J:JT mb}{x:((ak×Unit)×Unit)}:bH 138 mb Tryz.f138 F J x = J xT (aK Tryz.prog 138 0) ((x.1.1.2,((lI x.1.1.2),((0:Int),()))),(((x.1.1,()),()),(([]:List (ab×Bool)),()))):=by kernel_rfl
theorem Qj{F:FT}{J:JT mb}{x:(((List ag)×(Int×(Int×Unit)))×(((ak×Unit)×Unit)×((List (ab×Bool))×Unit)))}:eI 138 0 mb Tryz.f138 xT F J x = cond (decide (x.1.2.2.1<x.1.2.1)) (((aU x.1.1 x.1.2.2.1)).bind fun(y1:ag) =>J xT (aK Tryz.prog 138 0) ((x.1.1,(x.1.2.1,((wI (x.1.2.2.1+1)),()))),(((x.2.1.1.1,()),()),((jN (.pair (.pair (.int .i64) (.int .i64)) (.int .i64)) (y1.1,(1:Int)) true (jN (.pair (.pair (.int .i64) (.int .i64)) (.int .i64)) (y1.1,(0:Int)) true x.2.2.1)),())))) (J uC (aK Tryz.prog 138 1) ((x.2.1.1.1.1,((lI x.2.1.1.1.1),((0:Int),()))),((),x.2.2))):=by kernel_rfl
theorem Qk{F:FT}{J:JT mb}{x:(((List ai)×(Int×(Int×Unit)))×(Unit×((List (ab×Bool))×Unit)))}:eI 138 1 mb Tryz.f138 uC F J x = cond (decide (x.1.2.2.1<x.1.2.1)) (((aU x.1.1 x.1.2.2.1)).bind fun(y2:ai) =>(F 167 rP ((y2.2.1,()),())).bind fun(y3:Q6) =>(F 178 A4 ((y2.2.1,y3.1),())).bind fun(y4:Q0) =>cond (not y4.1.1) (some ((false,()),())) (J uD (aK Tryz.prog 138 2) ((x.1.1,(x.1.2.1,(x.1.2.2.1,(y2.2.1,((lI y2.2.1),((0:Int),())))))),((),x.2.2)))) (some ((((lI x.2.2.1)==0),()),())):=by kernel_rfl
theorem Ql{F:FT}{J:JT mb}{x:(((List ai)×(Int×(Int×((List ab)×(Int×(Int×Unit))))))×(Unit×((List (ab×Bool))×Unit)))}:eI 138 2 mb Tryz.f138 uD F J x = cond (decide (x.1.2.2.2.2.2.1<x.1.2.2.2.2.1)) (((aU x.1.2.2.2.1 x.1.2.2.2.2.2.1)).bind fun(y5:ab) =>cond (not (Option.getD (fM (.pair (.pair (.int .i64) (.int .i64)) (.int .i64)) y5 x.2.2.1) false)) (some ((false,()),())) (J uD (aK Tryz.prog 138 2) ((x.1.1,(x.1.2.1,(x.1.2.2.1,(x.1.2.2.2.1,(x.1.2.2.2.2.1,((wI (x.1.2.2.2.2.2.1+1)),())))))),((),((HU (.pair (.pair (.int .i64) (.int .i64)) (.int .i64)) y5 x.2.2.1),()))))) (J uC (aK Tryz.prog 138 1) ((x.1.1,(x.1.2.1,((wI (x.1.2.2.1+1)),()))),((),x.2.2))):=by kernel_rfl
theorem ahU{F:FT}{J:JT A4}{x:(((List ab)×((List ab)×Unit))×Unit)}:bH 178 A4 Tryz.f178 F J x = cond ((lI x.1.1) != (lI x.1.2.1)) (some ((false,()),())) (J xU (aK Tryz.prog 178 0) ((x.1.1,(x.1.2.1,((lI x.1.1),((0:Int),())))),((),()))):=by kernel_rfl
theorem Qm{F:FT}{J:JT A4}{x:(((List ab)×((List ab)×(Int×(Int×Unit))))×(Unit×Unit))}:eI 178 0 A4 Tryz.f178 xU F J x = cond (decide (x.1.2.2.2.1<x.1.2.2.1)) (((aU x.1.1 x.1.2.2.2.1)).bind fun(y1:ab) =>((aU x.1.2.1 x.1.2.2.2.1)).bind fun(y2:ab) =>cond (not (((y1.1.1==y2.1.1)&&(y1.1.2==y2.1.2))&&(y1.2==y2.2))) (some ((false,()),())) (J xU (aK Tryz.prog 178 0) ((x.1.1,(x.1.2.1,(x.1.2.2.1,((wI (x.1.2.2.2.1+1)),())))),((),())))) (some ((true,()),())):=by kernel_rfl
theorem ahV{F:FT}{J:JT DA}{x:(((List Int)×(ID×Unit))×Unit)}:bH 43 DA Tryz.f43 F J x = cond ((az (List.length x.1.1) (0:Int) (lI x.1.1))&&(decide ((lI x.1.1)=(lI x.1.1)))) (cond (decide ((16:Int)<0)) (none) (cond (decide ((8:Int)<0)) (none) (cond (aI (List.length (cut x.1.1 (0:Int) (lI x.1.1))) (List.length ((IntKind.wrap .u8 x.1.2.1.1)::((IntKind.wrap .u8 (iu .i64 x.1.2.1.2 (16:Int)))::((IntKind.wrap .u8 (iu .i64 x.1.2.1.2 (8:Int)))::((IntKind.wrap .u8 x.1.2.1.2)::([]:List Int))))))) (some ((((cut x.1.1 (0:Int) (lI x.1.1))++((IntKind.wrap .u8 x.1.2.1.1)::((IntKind.wrap .u8 (iu .i64 x.1.2.1.2 (16:Int)))::((IntKind.wrap .u8 (iu .i64 x.1.2.1.2 (8:Int)))::((IntKind.wrap .u8 x.1.2.1.2)::([]:List Int)))))),()),())) (none)))) (none):=by kernel_rfl
theorem ahW{F:FT}{J:JT G4}{x:((ByteArray×(Int×Unit))×Unit)}:bH 140 G4 Tryz.f140 F J x =(F 141 xw ((x.1.1,()),())).bind fun(y1:Q0) =>some (((not y1.1.1),()),()):=by kernel_rfl
theorem ahX{F:FT}{J:JT G5}{x:((ByteArray×(Int×Unit))×Unit)}:bH 142 G5 Tryz.f142 F J x =(F 143 IH (x.1.2,())).bind fun(y1:Q0) =>some (((not y1.1.1),()),()):=by kernel_rfl
theorem Xp{F:FT}{J:JT lJ}{x:(((List ai)×Unit)×Unit)}:bH 136134 lJ Tryz.f134 F J x = J nw (aK Tryz.prog 134 0) ((x.1.1,((lI x.1.1),((0:Int),()))),((),(([]:List ID),()))):=by kernel_rfl
theorem EX{F:FT}{J:JT lJ}{x:(((List ai)×(Int×(Int×Unit)))×(Unit×((List ID)×Unit)))}:eI 136134 0 lJ Tryz.f134 nw F J x = cond (decide (x.1.2.2.1<x.1.2.1)) (((aU x.1.1 x.1.2.2.1)).bind fun(y1:ai) =>(F 135 Dx ((y1,()),())).bind fun(y2:((ID×Unit)×Unit)) =>cond (aI (List.length x.2.2.1) (List.length (y2.1.1::([]:List ID)))) (J nw (aK Tryz.prog 134 0) ((x.1.1,(x.1.2.1,((wI (x.1.2.2.1+1)),()))),((),((x.2.2.1++(y2.1.1::([]:List ID))),())))) (none)) (some (x.2.2,())):=by kernel_rfl
theorem Xq{F:FT}{J:JT lK}{x:(((List ag)×Unit)×Unit)}:bH 138136 lK Tryz.f136 F J x = J nC (aK Tryz.prog 136 0) ((x.1.1,((lI x.1.1),((0:Int),()))),((),(([]:List ID),()))):=by kernel_rfl
theorem EY{F:FT}{J:JT lK}{x:(((List ag)×(Int×(Int×Unit)))×(Unit×((List ID)×Unit)))}:eI 138136 0 lK Tryz.f136 nC F J x = cond (decide (x.1.2.2.1<x.1.2.1)) (((aU x.1.1 x.1.2.2.1)).bind fun(y1:ag) =>(F 137 La ((y1,()),())).bind fun(y2:((ID×Unit)×Unit)) =>cond (aI (List.length x.2.2.1) (List.length (y2.1.1::([]:List ID)))) (J nC (aK Tryz.prog 136 0) ((x.1.1,(x.1.2.1,((wI (x.1.2.2.1+1)),()))),((),((x.2.2.1++(y2.1.1::([]:List ID))),())))) (none)) (some (x.2.2,())):=by kernel_rfl
theorem Xr{F:FT}{J:JT ta}{x:((ak×Unit)×Unit)}:bH 141139 ta Tryz.f139 F J x =(F 14100181179 iF ((x.1.1.1,()),(((),()),()))).bind fun(y1:Q44) =>cond y1.1.1 (some ((true,()),())) ((F 14100183181 iH ((x.1.1.2,()),(((),()),()))).bind fun(y2:Q44) =>some (y2.1,())):=by kernel_rfl
theorem Xs{F:FT}{J:JT tc}{x:((ak×Unit)×Unit)}:bH 143139 tc Tryz.f139 F J x =(F 14300181179 iG ((x.1.1.1,()),(((),()),()))).bind fun(y1:Q44) =>cond y1.1.1 (some ((true,()),())) ((F 14300183181 iI ((x.1.1.2,()),(((),()),()))).bind fun(y2:Q44) =>some (y2.1,())):=by kernel_rfl
theorem FN{F:FT}{J:JT iF}{x:(((List ai)×Unit)×((Unit×Unit)×Unit))}:bH 14100181179 iF Tryz.f179 F J x =(F 14100181203 dP (x.1,(((),()),()))).bind fun(y1:Q46) =>some (((decide (y1.1.1≥0)),()),(((),()),())):=by kernel_rfl
theorem FO{F:FT}{J:JT iG}{x:(((List ai)×Unit)×((Unit×Unit)×Unit))}:bH 14300181179 iG Tryz.f179 F J x =(F 14300181203 dQ (x.1,(((),()),()))).bind fun(y1:Q46) =>some (((decide (y1.1.1≥0)),()),(((),()),())):=by kernel_rfl
theorem FP{F:FT}{J:JT dP}{x:(((List ai)×Unit)×((Unit×Unit)×Unit))}:bH 14100181203 dP Tryz.f203 F J x = J gi (aK Tryz.prog 203 0) ((x.1.1,((lI x.1.1),((0:Int),()))),((((),()),()),())):=by kernel_rfl
theorem rW{F:FT}{J:JT dP}{x:(((List ai)×(Int×(Int×Unit)))×(((Unit×Unit)×Unit)×Unit))}:eI 14100181203 0 dP Tryz.f203 gi F J x = cond (decide (x.1.2.2.1<x.1.2.1)) (((aU x.1.1 x.1.2.2.1)).bind fun(y1:ai) =>(F 14100000180 iJ ((y1,()),(((),()),()))).bind fun(y2:Q44) =>cond y2.1.1 (some (x.1.2.2,(((),()),()))) (J gi (aK Tryz.prog 203 0) ((x.1.1,(x.1.2.1,((wI (x.1.2.2.1+1)),()))),((((),()),()),())))) (some (((-1:Int),()),(((),()),()))):=by kernel_rfl
theorem FQ{F:FT}{J:JT dQ}{x:(((List ai)×Unit)×((Unit×Unit)×Unit))}:bH 14300181203 dQ Tryz.f203 F J x = J gj (aK Tryz.prog 203 0) ((x.1.1,((lI x.1.1),((0:Int),()))),((((),()),()),())):=by kernel_rfl
theorem rX{F:FT}{J:JT dQ}{x:(((List ai)×(Int×(Int×Unit)))×(((Unit×Unit)×Unit)×Unit))}:eI 14300181203 0 dQ Tryz.f203 gj F J x = cond (decide (x.1.2.2.1<x.1.2.1)) (((aU x.1.1 x.1.2.2.1)).bind fun(y1:ai) =>(F 14300000180 iK ((y1,()),(((),()),()))).bind fun(y2:Q44) =>cond y2.1.1 (some (x.1.2.2,(((),()),()))) (J gj (aK Tryz.prog 203 0) ((x.1.1,(x.1.2.1,((wI (x.1.2.2.1+1)),()))),((((),()),()),())))) (some (((-1:Int),()),(((),()),()))):=by kernel_rfl
theorem FR{F:FT}{J:JT iH}{x:(((List ag)×Unit)×((Unit×Unit)×Unit))}:bH 14100183181 iH Tryz.f181 F J x =(F 14100183204 dR (x.1,(((),()),()))).bind fun(y1:Q46) =>some (((decide (y1.1.1≥0)),()),(((),()),())):=by kernel_rfl
theorem FU{F:FT}{J:JT iI}{x:(((List ag)×Unit)×((Unit×Unit)×Unit))}:bH 14300183181 iI Tryz.f181 F J x =(F 14300183204 dS (x.1,(((),()),()))).bind fun(y1:Q46) =>some (((decide (y1.1.1≥0)),()),(((),()),())):=by kernel_rfl
theorem FV{F:FT}{J:JT dR}{x:(((List ag)×Unit)×((Unit×Unit)×Unit))}:bH 14100183204 dR Tryz.f204 F J x = J gk (aK Tryz.prog 204 0) ((x.1.1,((lI x.1.1),((0:Int),()))),((((),()),()),())):=by kernel_rfl
theorem rY{F:FT}{J:JT dR}{x:(((List ag)×(Int×(Int×Unit)))×(((Unit×Unit)×Unit)×Unit))}:eI 14100183204 0 dR Tryz.f204 gk F J x = cond (decide (x.1.2.2.1<x.1.2.1)) (((aU x.1.1 x.1.2.2.1)).bind fun(y1:ag) =>(F 14100000182 iL ((y1,()),(((),()),()))).bind fun(y2:Q44) =>cond y2.1.1 (some (x.1.2.2,(((),()),()))) (J gk (aK Tryz.prog 204 0) ((x.1.1,(x.1.2.1,((wI (x.1.2.2.1+1)),()))),((((),()),()),())))) (some (((-1:Int),()),(((),()),()))):=by kernel_rfl
theorem FY{F:FT}{J:JT dS}{x:(((List ag)×Unit)×((Unit×Unit)×Unit))}:bH 14300183204 dS Tryz.f204 F J x = J gm (aK Tryz.prog 204 0) ((x.1.1,((lI x.1.1),((0:Int),()))),((((),()),()),())):=by kernel_rfl
theorem rZ{F:FT}{J:JT dS}{x:(((List ag)×(Int×(Int×Unit)))×(((Unit×Unit)×Unit)×Unit))}:eI 14300183204 0 dS Tryz.f204 gm F J x = cond (decide (x.1.2.2.1<x.1.2.1)) (((aU x.1.1 x.1.2.2.1)).bind fun(y1:ag) =>(F 14300000182 iM ((y1,()),(((),()),()))).bind fun(y2:Q44) =>cond y2.1.1 (some (x.1.2.2,(((),()),()))) (J gm (aK Tryz.prog 204 0) ((x.1.1,(x.1.2.1,((wI (x.1.2.2.1+1)),()))),((((),()),()),())))) (some (((-1:Int),()),(((),()),()))):=by kernel_rfl
theorem FZ{F:FT}{J:JT iJ}{x:((ai×Unit)×((Unit×Unit)×Unit))}:bH 14100000180 iJ Tryz.f180 F J x =(F 140 G4 ((x.1.1.2.2.1,(x.1.1.2.2.2,())),())).bind fun(y1:Q0) =>some (y1.1,(((),()),())):=by kernel_rfl
theorem F2{F:FT}{J:JT iK}{x:((ai×Unit)×((Unit×Unit)×Unit))}:bH 14300000180 iK Tryz.f180 F J x =(F 142 G5 ((x.1.1.2.2.1,(x.1.1.2.2.2,())),())).bind fun(y1:Q0) =>some (y1.1,(((),()),())):=by kernel_rfl
theorem F3{F:FT}{J:JT iL}{x:((ag×Unit)×((Unit×Unit)×Unit))}:bH 14100000182 iL Tryz.f182 F J x =(F 140 G4 ((x.1.1.2.1,(x.1.1.2.2,())),())).bind fun(y1:Q0) =>some (y1.1,(((),()),())):=by kernel_rfl
theorem F4{F:FT}{J:JT iM}{x:((ag×Unit)×((Unit×Unit)×Unit))}:bH 14300000182 iM Tryz.f182 F J x =(F 142 G5 ((x.1.1.2.1,(x.1.1.2.2,())),())).bind fun(y1:Q0) =>some (y1.1,(((),()),())):=by kernel_rfl
theorem ahY{F:FT}{J:JT me}{x:((Int×(StateT×Unit))×Unit)}:bH 22 me Tryz.f22 F J x = cond (decide (x.1.1<0)) (some ((([]:List Int),((1:Int),())),())) (cond (decide (x.1.1>1073741824)) (some ((([]:List Int),((1:Int),())),())) ((F 48 xF ((x.1.2.1.2,()),())).bind fun(y1:Q0) =>cond (not y1.1.1) (some ((([]:List Int),((1:Int),())),())) ((F 42 kl ((x.1.2.1.1,()),())).bind fun(y2:XR) =>cond (y2.1.2.1 != 0) (some ((([]:List Int),y2.1.2),())) ((F 49 rQ ((([]:List Int),(x.1.1,())),())).bind fun(y3:XS) =>(F 49 rQ ((y3.1.1,((lI y2.1.1),())),())).bind fun(y4:XS) =>cond (aI (List.length y4.1.1) (List.length y2.1.1)) (J oq (aK Tryz.prog 22 0) ((x.1.2.1.2,((lI x.1.2.1.2),((0:Int),()))),((),((y4.1.1++y2.1.1),())))) (none))))):=by kernel_rfl
theorem Qn{F:FT}{J:JT me}{x:(((List ax)×(Int×(Int×Unit)))×(Unit×((List Int)×Unit)))}:eI 22 0 me Tryz.f22 oq F J x = cond (decide (x.1.2.2.1<x.1.2.1)) (((aU x.1.1 x.1.2.2.1)).bind fun(y5:ax) =>(F 43 DA ((x.2.2.1,(y5.1.1,())),())).bind fun(y6:XS) =>cond (aI (List.length y6.1.1) (List.length ((IntKind.wrap .u8 y5.1.2)::([]:List Int)))) (cond (((y5.2.1.1==0)&&(y5.2.1.2==0))&&(y5.2.2==0)) (cond (aI (List.length (y6.1.1++((IntKind.wrap .u8 y5.1.2)::([]:List Int)))) (List.length ((0:Int)::([]:List Int)))) (J oq (aK Tryz.prog 22 0) ((x.1.1,(x.1.2.1,((wI (x.1.2.2.1+1)),()))),((),(((y6.1.1++((IntKind.wrap .u8 y5.1.2)::([]:List Int)))++((0:Int)::([]:List Int))),())))) (none)) (cond (aI (List.length (y6.1.1++((IntKind.wrap .u8 y5.1.2)::([]:List Int)))) (List.length ((IntKind.wrap .u8 (wI (y5.2.2+1)))::([]:List Int)))) ((F 43 DA ((((y6.1.1++((IntKind.wrap .u8 y5.1.2)::([]:List Int)))++((IntKind.wrap .u8 (wI (y5.2.2+1)))::([]:List Int))),(y5.2.1,())),())).bind fun(y7:XS) =>J oq (aK Tryz.prog 22 0) ((x.1.1,(x.1.2.1,((wI (x.1.2.2.1+1)),()))),((),y7.1))) (none))) (none)) (some ((x.2.2.1,((0:Int),())),())):=by kernel_rfl
theorem abe{F:FT}{J:JT jZ}{x:(((List Int)×Unit)×Unit)}:bH 24 jZ Tryz.f24 F J x =(F 53 pT (x.1,())).bind fun(y1:Q49) =>(F 53 pT ((y1.1.2.1,()),())).bind fun(y2:Q49) =>cond (not y2.1.2.2.1) (some (((0:Int),(OS,((2:Int),()))),())) (cond (decide (y2.1.1<0)) (some (((0:Int),(OS,((2:Int),()))),())) (cond (decide (y2.1.1>(lI y2.1.2.1))) (some (((0:Int),(OS,((2:Int),()))),())) (cond (az (List.length y2.1.2.1) (0:Int) y2.1.1) ((F 54 iO (((cut y2.1.2.1 (0:Int) y2.1.1),()),())).bind fun(y3:((ak×(Int×Unit))×Unit)) =>cond (az (List.length y2.1.2.1) y2.1.1 (lI y2.1.2.1)) (J j0 (aK Tryz.prog 24 0) ((x.1.1,(y1.1.1,((cut y2.1.2.1 y2.1.1 (lI y2.1.2.1)),y3.1.2))),((OW,((y3.1.1.1,(y3.1.1.2,(([]:List ax),()))),())),()))) (none)) (none)))):=by kernel_rfl
theorem yx{F:FT}{J:JT jZ}{x:(((List Int)×(Int×((List Int)×(Int×Unit))))×((aX×(aX×Unit))×Unit))}:eI 24 0 jZ Tryz.f24 j0 F J x = cond (x.1.2.2.2.1==0) (cond (decide ((lI x.1.2.2.1)>0)) (cond (decide ((lI x.2.1.2.1.2.2.1)≤400)) ((F 55 G6 ((x.1.2.2.1,()),())).bind fun(y4:((ax×((List Int)×(Bool×Unit)))×Unit)) =>cond (not y4.1.2.2.1) (cond (aI (List.length x.2.1.2.1.2.2.1) (List.length (y4.1.1::([]:List ax)))) (J j0 (aK Tryz.prog 24 0) ((x.1.1,(x.1.2.1,(y4.1.2.1,((2:Int),())))),((x.2.1.1,((x.2.1.2.1.1,(x.2.1.2.1.2.1,((x.2.1.2.1.2.2.1++(y4.1.1::([]:List ax))),()))),())),()))) (none)) (cond (aI (List.length x.2.1.2.1.2.2.1) (List.length (y4.1.1::([]:List ax)))) (J j0 (aK Tryz.prog 24 0) ((x.1.1,(x.1.2.1,(y4.1.2.1,x.1.2.2.2))),((x.2.1.1,((x.2.1.2.1.1,(x.2.1.2.1.2.1,((x.2.1.2.1.2.2.1++(y4.1.1::([]:List ax))),()))),())),()))) (none))) (cond (x.1.2.2.2.1 != 0) (some (((0:Int),(OS,((2:Int),()))),())) ((F 22 me ((x.1.2.1,(((x.2.1.2.1.1,x.2.1.2.1.2.1),x.2.1.2.1.2.2.1),())),())).bind fun(y5:XR) =>cond (y5.1.2.1 != 0) (some (((0:Int),(OS,((2:Int),()))),())) ((F 46 A3 ((y5.1.1,(x.1.1,())),())).bind fun(y6:Q0) =>cond (not y6.1.1) (some (((0:Int),(OS,((2:Int),()))),())) (some ((x.1.2.1,(((x.2.1.2.1.1,x.2.1.2.1.2.1),x.2.1.2.1.2.2.1),((0:Int),()))),())))))) (cond (x.1.2.2.2.1 != 0) (some (((0:Int),(OS,((2:Int),()))),())) ((F 22 me ((x.1.2.1,(((x.2.1.2.1.1,x.2.1.2.1.2.1),x.2.1.2.1.2.2.1),())),())).bind fun(y7:XR) =>cond (y7.1.2.1 != 0) (some (((0:Int),(OS,((2:Int),()))),())) ((F 46 A3 ((y7.1.1,(x.1.1,())),())).bind fun(y8:Q0) =>cond (not y8.1.1) (some (((0:Int),(OS,((2:Int),()))),())) (some ((x.1.2.1,(((x.2.1.2.1.1,x.2.1.2.1.2.1),x.2.1.2.1.2.2.1),((0:Int),()))),())))))) (cond (x.1.2.2.2.1 != 0) (some (((0:Int),(OS,((2:Int),()))),())) ((F 22 me ((x.1.2.1,(((x.2.1.2.1.1,x.2.1.2.1.2.1),x.2.1.2.1.2.2.1),())),())).bind fun(y9:XR) =>cond (y9.1.2.1 != 0) (some (((0:Int),(OS,((2:Int),()))),())) ((F 46 A3 ((y9.1.1,(x.1.1,())),())).bind fun(nL:Q0) =>cond (not nL.1.1) (some (((0:Int),(OS,((2:Int),()))),())) (some ((x.1.2.1,(((x.2.1.2.1.1,x.2.1.2.1.2.1),x.2.1.2.1.2.2.1),((0:Int),()))),()))))):=by kernel_rfl
theorem ahZ{F:FT}{J:JT xF}{x:(((List ax)×Unit)×Unit)}:bH 48 xF Tryz.f48 F J x = J mn (aK Tryz.prog 48 0) ((x.1.1,(x.1.1,((lI x.1.1),((0:Int),())))),((),())):=by kernel_rfl
theorem Qo{F:FT}{J:JT xF}{x:(((List ax)×((List ax)×(Int×(Int×Unit))))×(Unit×Unit))}:eI 48 0 xF Tryz.f48 mn F J x = cond (decide (x.1.2.2.2.1<x.1.2.2.1)) (((aU x.1.2.1 x.1.2.2.2.1)).bind fun(y1:ax) =>(F 72 Dn ((y1.1,()),())).bind fun(y2:Q0) =>cond (not y2.1.1) (some ((false,()),())) (cond (not (((y1.2.1.1==0)&&(y1.2.1.2==0))&&(y1.2.2==0))) ((F 72 Dn ((y1.2,()),())).bind fun(y3:Q0) =>cond (not y3.1.1) (some ((false,()),())) (cond (decide (x.1.2.2.2.1>0)) (((aU x.1.1 (wI (x.1.2.2.2.1-1)))).bind fun(y4:ax) =>(F 73 AX ((y4.1,(y1.1,())),())).bind fun(y5:Q2) =>cond (decide (y5.1.1≥0)) (some ((false,()),())) (J mn (aK Tryz.prog 48 0) ((x.1.1,(x.1.2.1,(x.1.2.2.1,((wI (x.1.2.2.2.1+1)),())))),((),())))) (J mn (aK Tryz.prog 48 0) ((x.1.1,(x.1.2.1,(x.1.2.2.1,((wI (x.1.2.2.2.1+1)),())))),((),()))))) (cond (decide (x.1.2.2.2.1>0)) (((aU x.1.1 (wI (x.1.2.2.2.1-1)))).bind fun(y6:ax) =>(F 73 AX ((y6.1,(y1.1,())),())).bind fun(y7:Q2) =>cond (decide (y7.1.1≥0)) (some ((false,()),())) (J mn (aK Tryz.prog 48 0) ((x.1.1,(x.1.2.1,(x.1.2.2.1,((wI (x.1.2.2.2.1+1)),())))),((),())))) (J mn (aK Tryz.prog 48 0) ((x.1.1,(x.1.2.1,(x.1.2.2.1,((wI (x.1.2.2.2.1+1)),())))),((),())))))) (some (((decide ((lI x.1.1)≤400)),()),())):=by kernel_rfl
theorem ah0{F:FT}{J:JT pT}{x:(((List Int)×Unit)×Unit)}:bH 53 pT Tryz.f53 F J x = cond (decide ((lI x.1.1)<8)) (some (((0:Int),(x.1.1,(false,()))),())) (cond (az (List.length x.1.1) (0:Int) (8:Int)) (J ot (aK Tryz.prog 53 0) ((x.1.1,((0:Int),((cut x.1.1 (0:Int) (8:Int)),((lI (cut x.1.1 (0:Int) (8:Int))),((0:Int),()))))),((),()))) (none)):=by kernel_rfl
theorem Qp{F:FT}{J:JT pT}{x:(((List Int)×(Int×((List Int)×(Int×(Int×Unit)))))×(Unit×Unit))}:eI 53 0 pT Tryz.f53 ot F J x = cond (decide (x.1.2.2.2.2.1<x.1.2.2.2.1)) (((aU x.1.2.2.1 x.1.2.2.2.2.1)).bind fun(y1:Int) =>cond (decide ((8:Int)<0)) (none) (J ot (aK Tryz.prog 53 0) ((x.1.1,((cH .or .u64 (Bl .u64 x.1.2.1 (8:Int)) (IntKind.wrap .u64 y1)),(x.1.2.2.1,(x.1.2.2.2.1,((wI (x.1.2.2.2.2.1+1)),()))))),((),())))) (cond (az (List.length x.1.1) (8:Int) (lI x.1.1)) (some (((wI x.1.2.1),((cut x.1.1 (8:Int) (lI x.1.1)),(true,()))),())) (none)):=by kernel_rfl
theorem ah1{F:FT}{J:JT iO}{x:(((List Int)×Unit)×Unit)}:bH 54 iO Tryz.f54 F J x =(F 76 A5 ((),((x.1.1,(false,())),()))).bind fun(y1:Q50) =>J rf (aK Tryz.prog 54 0) ((x.1.1,y1.1),(((([]:List ai),(([]:List ag),())),(y1.2.1,((([]:List ai),(([]:List ag),())),()))),())):=by kernel_rfl
theorem Qq{F:FT}{J:JT iO}{x:(((List Int)×(Int×Unit))×((((List ai)×((List ag)×Unit))×(((List Int)×(Bool×Unit))×(((List ai)×((List ag)×Unit))×Unit)))×Unit))}:eI 54 0 iO Tryz.f54 rf F J x = cond (decide (x.1.2.1>0)) (cond (not x.2.1.2.1.2.1) ((F 77 G7 ((),(x.2.1.2.1,()))).bind fun(y2:((ag×Unit)×(((List Int)×(Bool×Unit))×Unit))) =>cond (aI (List.length x.2.1.2.2.1.2.1) (List.length (y2.1.1::([]:List ag)))) (J rf (aK Tryz.prog 54 0) ((x.1.1,((wI (x.1.2.1-1)),())),((x.2.1.1,(y2.2.1,((x.2.1.2.2.1.1,((x.2.1.2.2.1.2.1++(y2.1.1::([]:List ag))),())),()))),()))) (none)) ((F 76 A5 ((),(x.2.1.2.1,()))).bind fun(y3:Q50) =>J ou (aK Tryz.prog 54 1) ((x.1.1,y3.1),((x.2.1.1,(y3.2.1,(x.2.1.2.2.1,()))),())))) ((F 76 A5 ((),(x.2.1.2.1,()))).bind fun(y4:Q50) =>J ou (aK Tryz.prog 54 1) ((x.1.1,y4.1),((x.2.1.1,(y4.2.1,(x.2.1.2.2.1,()))),()))):=by kernel_rfl
theorem Qr{F:FT}{J:JT iO}{x:(((List Int)×(Int×Unit))×((((List ai)×((List ag)×Unit))×(((List Int)×(Bool×Unit))×(((List ai)×((List ag)×Unit))×Unit)))×Unit))}:eI 54 1 iO Tryz.f54 ou F J x = cond (decide (x.1.2.1>0)) (cond (not x.2.1.2.1.2.1) ((F 77 G7 ((),(x.2.1.2.1,()))).bind fun(y5:((ag×Unit)×(((List Int)×(Bool×Unit))×Unit))) =>(F 78 G8 ((y5.2.1.1,()),())).bind fun(y6:(((List Int)×((List Int)×(Bool×Unit)))×Unit)) =>cond y5.2.1.2.1 (J rh (aK Tryz.prog 54 2) ((x.1.1,(x.1.2.1,(x.2.1.2.1.2.1,((not x.2.1.2.1.2.1),(y6.1.1,((lI y6.1.1),((0:Int),()))))))),((x.2.1.1,((y6.1.2.1,(true,())),(x.2.1.2.2.1,((y5.1.1.1.1,(y5.1.1.1.2,(([]:List ab),(y5.1.1.2.1,(y5.1.1.2.2,()))))),())))),()))) (J rh (aK Tryz.prog 54 2) ((x.1.1,(x.1.2.1,(x.2.1.2.1.2.1,((not x.2.1.2.1.2.1),(y6.1.1,((lI y6.1.1),((0:Int),()))))))),((x.2.1.1,((y6.1.2.1,((not y6.1.2.2.1),())),(x.2.1.2.2.1,((y5.1.1.1.1,(y5.1.1.1.2,(([]:List ab),(y5.1.1.2.1,(y5.1.1.2.2,()))))),())))),())))) ((F 42 kl (((x.2.1.2.2.1.1,x.2.1.2.2.1.2.1),()),())).bind fun(y7:XR) =>cond x.2.1.2.1.2.1 (some (((([]:List ai),([]:List ag)),((2:Int),())),())) (cond (y7.1.2.1 != 0) (some (((([]:List ai),([]:List ag)),((2:Int),())),())) ((F 46 A3 ((y7.1.1,(x.1.1,())),())).bind fun(y8:Q0) =>cond (not y8.1.1) (some (((([]:List ai),([]:List ag)),((2:Int),())),())) (some (((x.2.1.2.2.1.1,x.2.1.2.2.1.2.1),((0:Int),())),())))))) ((F 42 kl (((x.2.1.2.2.1.1,x.2.1.2.2.1.2.1),()),())).bind fun(y9:XR) =>cond x.2.1.2.1.2.1 (some (((([]:List ai),([]:List ag)),((2:Int),())),())) (cond (y9.1.2.1 != 0) (some (((([]:List ai),([]:List ag)),((2:Int),())),())) ((F 46 A3 ((y9.1.1,(x.1.1,())),())).bind fun(nL:Q0) =>cond (not nL.1.1) (some (((([]:List ai),([]:List ag)),((2:Int),())),())) (some (((x.2.1.2.2.1.1,x.2.1.2.2.1.2.1),((0:Int),())),()))))):=by kernel_rfl
theorem Qs{F:FT}{J:JT iO}{x:(((List Int)×(Int×(Bool×(Bool×((List Int)×(Int×(Int×Unit)))))))×((((List ai)×((List ag)×Unit))×(((List Int)×(Bool×Unit))×(((List ai)×((List ag)×Unit))×((Int×(Int×((List ab)×(ByteArray×(Int×Unit)))))×Unit))))×Unit))}:eI 54 2 iO Tryz.f54 rh F J x = cond (decide (x.1.2.2.2.2.2.2.1<x.1.2.2.2.2.2.1)) (((aU x.1.2.2.2.2.1 x.1.2.2.2.2.2.2.1)).bind fun(lL:Int) =>cond ((128:Int)==0) (none) (cond (decide ((Int.tmod (wI lL) (128:Int))≥(lI x.2.1.2.2.1.2.1))) (some (((([]:List ai),([]:List ag)),((2:Int),())),())) (cond ((decide ((0:Int)≤(Int.tmod (wI lL) (128:Int))))&&(decide ((Int.tmod (wI lL) (128:Int))<(lI x.2.1.2.2.1.2.1)))) (((x.2.1.2.2.1.2.1)[(Int.toNat (Int.tmod (wI lL) (128:Int)))]?).bind fun(qv:ag) =>cond ((128:Int)==0) (none) (cond (aI (List.length x.2.1.2.2.2.1.2.2.1) (List.length ((qv.1,(wI (Int.tdiv (wI lL) (128:Int))))::([]:List ab)))) (J rh (aK Tryz.prog 54 2) ((x.1.1,(x.1.2.1,(x.1.2.2.1,(x.1.2.2.2.1,(x.1.2.2.2.2.1,(x.1.2.2.2.2.2.1,((wI (x.1.2.2.2.2.2.2.1+1)),()))))))),((x.2.1.1,(x.2.1.2.1,(x.2.1.2.2.1,((x.2.1.2.2.2.1.1,(x.2.1.2.2.2.1.2.1,((x.2.1.2.2.2.1.2.2.1++((qv.1,(wI (Int.tdiv (wI lL) (128:Int))))::([]:List ab))),x.2.1.2.2.2.1.2.2.2))),())))),()))) (none))) (none)))) (cond (aI (List.length x.2.1.2.2.1.1) (List.length (((x.2.1.2.2.2.1.1,x.2.1.2.2.2.1.2.1),(x.2.1.2.2.2.1.2.2.1,(x.2.1.2.2.2.1.2.2.2.1,x.2.1.2.2.2.1.2.2.2.2.1)))::([]:List ai)))) (J ou (aK Tryz.prog 54 1) ((x.1.1,((wI (x.1.2.1-1)),())),((x.2.1.1,(x.2.1.2.1,(((x.2.1.2.2.1.1++(((x.2.1.2.2.2.1.1,x.2.1.2.2.2.1.2.1),(x.2.1.2.2.2.1.2.2.1,(x.2.1.2.2.2.1.2.2.2.1,x.2.1.2.2.2.1.2.2.2.2.1)))::([]:List ai))),x.2.1.2.2.1.2),()))),()))) (none)):=by kernel_rfl
theorem Xt{F:FT}{J:JT G6}{x:(((List Int)×Unit)×Unit)}:bH 55 G6 Tryz.f55 F J x =(F 79 np (x.1,())).bind fun(y1:Q51) =>cond (not y1.1.2.2.1) (some ((((y1.1.1,(0:Int)),OD),(([]:List Int),(false,()))),())) (cond (decide ((lI y1.1.2.1)<2)) (some ((((y1.1.1,(0:Int)),OD),(([]:List Int),(false,()))),())) (((aU y1.1.2.1 (1:Int))).bind fun(y2:Int) =>cond (decide (y2>2)) (some ((((y1.1.1,(0:Int)),OD),(([]:List Int),(false,()))),())) (((aU y1.1.2.1 (0:Int))).bind fun(y3:Int) =>((aU y1.1.2.1 (1:Int))).bind fun(y4:Int) =>cond (az (List.length y1.1.2.1) (2:Int) (lI y1.1.2.1)) (cond (decide ((wI y4)>0)) ((F 79 np (((cut y1.1.2.1 (2:Int) (lI y1.1.2.1)),()),())).bind fun(y5:Q51) =>some ((((y1.1.1,(wI y3)),(y5.1.1,(wI ((wI y4)-1)))),y5.1.2),())) (some ((((y1.1.1,(wI y3)),OD),((cut y1.1.2.1 (2:Int) (lI y1.1.2.1)),y1.1.2.2)),()))) (none)))):=by kernel_rfl
theorem ah2{F:FT}{J:JT A5}{x:(Unit×(((List Int)×(Bool×Unit))×Unit))}:bH 76 A5 Tryz.f76 F J x = cond ((lI x.2.1.1)==0) (some (((0:Int),()),((x.2.1.1,(true,())),()))) (((aU x.2.1.1 (0:Int))).bind fun(y1:Int) =>cond (az (List.length x.2.1.1) (1:Int) (lI x.2.1.1)) (some (((wI y1),()),(((cut x.2.1.1 (1:Int) (lI x.2.1.1)),x.2.1.2),()))) (none)):=by kernel_rfl
theorem ah3{F:FT}{J:JT G7}{x:(Unit×(((List Int)×(Bool×Unit))×Unit))}:bH 77 G7 Tryz.f77 F J x =(F 79 np ((x.2.1.1,()),())).bind fun(y1:Q51) =>(F 106 Le ((y1.1.2.1,()),())).bind fun(y2:((ByteArray×((List Int)×(Bool×Unit)))×Unit)) =>(F 53 pT ((y2.1.2.1,()),())).bind fun(y3:Q49) =>cond x.2.1.2.1 (some (((y1.1.1,(y2.1.1,y3.1.1)),()),((y3.1.2.1,(true,())),()))) (cond (not y1.1.2.2.1) (some (((y1.1.1,(y2.1.1,y3.1.1)),()),((y3.1.2.1,(true,())),()))) (cond (not y2.1.2.2.1) (some (((y1.1.1,(y2.1.1,y3.1.1)),()),((y3.1.2.1,(true,())),()))) (some (((y1.1.1,(y2.1.1,y3.1.1)),()),((y3.1.2.1,((not y3.1.2.2.1),())),()))))):=by kernel_rfl
theorem ah4{F:FT}{J:JT G8}{x:(((List Int)×Unit)×Unit)}:bH 78 G8 Tryz.f78 F J x = cond ((lI x.1.1)==0) (some ((([]:List Int),(x.1.1,(false,()))),())) (((aU x.1.1 (0:Int))).bind fun(y1:Int) =>cond (decide ((wI ((lI x.1.1)-1))<(wI y1))) (some ((([]:List Int),(x.1.1,(false,()))),())) (((aU x.1.1 (0:Int))).bind fun(y2:Int) =>cond (az (List.length x.1.1) (1:Int) (wI ((1:Int)+(wI y2)))) (cond (az (List.length x.1.1) (wI ((1:Int)+(wI y2))) (lI x.1.1)) (some (((cut x.1.1 (1:Int) (wI ((1:Int)+(wI y2)))),((cut x.1.1 (wI ((1:Int)+(wI y2))) (lI x.1.1)),(true,()))),())) (none)) (none))):=by kernel_rfl
theorem ah5{F:FT}{J:JT np}{x:(((List Int)×Unit)×Unit)}:bH 79 np Tryz.f79 F J x = cond (decide ((lI x.1.1)<4)) (some ((OI,(x.1.1,(false,()))),())) (((aU x.1.1 (0:Int))).bind fun(y1:Int) =>cond (az (List.length x.1.1) (1:Int) (4:Int)) (J ov (aK Tryz.prog 79 0) ((x.1.1,((cut x.1.1 (1:Int) (4:Int)),((lI (cut x.1.1 (1:Int) (4:Int))),((0:Int),())))),(((OI,()),((((wI y1),(0:Int)),()),())),()))) (none)):=by kernel_rfl
theorem Qt{F:FT}{J:JT np}{x:(((List Int)×((List Int)×(Int×(Int×Unit))))×(((ID×Unit)×((ID×Unit)×Unit))×Unit))}:eI 79 0 np Tryz.f79 ov F J x = cond (decide (x.1.2.2.2.1<x.1.2.2.1)) (((aU x.1.2.1 x.1.2.2.2.1)).bind fun(y2:Int) =>cond (decide ((8:Int)<0)) (none) (J ov (aK Tryz.prog 79 0) ((x.1.1,(x.1.2.1,(x.1.2.2.1,((wI (x.1.2.2.2.1+1)),())))),(((x.2.1.1.1,()),(((x.2.1.2.1.1.1,(cH .or .i64 (Bl .i64 x.2.1.2.1.1.2 (8:Int)) (wI y2))),()),())),())))) ((F 100 q6 ((x.2.1.2.1.1,()),())).bind fun(y3:Q0) =>cond (not y3.1.1) (some ((OI,(x.1.1,(false,()))),())) (cond (az (List.length x.1.1) (4:Int) (lI x.1.1)) (some ((x.2.1.2.1.1,((cut x.1.1 (4:Int) (lI x.1.1)),(true,()))),())) (none))):=by kernel_rfl
theorem ah6{F:FT}{J:JT Le}{x:(((List Int)×Unit)×Unit)}:bH 106 Le Tryz.f106 F J x =(F 78 G8 (x.1,())).bind fun(y1:(((List Int)×((List Int)×(Bool×Unit)))×Unit)) =>some (((strOf y1.1.1),y1.1.2),()):=by kernel_rfl
theorem ah7{F:FT}{J:JT rR}{x:((Int×(Int×(((List (List br))×(List (List br)))×Unit)))×Unit)}:bH 7 rR Tryz.f7 F J x =(F 20 K3 ((),())).bind fun(y1:Q0) =>J xV (aK Tryz.prog 7 0) (((cH .and .i64 x.1.1 (1073741823:Int)),((cH .and .i64 x.1.2.1 (1073741823:Int)),(y1.1.1,((0:Int),())))),(((x.1.2.2.1.1,(x.1.2.2.1.2,())),((OS,()),((OS,()),()))),())):=by kernel_rfl
theorem Qu{F:FT}{J:JT rR}{x:((Int×(Int×(Bool×(Int×Unit))))×((((List (List br))×((List (List br))×Unit))×((StateT×Unit)×((StateT×Unit)×Unit)))×Unit))}:eI 7 0 rR Tryz.f7 xV F J x = cond (decide (x.1.2.2.2.1<(lI x.2.1.1.1))) (cond (decide (x.1.2.2.2.1<30)) (((aU x.2.1.1.1 x.1.2.2.2.1)).bind fun(y2:Q8) =>(F 27 G2 ((y2,()),())).bind fun(y3:Q3) =>(F 26 Nt ((x.2.1.2.1.1,y3.1),())).bind fun(y4:Q4) =>J xV (aK Tryz.prog 7 0) ((x.1.1,(x.1.2.1,(x.1.2.2.1,((wI (x.1.2.2.2.1+1)),())))),((x.2.1.1,((y4.1.1,()),((x.2.1.2.2.1.1,()),()))),()))) (J uE (aK Tryz.prog 7 1) ((x.1.1,(x.1.2.1,(x.1.2.2.1,((0:Int),())))),((x.2.1.1,((x.2.1.2.1.1,()),((x.2.1.2.2.1.1,()),()))),())))) (J uE (aK Tryz.prog 7 1) ((x.1.1,(x.1.2.1,(x.1.2.2.1,((0:Int),())))),((x.2.1.1,((x.2.1.2.1.1,()),((x.2.1.2.2.1.1,()),()))),()))):=by kernel_rfl
theorem Qv{F:FT}{J:JT rR}{x:((Int×(Int×(Bool×(Int×Unit))))×((((List (List br))×((List (List br))×Unit))×((StateT×Unit)×((StateT×Unit)×Unit)))×Unit))}:eI 7 1 rR Tryz.f7 uE F J x = cond (decide (x.1.2.2.2.1<(lI x.2.1.1.2.1))) (cond (decide (x.1.2.2.2.1<30)) (((aU x.2.1.1.2.1 x.1.2.2.2.1)).bind fun(y5:Q8) =>(F 27 G2 ((y5,()),())).bind fun(y6:Q3) =>(F 26 Nt ((x.2.1.2.2.1.1,y6.1),())).bind fun(y7:Q4) =>J uE (aK Tryz.prog 7 1) ((x.1.1,(x.1.2.1,(x.1.2.2.1,((wI (x.1.2.2.2.1+1)),())))),((x.2.1.1,((x.2.1.2.1.1,()),((y7.1.1,()),()))),()))) ((F 22 me ((x.1.1,(x.2.1.2.1.1,())),())).bind fun(y8:XR) =>(F 22 me ((x.1.2.1,(x.2.1.2.2.1.1,())),())).bind fun(y9:XR) =>(F 24 jZ ((y8.1.1,()),())).bind fun(nL:Q48) =>(F 14 Ky ((nL.1.2.1,(x.2.1.2.1.1,())),())).bind fun(lL:Q0) =>(F 14 Ky ((x.2.1.2.1.1,(x.2.1.2.2.1.1,())),())).bind fun(qv:Q0) =>cond qv.1.1 (cond (aI (List.length ([]:List Int)) (List.length y8.1.1)) (cond (aI (List.length (([]:List Int)++y8.1.1)) (List.length ((0:Int)::([]:List Int)))) ((F 24 jZ ((((([]:List Int)++y8.1.1)++((0:Int)::([]:List Int))),()),())).bind fun(mo:Q48) =>cond x.1.2.2.1 (cond (y8.1.2.1==0) (cond (y9.1.2.1==0) (cond (nL.1.2.2.1==0) (cond (nL.1.1==x.1.1) (cond lL.1.1 (cond (((strOf y8.1.1)==(strOf y9.1.1))==(x.1.1==x.1.2.1)) (some (((mo.1.2.2.1==2),()),())) (some ((false,()),()))) (some ((false,()),()))) (some ((false,()),()))) (some ((false,()),()))) (some ((false,()),()))) (some ((false,()),()))) (some ((false,()),()))) (none)) (none)) (cond (aI (List.length ([]:List Int)) (List.length y8.1.1)) (cond (aI (List.length (([]:List Int)++y8.1.1)) (List.length ((0:Int)::([]:List Int)))) ((F 24 jZ ((((([]:List Int)++y8.1.1)++((0:Int)::([]:List Int))),()),())).bind fun(IK:Q48) =>cond x.1.2.2.1 (cond (y8.1.2.1==0) (cond (y9.1.2.1==0) (cond (nL.1.2.2.1==0) (cond (nL.1.1==x.1.1) (cond lL.1.1 (cond (((strOf y8.1.1)==(strOf y9.1.1))==false) (some (((IK.1.2.2.1==2),()),())) (some ((false,()),()))) (some ((false,()),()))) (some ((false,()),()))) (some ((false,()),()))) (some ((false,()),()))) (some ((false,()),()))) (some ((false,()),()))) (none)) (none)))) ((F 22 me ((x.1.1,(x.2.1.2.1.1,())),())).bind fun(qw:XR) =>(F 22 me ((x.1.2.1,(x.2.1.2.2.1.1,())),())).bind fun(RL:XR) =>(F 24 jZ ((qw.1.1,()),())).bind fun(O8:Q48) =>(F 14 Ky ((O8.1.2.1,(x.2.1.2.1.1,())),())).bind fun(YF:Q0) =>(F 14 Ky ((x.2.1.2.1.1,(x.2.1.2.2.1.1,())),())).bind fun(XU:Q0) =>cond XU.1.1 (cond (aI (List.length ([]:List Int)) (List.length qw.1.1)) (cond (aI (List.length (([]:List Int)++qw.1.1)) (List.length ((0:Int)::([]:List Int)))) ((F 24 jZ ((((([]:List Int)++qw.1.1)++((0:Int)::([]:List Int))),()),())).bind fun(IL:Q48) =>cond x.1.2.2.1 (cond (qw.1.2.1==0) (cond (RL.1.2.1==0) (cond (O8.1.2.2.1==0) (cond (O8.1.1==x.1.1) (cond YF.1.1 (cond (((strOf qw.1.1)==(strOf RL.1.1))==(x.1.1==x.1.2.1)) (some (((IL.1.2.2.1==2),()),())) (some ((false,()),()))) (some ((false,()),()))) (some ((false,()),()))) (some ((false,()),()))) (some ((false,()),()))) (some ((false,()),()))) (some ((false,()),()))) (none)) (none)) (cond (aI (List.length ([]:List Int)) (List.length qw.1.1)) (cond (aI (List.length (([]:List Int)++qw.1.1)) (List.length ((0:Int)::([]:List Int)))) ((F 24 jZ ((((([]:List Int)++qw.1.1)++((0:Int)::([]:List Int))),()),())).bind fun(y21:Q48) =>cond x.1.2.2.1 (cond (qw.1.2.1==0) (cond (RL.1.2.1==0) (cond (O8.1.2.2.1==0) (cond (O8.1.1==x.1.1) (cond YF.1.1 (cond (((strOf qw.1.1)==(strOf RL.1.1))==false) (some (((y21.1.2.2.1==2),()),())) (some ((false,()),()))) (some ((false,()),()))) (some ((false,()),()))) (some ((false,()),()))) (some ((false,()),()))) (some ((false,()),()))) (some ((false,()),()))) (none)) (none))):=by kernel_rfl
end Go.Vs
