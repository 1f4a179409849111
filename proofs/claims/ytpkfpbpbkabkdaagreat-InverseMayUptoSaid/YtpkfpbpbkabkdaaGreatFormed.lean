/- Diagrams that are well formed stay so. -/
import Derived.Test.YtpkfpbpbkabkdaaGreatRings
set_option linter.unusedVariables false
set_option linter.unusedSimpArgs false
namespace Go.Vs
open Go.Proofs
theorem j4(row:List ae):(cw row).Perm row:=by
 unfold cw CM
 exact List.perm_append_comm.trans (List.Perm.of_eq (List.take_append_drop _ _))
theorem NA{row:List ae}(h:0<row.length)(hl:∀j,(hj:j<row.length)→kE row[j] row[0]=false):fG row row 0 0=0:=by
 have hm:=pS row row 0 0 h (by omega)
 have h2:=(uj h).2 0
 by_cases hz:fG row row 0 0=0
 ·exact hz
 ·have:=h2 (by omega) h
  rw[pV hm,hl _ hm]at this;cases this
theorem RG(row:List ae):CM row 0=row:=by unfold CM;simp
theorem sF(row:List ae):cw (cw row)=cw row:=by
 by_cases h0:row.length=0
 ·have:row=[]:=by simpa using h0
  subst this;rfl
 have hp:0<row.length:=by omega
 have hm:=pS row row 0 0 hp (by omega)
 have hp2:0<(cw row).length:=by rw[gx];exact hp
 have h1:(cw row)[0]=row.getD (fG row row 0 0) zD:=by
  have:=LG (row:=row) (k:=fG row row 0 0) (i:=0) (by omega) hp
  rw[Nat.add_zero,Nat.mod_eq_of_lt hm,List.getElem?_eq_getElem hm]at this
  rw[pV hm]
  exact(List.getElem?_eq_some_iff.1 this).2
 have h2:fG (cw row) (cw row) 0 0=0:=by
  refine NA hp2 (fun j hj=>?_)
  rw[h1]
  have gS:(cw row)[j]∈row:=HV.1 (List.getElem_mem hj)
  obtain⟨i,hi,he⟩:=List.getElem_of_mem gS
  rw[←he]
  exact(uj hp).1 i hi
 unfold cw at h2 ⊢
 rw[h2,RG]
theorem NB(row:List ae)(a d:ae):cw (mj row a d)=mj row a d:=by unfold mj;split<;>exact sF _
theorem NC(row:List ae)(d:ae):cw (cC row d)=cC row d:=sF _
theorem Kg(row:List ae)(a d:ae):cw (jJ row a d)=jJ row a d:=sF _
theorem ND{row:List ae}{d:ae}(a:ae)(h:d∉row):(mj row a d).Perm (d::row):=by
 unfold mj
 rw[if_neg h]
 refine(j4 _).trans (List.perm_middle.trans ?_)
 rw[List.take_append_drop]
theorem sG{row:List ae}{d:ae}(h:d∈row)(hn:row.Nodup):row.Perm (d::cC row d):=by
 obtain⟨k,_,h2,_⟩:=fF h
 obtain⟨h3,h4⟩:=List.getElem?_eq_some_iff.1 h2
 unfold cC
 rw[xt hn h2]
 refine List.Perm.trans ?_ (List.Perm.cons d (j4 _).symm)
 conv=>lhs;rw[←List.take_append_drop k row,List.drop_eq_getElem_cons h3,h4]
 exact List.perm_middle
theorem Kh{row:List ae}{cS d:ae}(h:cS∈row)(hd:d∉row):(d::row).Perm (cS::jJ row cS d):=by
 obtain⟨k,h1,h2,_⟩:=fF h
 obtain⟨h3,h4⟩:=List.getElem?_eq_some_iff.1 h2
 unfold jJ
 rw[if_pos ⟨h,hd⟩,h1,Int.toNat_natCast]
 refine List.Perm.trans ?_ (List.Perm.cons cS (j4 _).symm)
 rw[List.set_eq_take_append_cons_drop,if_pos h3]
 conv=>lhs;rw[←List.take_append_drop k row,List.drop_eq_getElem_cons h3,h4]
 have p1:(row.take k++cS::row.drop (k+1)).Perm (cS::(row.take k++row.drop (k+1))):=List.perm_middle
 have p2:(row.take k++d::row.drop (k+1)).Perm (d::(row.take k++row.drop (k+1))):=List.perm_middle
 exact(List.Perm.cons d p1).trans ((List.Perm.swap cS d _).trans (List.Perm.cons cS p2.symm))
def au(l:List ah):List ae:=l.flatMap fun v=>v.2.1
def ends(l:List ai):List ae:=l.flatMap fun e=>[(e.1,0),(e.1,1)]
theorem iG(v:ah)(l:List ah):au (v::l)=v.2.1++au l:=List.flatMap_cons
theorem oL(a b:List ah):au (a++b)=au a++au b:=List.flatMap_append
theorem iS(a b:List ah)(v:ah):(au (a++v::b)).Perm (v.2.1++au (a++b)):=by
 rw[oL,iG,oL,←List.append_assoc,←List.append_assoc]
 exact List.Perm.append_right _ List.perm_append_comm
theorem bg{x:ae}{l:List ah}:x∈au l↔∃v∈l,x∈v.2.1:=List.mem_flatMap
theorem j5(e:ai)(l:List ai):ends (e::l)=(e.1,0)::(e.1,1)::ends l:=by unfold ends;rw[List.flatMap_cons];rfl
theorem cP{x:ae}{l:List ai}:x∈ends l↔∃e∈l,e.1=x.1∧(x.2=0∨x.2=1):=by
 unfold ends
 rw[List.mem_flatMap]
 constructor
 ·rintro⟨e,he,hx⟩
  rcases List.mem_cons.1 hx with rfl|hx
  ·exact⟨e,he,rfl,.inl rfl⟩
  ·rw[List.mem_singleton]at hx;subst hx;exact⟨e,he,rfl,.inr rfl⟩
 ·rintro⟨e,he,h1,h2⟩
  refine⟨e,he,?_⟩
  obtain⟨x1,x2⟩:=x
  simp only at h1 h2
  subst h1
  rcases h2 with rfl|rfl<;>simp
theorem pW:∀{l:List ai},dm l→(ends l).Nodup
 |[],_=>List.nodup_nil
 |e::r,h=>by
  have br:∀s:Int,(e.1,s)∉ends r:=fun s hs=>by
   obtain⟨f,hf,h1,_⟩:=cP.1 hs
   have:=List.rel_of_pairwise_cons h hf
   simp only at h1
   rw[h1,b8]at this;cases this
  rw[j5]
  refine List.nodup_cons.2 ⟨?_,List.nodup_cons.2 ⟨br 1,pW h.of_cons⟩⟩
  rw[List.mem_cons]
  rintro(h1|h1)
  ·cases h1
  ·exact br 0 h1
theorem D9(e:ai):∀l:List ai,(dy e l).Perm (e::l)
 |[]=>List.Perm.refl _
 |w::r=>by
  unfold dy
  split
  ·exact List.Perm.refl _
  ·exact(List.Perm.cons w (D9 e r)).trans (List.Perm.swap e w r)
theorem Ea(e:ah):∀l:List ah,(eI e l).Perm (e::l)
 |[]=>List.Perm.refl _
 |w::r=>by
  unfold eI
  split
  ·exact List.Perm.refl _
  ·exact(List.Perm.cons w (Ea e r)).trans (List.Perm.swap e w r)
theorem Eb(e:ai)(l:List ai):(ends (dy e l)).Perm ((e.1,0)::(e.1,1)::ends l):=by
 rw[←j5]
 exact List.Perm.flatMap_right _ (D9 e l)
theorem B3(v:ah)(l:List ah):(au (eI v l)).Perm (v.2.1++au l):=by
 rw[←iG]
 exact List.Perm.flatMap_right _ (Ea v l)
theorem B4{l:List ai}{x:ID}(hs:dm l)(h:(aT l x).isSome=true):(ends l).Perm ((x,0)::(x,1)::ends (cZ l x)):=by
 obtain⟨e,he⟩:=Option.isSome_iff_exists.1 h
 obtain⟨h3,h4⟩:=List.getElem?_eq_some_iff.1 (mr hs he)
 rw[xm hs h]
 conv=>lhs;rw[←List.take_append_drop (b5 l x) l,List.drop_eq_getElem_cons h3,h4]
 rw[←rz he,←j5]
 exact List.Perm.flatMap_right _ List.perm_middle
theorem kJ{l:List ah}{v:ah}(hs:bY l)(h:v∈l):aX l v.1=some v:=by
 have hf:(aX l v.1).isSome=true:=by
  unfold aX;rw[List.find?_isSome];exact⟨v,h,by simp⟩
 obtain⟨u,hu⟩:=Option.isSome_iff_exists.1 hf
 have h1:=di hs hu
 obtain⟨k,hk,he⟩:=List.getElem_of_mem h
 have h2:l[k]? = some v:=by rw[List.getElem?_eq_getElem hk,he]
 rw[j0 hs h2 rfl,h1]at h2
 rw[hu];exact h2
theorem rB{l:List ah}{v:ah}(hs:bY l)(h:v∈l):∃a b,l=a++v::b∧(∀u∈a++b,u.1≠v.1)∧dC l v.1=a++b∧∀r,l.map (sw v.1 r)=a++(v.1,(r,v.2.2))::b:=by
 obtain⟨a,b,rfl⟩:=List.append_of_mem h
 have hp:=List.pairwise_append.1 hs
 have hb:=List.pairwise_cons.1 hp.2.1
 have br:∀u∈a++b,u.1≠v.1:=fun u hu e=>by
  rcases List.mem_append.1 hu with hu|hu
  ·have:=hp.2.2 u hu v (by simp);rw[e,b8]at this;cases this
  ·have:=hb.1 u hu;rw[e,b8]at this;cases this
 have hm:∀(r:List ae) (c:List ah),(∀u∈c,u.1≠v.1)→c.map (sw v.1 r)=c:=fun r c hc=>by
  conv=>rhs;rw[←List.map_id c]
  exact List.map_congr_left fun u hu=>by unfold sw;rw[if_neg (hc u hu)];rfl
 have hd:∀c:List ah,(∀u∈c,u.1≠v.1)→dC c v.1=c:=fun c hc=>by
  unfold dC;rw[List.filter_eq_self];intro u hu;simpa using hc u hu
 refine⟨a,b,rfl,br,?_,fun r=>?_⟩
 ·unfold dC
  rw[List.filter_append,List.filter_cons_of_neg (by simp)]
  have h1:=hd a (fun u hu=>br u (List.mem_append_left _ hu))
  have h2:=hd b (fun u hu=>br u (List.mem_append_right _ hu))
  unfold dC at h1 h2
  rw[h1,h2]
 ·rw[List.map_append,List.map_cons,hm r a (fun u hu=>br u (List.mem_append_left _ hu)),hm r b (fun u hu=>br u (List.mem_append_right _ hu))]
  unfold sw;rw[if_pos rfl]
structure Rw(l:List ah):Prop where
 s:bY l
 n:(au l).Nodup
theorem Rw.ring{l:List ah}(h:Rw l){v:ah}(hv:v∈l):v.2.1.Nodup:=by
 obtain⟨a,b,rfl,_⟩:=rB h.s hv
 exact(List.nodup_append.1 ((iS a b v).nodup_iff.1 h.n)).1
theorem Rw.one{l:List ah}(h:Rw l){v w:ah}{x:ae}(hv:v∈l)(hw:w∈l)(hx:x∈v.2.1)(hy:x∈w.2.1):w=v:=by
 obtain⟨a,b,rfl,_⟩:=rB h.s hv
 have hn:=List.nodup_append.1 ((iS a b v).nodup_iff.1 h.n)
 have:w∈a++v::b:=hw
 rw[List.mem_append,List.mem_cons]at this
 rcases this with k|k|k
 ·exact absurd rfl (hn.2.2 x hx x (bg.2 ⟨w,List.mem_append_left _ k,hy⟩))
 ·exact k
 ·exact absurd rfl (hn.2.2 x hx x (bg.2 ⟨w,List.mem_append_right _ k,hy⟩))
theorem iH{l:List ah}(h:Rw l){v:ah}{x:ae}(hv:v∈l)(hx:x∈v.2.1):FB l x=some v.1:=by
 have hf:(l.find? fun u=>decide (x∈u.2.1)).isSome=true:=by rw[List.find?_isSome];exact⟨v,hv,by simpa using hx⟩
 obtain⟨u,hu⟩:=Option.isSome_iff_exists.1 hf
 have h1:=List.mem_of_find?_eq_some hu
 have h2:x∈u.2.1:=by simpa using List.find?_some hu
 unfold FB
 rw[hu,h.one hv h1 hx h2];rfl
theorem H9{l:List ah}{x:ae}(h:x∉au l):FB l x=none:=by
 unfold FB
 have:(l.find? fun u=>decide (x∈u.2.1))=none:=by
  rw[List.find?_eq_none];intro u hu hx
  exact h (bg.2 ⟨u,hu,by simpa using hx⟩)
 rw[this];rfl
theorem iU{d:aj}(h:bY d.1){v:ah}(hv:v∈d.1):aS d v.1=v.2.1:=by
 unfold aS aR;rw[kJ h hv];rfl
theorem j6{d:aj}(h:Rw d.1){v:ah}{x:ae}(hv:v∈d.1)(hx:x∈v.2.1):aE d x=cc d v.1 (cC v.2.1 x):=by
 unfold aE bM
 rw[iH h hv hx]
 show cc d v.1 (cC (aS d v.1) x)=_
 rw[iU h.s hv]
theorem B5{d:aj}(h:Rw d.1){v:ah}{x:ae}(y:ae)(hv:v∈d.1)(hx:x∈v.2.1):aH d x y=cc d v.1 (jJ v.2.1 x y):=by
 unfold aH bM
 rw[iH h hv hx]
 show cc d v.1 (jJ (aS d v.1) x y)=_
 rw[iU h.s hv]
theorem bY.re{l:List ah}(h:bY l)(x:ID)(r:List ae):bY (l.map (sw x r)):=h.map (ry x r)
theorem B6{l:List ah}{v:ah}(hs:bY l)(hv:v∈l):∃rest,(au l).Perm (v.2.1++rest)∧∀r,(au (l.map (sw v.1 r))).Perm (r++rest):=by
 obtain⟨a,b,h1,_,_,h2⟩:=rB hs hv
 refine⟨au (a++b),?_,fun r=>?_⟩
 ·conv=>lhs;rw[h1]
  exact iS a b v
 ·rw[h2 r];exact iS a b (v.1,(r,v.2.2))
theorem fz{d:aj}(h:Rw d.1){x:ae}(hx:x∈au d.1):(au d.1).Perm (x::au (aE d x).1)∧Rw (aE d x).1:=by
 obtain⟨v,hv,jL⟩:=bg.1 hx
 obtain⟨rest,h1,h2⟩:=B6 h.s hv
 rw[j6 h hv jL]
 have p:(au d.1).Perm (x::au (cc d v.1 (cC v.2.1 x)).1) :=
  h1.trans ((List.Perm.append_right rest (sG jL (h.ring hv))).trans (List.Perm.cons x (h2 _).symm))
 exact⟨p,h.s.re _ _,(List.nodup_cons.1 (p.nodup_iff.1 h.n)).2⟩
theorem pX{d:aj}(h:Rw d.1){x y:ae}(hx:x∈au d.1)(hy:y∉au d.1):(y::au d.1).Perm (x::au (aH d x y).1)∧Rw (aH d x y).1:=by
 obtain⟨v,hv,jL⟩:=bg.1 hx
 obtain⟨rest,h1,h2⟩:=B6 h.s hv
 rw[B5 h y hv jL]
 have Tx:y∉v.2.1:=fun k=>hy (bg.2 ⟨v,hv,k⟩)
 have p:(y::au d.1).Perm (x::au (cc d v.1 (jJ v.2.1 x y)).1) :=
  (List.Perm.cons y h1).trans ((List.Perm.append_right rest (Kh jL Tx)).trans (List.Perm.cons x (h2 _).symm))
 refine⟨p,h.s.re _ _,?_⟩
 exact(List.nodup_cons.1 (p.nodup_iff.1 (List.nodup_cons.2 ⟨hy,h.n⟩))).2
theorem tw{d:aj}(h:Rw d.1){c:mF}{x:ae}{v:ah}(hv:aX d.1 c.1=some v)(hx:x∉au d.1):(au (bQ d c x).1).Perm (x::au d.1)∧Rw (bQ d c x).1:=by
 have UD:=gO hv
 have hvi:=kI hv
 obtain⟨rest,h1,h2⟩:=B6 h.s UD
 have jL:x∉v.2.1:=fun k=>hx (bg.2 ⟨v,UD,k⟩)
 have e:bQ d c x=cc d v.1 (mj v.2.1 c.2 x):=by
  unfold bQ
  rw[←hvi,iU h.s UD]
 rw[e]
 have p:(au (cc d v.1 (mj v.2.1 c.2 x)).1).Perm (x::au d.1) :=
  (h2 _).trans ((List.Perm.append_right rest (ND c.2 jL)).trans (List.Perm.cons x h1.symm))
 exact⟨p,h.s.re _ _,p.nodup_iff.2 (List.nodup_cons.2 ⟨hx,h.n⟩)⟩
structure GV(v:ah):Prop where
 i:b4 v.1=true
 l:ll v.2.2.1=true
 a:jF v.2.2.2=true
 t:cw v.2.1=v.2.1
structure GE(e:ai):Prop where
 i:b4 e.1=true
 l:ll e.2.1=true
 a:jF e.2.2=true
structure Wf(d:aj):Prop where
 sv:bY d.1
 se:dm d.2
 nv:d.1.length≤24
 ne:d.2.length≤40
 gv:∀v∈d.1,GV v
 ge:∀e∈d.2,GE e
 pd:(au d.1).Perm (ends d.2)
theorem Wf.rw{d:aj}(h:Wf d):Rw d.1:=⟨h.sv,h.pd.nodup_iff.2 (pW h.se)⟩
theorem Wf.zero:Wf zS.1:=⟨List.Pairwise.nil,List.Pairwise.nil,by simp[zS],by simp[zS],by simp[zS],by simp[zS],List.Perm.refl _⟩
theorem GV.re{l:List ah}(h:∀v∈l,GV v)(x:ID){r:List ae}(hr:cw r=r):∀v∈l.map (sw x r),GV v:=fun v hv=>by
 obtain⟨w,hw,rfl⟩:=List.mem_map.1 hv
 have g:=h w hw
 unfold sw
 split
 ·exact⟨g.i,g.l,g.a,hr⟩
 ·exact g
theorem j7{d:aj}(h:∀v∈d.1,GV v)(x:ae):∀v∈(aE d x).1,GV v:=GV.re h _ (NC _ _)
theorem uk{d:aj}(h:∀v∈d.1,GV v)(x y:ae):∀v∈(aH d x y).1,GV v:=GV.re h _ (Kg _ _ _)
theorem yL{d:aj}(h:∀v∈d.1,GV v)(c:mF)(y:ae):∀v∈(bQ d c y).1,GV v:=GV.re h _ (NB _ _ _)
theorem fB(d:aj)(x:ID)(r:List ae):(cc d x r).1.length=d.1.length:=by unfold cc;simp
theorem Ec:b4 zI=false:=by decide
theorem vN{l:List ai}(h:∀e∈l,GE e):cZ l zI=l:=by
 unfold cZ;rw[List.filter_eq_self];intro e he
 have:=(h e he).i
 simp;intro k;rw[k,Ec]at this;cases this
theorem vO{l:List ah}(h:∀e∈l,GV e):dC l zI=l:=by
 unfold dC;rw[List.filter_eq_self];intro e he
 have:=(h e he).i
 simp;intro k;rw[k,Ec]at this;cases this
theorem lC:ll e0=true:=by decide
theorem lD:jF 0=true:=by decide
theorem B7{l:List ai}{x:ID}(h:aT l x=none)(s:Int):(x,s)∉ends l:=fun k=>by
 obtain⟨e,he,h1,_⟩:=cP.1 k
 unfold aT at h
 rw[List.find?_eq_none]at h
 exact h e he (by simpa using h1)
theorem B8{l:List ai}{x:ID}(h:(aT l x).isSome=true){s:Int}(hs:s=0∨s=1):(x,s)∈ends l:=by
 obtain⟨e,he⟩:=Option.isSome_iff_exists.1 h
 exact cP.2 ⟨e,D6 he,rz he,hs⟩
end Go.Vs
namespace Go.Vs
open Go.Proofs
theorem Ki{o:bj}(h:bC o=0):b4 (aK o)=true:=by
 unfold bC at h
 split at h;· cases h
 split at h;· cases h
 split at h;· cases h
 rename_i h3;simpa using h3
theorem mu{o:bj}(h:bC o=0):1≤o.1∧o.1≤8:=by
 unfold bC at h
 split at h;· cases h
 split at h;· cases h
 omega
theorem sH{o:bj}(h:bC o=0)(hk:o.1=5):b4 (dM o)=true∧b4 (av o)=true∧0≤oN o∧oN o≤3:=by
 unfold bC at h
 split at h;· cases h
 split at h;· cases h
 split at h;· cases h
 split at h;· cases h
 rw[if_neg (show ¬o.1=3 by omega)]at h
 split at h
 ·assumption
 ·cases h
theorem Kj{o:bj}(h:bC o=0)(hk:o.1=6):b4 (av o)=true:=by
 unfold bC at h
 split at h;· cases h
 split at h;· cases h
 split at h;· cases h
 split at h;· cases h
 rw[if_neg (show ¬o.1=3 by omega),if_neg (show ¬o.1=5 by omega)]at h
 split at h
 ·assumption
 ·cases h
theorem B9{o:bj}(h:bC o=0)(hk:o.1=8):jF (oN o)=true:=by
 unfold bC at h
 split at h;· cases h
 split at h;· cases h
 split at h;· cases h
 split at h;· cases h
 rw[if_neg (show ¬o.1=3 by omega),if_neg (show ¬o.1=5 by omega),if_neg (show ¬o.1=6 by omega)]at h
 split at h
 ·assumption
 ·cases h
theorem xu{o:bj}(h:bC o=0)(hk:o.1=7):ll (kW o)=true:=by
 unfold bC at h
 split at h;· cases h
 split at h;· cases h
 split at h;· cases h
 split at h;· cases h
 rw[if_neg (show ¬o.1=3 by omega),if_neg (show ¬o.1=5 by omega),if_neg (show ¬o.1=6 by omega),if_neg (show ¬o.1=8 by omega)]at h
 split at h
 ·assumption
 ·cases h
def iV(l:List az):Prop:=l.Pairwise fun a b=>kE a.1 b.1=true
theorem pY{a b:ae}:mi a b≤0↔a=b∨kE a b=true:=by
 unfold mi
 by_cases h:a=b
 ·subst h;simp
 ·rw[if_neg h];cases kE a b<;>simp[h]
theorem Ca{q g:az}:∀{l:List az},q∈lk g l→q=g∨(q∈l∧q.1≠g.1)
 |[],h=>by simp[lk]at h;exact .inl h
 |e::r,h=>by
  unfold lk at h
  split at h
  ·rcases List.mem_cons.1 h with h|h
   ·exact .inl h
   ·unfold nH at h
    rw[List.mem_filter]at h
    exact .inr ⟨h.1,by simpa using h.2⟩
  ·split at h
   ·rename_i br
    rcases List.mem_cons.1 h with rfl|h
    ·exact .inr ⟨List.mem_cons_self ..,br⟩
    ·rcases Ca h with h|⟨h,h2⟩
     ·exact .inl h
     ·exact .inr ⟨List.mem_cons_of_mem _ h,h2⟩
   ·rcases Ca h with h|⟨h,h2⟩
    ·exact .inl h
    ·exact .inr ⟨List.mem_cons_of_mem _ h,h2⟩
theorem iV.add(g:az):∀{l:List az},iV l→iV (lk g l)
 |[],_=>List.pairwise_singleton _ _
 |e::r,h=>by
  have hr:∀{q:az},q∈r→kE e.1 q.1=true:=fun {q} hq=>List.rel_of_pairwise_cons h hq
  unfold lk
  split
  ·rename_i ho
   refine List.Pairwise.cons (fun q hq=>?_) (h.filter _)
   unfold nH at hq
   rw[List.mem_filter]at hq
   have br:q.1≠g.1:=by simpa using hq.2
   have hle:e.1=q.1∨kE e.1 q.1=true:=by
    rcases List.mem_cons.1 hq.1 with rfl|hq
    ·exact .inl rfl
    ·exact .inr (hr hq)
   rcases pY.1 ho with ho|ho
   ·rcases hle with k|k
    ·exact absurd (ho.trans k).symm br
    ·rw[ho];exact k
   ·rcases hle with k|k
    ·rw[←k];exact ho
    ·exact fN ho k
  ·rename_i ho
   have I9:kE e.1 g.1=true:=by
    have h1:¬(g.1=e.1∨kE g.1 e.1=true):=fun k=>ho (pY.2 k)
    exact xp (by simpa using fun k=>h1 (.inr k)) (fun k=>h1 (.inl k))
   have hs:=iV.add g (List.Pairwise.of_cons h)
   split
   ·refine List.Pairwise.cons (fun q hq=>?_) hs
    rcases Ca hq with rfl|⟨hq,_⟩
    ·exact I9
    ·exact hr hq
   ·exact hs
theorem pZ(e:az)(r:List az)(x:ae):gy (e::r) x=if e.1=x then some e.2 else gy r x:=by
 unfold gy
 rw[List.find?_cons]
 by_cases h:e.1=x
 ·simp[h]
 ·simp[h]
theorem sI{g:az}:∀{l:List az},(∀q∈l,q.1≠g.1)→nH g l=l:=fun {l} h=>by
 unfold nH;rw[List.filter_eq_self];intro q hq;simpa using h q hq
theorem Ia(g:az):∀{l:List az},iV l→(lk g l).length=if(gy l g.1).isSome=true then l.length else l.length+1
 |[],_=>rfl
 |e::r,h=>by
  have hr:∀{q:az},q∈r→kE e.1 q.1=true:=fun {q} hq=>List.rel_of_pairwise_cons h hq
  have ih:=Ia g (List.Pairwise.of_cons h)
  unfold lk
  split
  ·rename_i ho
   rcases pY.1 ho with ho|ho
   ·have h1:nH g (e::r)=r:=by
     have:nH g (e::r)=nH g r:=by unfold nH;rw[List.filter_cons_of_neg (by simp[ho])]
     rw[this]
     exact sI (fun q hq k=>by have:=hr hq;rw[k,ho,dN]at this;cases this)
    rw[h1,pZ,if_pos ho.symm];simp
   ·have h2:∀q∈e::r,q.1≠g.1:=fun q hq k=>by
     have:kE g.1 q.1=true:=by
      rcases List.mem_cons.1 hq with rfl|hq
      ·exact ho
      ·exact fN ho (hr hq)
     rw[k,dN]at this;cases this
    have h3:gy (e::r) g.1=none:=by
     unfold gy
     have:(List.find? (fun q=>decide (q.1=g.1)) (e::r))=none:=by
      rw[List.find?_eq_none];intro q hq;simpa using h2 q hq
     rw[this];rfl
    rw[sI h2,h3];simp
  ·rename_i ho
   have br:e.1≠g.1:=fun k=>ho (pY.2 (.inl k.symm))
   rw[if_pos br,pZ,if_neg br]
   simp only[List.length_cons,ih]
   split<;>rfl
theorem j8{l:List az}(h:iV l)(hn:l.length≤400)(g:az):iV (bN l g)∧(bN l g).length≤400:=by
 unfold bN
 split
 ·exact⟨h,hn⟩
 ·rename_i hc
  refine⟨iV.add g h,?_⟩
  rw[Ia g h]
  split
  ·exact hn
  ·rename_i h1
   by_cases h2:400≤l.length
   ·exact absurd ⟨by simpa using h1,h2⟩ hc
   ·omega
theorem xw{α:Type}{o:Option α}(h:¬o.isSome=false):o.isSome=true:=by cases o<;>simp_all
structure fX(s:StateT):Prop where
 d:Wf s.1
 g:iV s.2
 n:s.2.length≤400
theorem fX.zero:fX zS:=⟨Wf.zero,List.Pairwise.nil,by simp[zS]⟩
theorem fX.add{l:List az}(h:iV l)(hn:l.length≤400){d:aj}(hd:Wf d)(g:az):fX (d,bN l g):=⟨hd,(j8 h hn g).1,(j8 h hn g).2⟩
theorem NF{f:ah→ah}(hf:∀v,(f v).2.1=v.2.1)(l:List ah):au (l.map f)=au l:=by
 unfold au;rw[List.flatMap_map];congr 1;funext v;exact hf v
theorem RH{f:ai→ai}(hf:∀v,(f v).1=v.1)(l:List ai):ends (l.map f)=ends l:=by
 unfold ends;rw[List.flatMap_map];congr 1;funext v;rw[hf]
theorem LM(o:bj)(w:ai):(jZ o w).1=w.1:=by unfold jZ;split<;>(try split)<;>rfl
theorem NG(o:bj)(w:ah):(jf o w).2.1=w.2.1:=by unfold jf;split<;>(try split)<;>rfl
theorem Wf.zP{d:aj}(h:Wf d){x:ID}(hx:aT d.2 x=none)(s:Int):(x,s)∉au d.1:=fun k=>B7 hx s (h.pd.mem_iff.1 k)
theorem Wf.kS{d:aj}(h:Wf d){x:ID}(hx:(aT d.2 x).isSome=true){s:Int}(hs:s=0∨s=1):(x,s)∈au d.1:=h.pd.mem_iff.2 (B8 hx hs)
theorem Wf.xg{s:StateT}(h:Wf s.1){o:bj}(hm:bC o=0)(hk:7≤o.1):Wf (xg s o).1.1:=by
 have hk8:=(mu hm).2
 unfold Vs.xg
 split
 ·refine⟨h.sv.map (LK o),h.se.map (LM o),by simp;exact h.nv,by simp;exact h.ne,fun v hv=>?_,fun e he=>?_,?_⟩
  ·obtain⟨w,hw,rfl⟩:=List.mem_map.1 hv
   have g:=h.gv w hw
   unfold jf
   split
   ·split
    ·rename_i h7
     exact⟨g.i,xu hm h7,g.a,g.t⟩
    ·exact⟨g.i,g.l,B9 hm (by omega),g.t⟩
   ·exact g
  ·obtain⟨w,hw,rfl⟩:=List.mem_map.1 he
   have g:=h.ge w hw
   unfold jZ
   split
   ·split
    ·rename_i h7
     exact⟨g.i,xu hm h7,g.a⟩
    ·exact⟨g.i,g.l,B9 hm (by omega)⟩
   ·exact g
  ·show(au (s.1.1.map (jf o))).Perm (ends (s.1.2.map (jZ o)))
   rw[NF (NG o),RH (LM o)];exact h.pd
 ·exact Wf.zero
theorem p4{s:StateT}{c:mF}(h:(bh s c).2.1=0):(aR s.1 c.1).isSome=true∧(bh s c).1.1=c.1:=by
 unfold bh at h ⊢
 cases hv:aR s.1 c.1 with
 |none=>rw[hv]at h;cases h
 |some v=>exact⟨rfl,rfl⟩
theorem vP{l:List ah}{x y:ID}(r:List ae)(h:(aX l x).isSome=true):(aX (l.map (sw y r)) x).isSome=true:=by
 rw[oJ (ry y r)];simpa using h
theorem Wf.link{d:aj}(h:Wf d){x:ID}(hx:b4 x=true)(hn:aT d.2 x=none)(he:¬40≤d.2.length){a b:mF}(ha:(aX d.1 a.1).isSome=true)(hb:(aX d.1 b.1).isSome=true) :
  Wf (bQ (bQ (d.1,dy (x,(e0,0)) d.2) a (x,0)) b (x,1)):=by
 have hrw:Rw ((d.1,dy (x,(e0,0)) d.2):aj).1:=h.rw
 obtain⟨va,hva⟩:=Option.isSome_iff_exists.1 ha
 have h0:=h.zP hn 0
 have h1:=h.zP hn 1
 obtain⟨p1,q1⟩:=tw (c:=a) (x:=(x,0)) hrw hva h0
 obtain⟨vb,hvb⟩:=Option.isSome_iff_exists.1 (vP (x:=b.1) (y:=a.1) (mj (aS (d.1,dy (x,(e0,0)) d.2) a.1) a.2 (x,0)) hb)
 have Tb:(x,1)∉au (bQ (d.1,dy (x,(e0,0)) d.2) a (x,0)).1:=fun k=>by
  rcases List.mem_cons.1 (p1.mem_iff.1 k) with k|k
  ·cases k
  ·exact h1 k
 obtain⟨p2,q2⟩:=tw (c:=b) (x:=(x,1)) q1 hvb Tb
 refine⟨q2.s,xn (x,(e0,0)) h.se hn,?_,?_,yL (yL h.gv _ _) _ _,fun e hem=>?_,?_⟩
 ·unfold bQ;rw[fB,fB];exact h.nv
 ·show(dy (x,(e0,0)) d.2).length≤40
  rw[kG];omega
 ·rcases oG.1 (show e∈dy (x,(e0,0)) d.2 from hem) with rfl|hem
  ·exact⟨hx,lC,lD⟩
  ·exact h.ge e hem
 ·show(au _).Perm (ends (dy (x,(e0,0)) d.2))
  refine(p2.trans (List.Perm.cons _ p1)).trans (List.Perm.trans ?_ (Eb (x,(e0,0)) d.2).symm)
  exact(List.Perm.swap _ _ _).trans (List.Perm.cons _ (List.Perm.cons _ h.pd))
theorem Wf.cut{d:aj}(h:Wf d){x:ID}(hx:(aT d.2 x).isSome=true):Wf (aY (aE (aE d (x,0)) (x,1)) zI x):=by
 have h0:=h.kS hx (s:=0) (.inl rfl)
 have h1:=h.kS hx (s:=1) (.inr rfl)
 obtain⟨p1,q1⟩:=fz h.rw h0
 have Tb:(x,1)∈au (aE d (x,0)).1:=by
  rcases List.mem_cons.1 (p1.mem_iff.1 h1) with k|k
  ·cases k
  ·exact k
 obtain⟨p2,q2⟩:=fz q1 Tb
 have Ox:=j7 (j7 h.gv (x,0)) (x,1)
 have UE:(aY (aE (aE d (x,0)) (x,1)) zI x).1=(aE (aE d (x,0)) (x,1)).1:=vO Ox
 refine⟨by rw[UE];exact q2.s,uh h.se,?_,?_,by rw[UE];exact Ox,fun e he=>h.ge e ?_,?_⟩
 ·rw[UE];unfold aE;rw[fB,fB];exact h.nv
 ·exact Nat.le_trans (List.length_filter_le _ _) h.ne
 ·exact(List.mem_filter.1 (show e∈d.2.filter fun w=>decide (w.1≠x) from he)).1
 ·rw[UE]
  show(au (aE (aE d (x,0)) (x,1)).1).Perm (ends (cZ d.2 x))
  have p3:((x,0)::(x,1)::au (aE (aE d (x,0)) (x,1)).1).Perm ((x,0)::(x,1)::ends (cZ d.2 x)) :=
   ((p1.trans (List.Perm.cons _ p2)).symm.trans h.pd).trans (B4 h.se hx)
  exact p3.cons_inv.cons_inv
theorem iW{x:ae}(h:x.2=0∨x.2=1):(aq x).1=x.1∧((x.2=0∧(aq x).2=1)∨(x.2=1∧(aq x).2=0)):=by
 refine⟨rfl,?_⟩
 unfold aq
 rcases h with h|h
 ·exact .inl ⟨h,by rw[h];rfl⟩
 ·exact .inr ⟨h,by rw[h];rfl⟩
theorem Ib{x:ae}(h:x.2=0∨x.2=1)(l:List ae):(x::aq x::l).Perm ((x.1,0)::(x.1,1)::l):=by
 obtain⟨h1,h2⟩:=iW h
 have e:x=(x.1,x.2):=rfl
 have e2:aq x=(x.1,(aq x).2):=rfl
 rcases h2 with⟨ha,hb⟩|⟨ha,hb⟩
 ·rw[ha]at e;rw[hb]at e2;rw[e2,e]
 ·rw[ha]at e;rw[hb]at e2;rw[e2,e];exact List.Perm.swap _ _ _
theorem Ic{n:Int}(h0:0≤n)(h3:n≤3):(IntKind.wrap .i64 (1-Int.tmod n 2)=0∨IntKind.wrap .i64 (1-Int.tmod n 2)=1)∧(IntKind.wrap .i64 (Int.tdiv n 2)=0∨IntKind.wrap .i64 (Int.tdiv n 2)=1):=by
 have:n=0∨n=1∨n=2∨n=3:=by omega
 rcases this with rfl|rfl|rfl|rfl<;>exact⟨by decide,by decide⟩
theorem Wf.split{d:aj}(h:Wf d){m k:ae}{v:ID}(hv:b4 v=true)(hk:b4 k.1=true)(Tk:m.2=0∨m.2=1)(oT:k.2=0∨k.2=1)(hm:(aT d.2 m.1).isSome=true)(TH:aX d.1 v=none)(hnk:aT d.2 k.1=none)
  (Ov:¬24≤d.1.length) (hle:¬40≤d.2.length):Wf (eI (v,(cw [m,k],(e0,0))) (aH d m (aq k)).1,dy (k.1,(e0,0)) (aH d m (aq k)).2):=by
 have hmd:m∈au d.1:=h.kS hm Tk
 have I8:aq k∉au d.1:=h.zP hnk _
 obtain⟨p1,q1⟩:=pX h.rw hmd I8
 have UF:aX (aH d m (aq k)).1 v=none:=by
  unfold aH Vs.cc
  rw[oJ (ry _ _),TH];rfl
 refine⟨oI (v,(cw [m,k],(e0,0))) q1.s UF,xn (k.1,(e0,0)) h.se hnk,?_,?_,fun w hw=>?_,fun e he=>?_,?_⟩
 ·show(eI _ (aH d m (aq k)).1).length≤24
  rw[gE];unfold aH;rw[fB];omega
 ·show(dy _ d.2).length≤40
  rw[kG];omega
 ·rcases mn.1 hw with rfl|hw
  ·exact⟨hv,lC,lD,sF _⟩
  ·exact uk h.gv _ _ w hw
 ·rcases oG.1 (show e∈dy (k.1,(e0,0)) d.2 from he) with rfl|he
  ·exact⟨hk,lC,lD⟩
  ·exact h.ge e he
 ·show(au (eI _ _)).Perm (ends (dy (k.1,(e0,0)) d.2))
  refine(B3 _ _).trans (List.Perm.trans ?_ (Eb (k.1,(e0,0)) d.2).symm)
  refine(List.Perm.append_right _ (j4 [m,k])).trans ?_
  show(m::k::au (aH d m (aq k)).1).Perm _
  refine(List.Perm.swap k m _).trans ((List.Perm.cons k p1.symm).trans ?_)
  refine(Ib oT _).trans ?_
  exact List.Perm.cons _ (List.Perm.cons _ h.pd)
theorem Wf.RI{d:aj}(h:Wf d){v:ah}(hv:v∈d.1)(hr:v.2.1=[]):Wf (aY d v.1 zI):=by
 obtain⟨a,b,h1,_,h2,_⟩:=rB h.sv hv
 refine⟨pU h.sv,?_,Nat.le_trans (List.length_filter_le _ _) h.nv,Nat.le_trans (List.length_filter_le _ _) h.ne,fun w hw=>h.gv w ?_,fun e he=>h.ge e ?_,?_⟩
 ·exact uh h.se
 ·exact(List.mem_filter.1 (show w∈d.1.filter fun w=>decide (w.1≠v.1) from hw)).1
 ·exact(List.mem_filter.1 (show e∈d.2.filter fun w=>decide (w.1≠zI) from he)).1
 ·show(au (dC d.1 v.1)).Perm (ends (cZ d.2 zI))
  rw[h2,vN h.ge]
  have p:=iS a b v
  rw[←h1,hr,List.nil_append]at p
  exact p.symm.trans h.pd
theorem Wf.XQ{d:aj}(h:Wf d){v:ah}{a b:ae}(hv:v∈d.1)(hr:v.2.1.Perm [a,b])(nP:a.1≠b.1):Wf (aY (aH (aY d v.1 zI) (aq b) a) zI b.1):=by
 obtain⟨p,q,h1,_,h2,_⟩:=rB h.sv hv
 have pd:(au d.1).Perm (a::b::au (p++q)):=by
  have:=(iS p q v).trans (List.Perm.append_right _ hr)
  rw[←h1]at this;exact this
 have NH:aY d v.1 zI=(p++q,d.2):=by unfold aY;rw[h2,vN h.ge]
 have DE:=pd.nodup_iff.1 h.rw.n
 have hbm:b∈ends d.2:=h.pd.mem_iff.1 (pd.mem_iff.2 (by simp))
 obtain⟨e,he,Zu,zm⟩:=cP.1 hbm
 have zw:(aT d.2 b.1).isSome=true:=by
  unfold aT;rw[List.find?_isSome];exact⟨e,he,by simpa using Zu⟩
 obtain⟨_,ho⟩:=iW zm
 have XR:aq b∈au (p++q):=by
  have h3:aq b∈au d.1:=h.kS (s:=(aq b).2) zw (by rcases ho with⟨_,k⟩|⟨_,k⟩<;>omega)
  rcases List.mem_cons.1 (pd.mem_iff.1 h3) with k|k
  ·exact absurd (congrArg Prod.fst k) (fun k=>nP k.symm)
  rcases List.mem_cons.1 k with k|k
  ·have:=congrArg Prod.snd k;omega
  ·exact k
 have UG:Rw (p++q):=by
  refine⟨?_,(List.nodup_cons.1 (List.nodup_cons.1 DE).2).2⟩
  rw[←h2];exact pU h.sv
 have ha:a∉au (p++q):=fun k=>(List.nodup_cons.1 DE).1 (List.mem_cons_of_mem _ k)
 rw[NH]
 obtain⟨p1,q1⟩:=pX (d:=(p++q,d.2)) UG XR ha
 have Ox:∀w∈(aH (p++q,d.2) (aq b) a).1,GV w:=by
  refine uk (d:=(p++q,d.2)) (fun w hw=>h.gv w ?_) _ _
  rw[h1]
  rcases List.mem_append.1 hw with k|k
  ·exact List.mem_append_left _ k
  ·exact List.mem_append_right _ (List.mem_cons_of_mem _ k)
 have UE:(aY (aH (p++q,d.2) (aq b) a) zI b.1).1=(aH (p++q,d.2) (aq b) a).1:=vO Ox
 refine⟨by rw[UE];exact q1.s,uh h.se,?_,Nat.le_trans (List.length_filter_le _ _) h.ne,by rw[UE];exact Ox,fun f hf=>h.ge f ?_,?_⟩
 ·rw[UE];unfold aH;rw[fB]
  have:=h.nv
  rw[h1]at this
  simp at this ⊢;omega
 ·exact(List.mem_filter.1 (show f∈d.2.filter fun w=>decide (w.1≠b.1) from hf)).1
 ·rw[UE]
  show(au (aH (p++q,d.2) (aq b) a).1).Perm (ends (cZ d.2 b.1))
  have p3:(b::aq b::au (aH (p++q,d.2) (aq b) a).1).Perm (b::aq b::ends (cZ d.2 b.1)):=by
   refine List.Perm.trans (List.Perm.cons b p1.symm) ?_
   refine(List.Perm.swap a b _).trans (pd.symm.trans (h.pd.trans ?_))
   exact(B4 h.se zw).trans (Ib zm _).symm
  exact p3.cons_inv.cons_inv
theorem fX.one{s:StateT}(h:fX s)(o:bj):fX (fS s o).1:=by
 unfold fS
 split
 ·exact fX.zero
 rename_i hm
 have hm:bC o=0:=Classical.byContradiction fun k=>hm k
 have bO:=Ki hm
 split
 ·unfold qk
  split;· exact fX.zero
  split;· exact fX.zero
  rename_i h1 h2
  have hn:aX s.1.1 (aK o)=none:=by simpa[aR] using h1
  refine⟨⟨oI _ h.d.sv hn,h.d.se,by show(eI _ s.1.1).length≤24;rw[gE];omega,h.d.ne,fun w hw=>?_,h.d.ge,?_⟩,h.g,h.n⟩
  ·rcases mn.1 hw with rfl|hw
   ·exact⟨bO,lC,lD,rfl⟩
   ·exact h.d.gv w hw
  ·exact(B3 _ _).trans h.d.pd
 split
 ·unfold yJ
  cases hv:aR s.1 (aK o) with
  |none=>exact fX.zero
  |some v =>
   simp only
   split
   ·exact fX.zero
   ·rename_i hr
    have:=h.d.RI (gO hv) (by simpa using hr)
    rw[kI hv]at this
    exact⟨this,h.g,h.n⟩
 split
 ·unfold oH
  split;· exact fX.zero
  split;· exact fX.zero
  split;· exact fX.zero
  split;· exact fX.zero
  split;· exact fX.zero
  rename_i h1 h2 h3 h4 h5
  have hn:aT s.1.2 (aK o)=none:=by simpa[cI] using h1
  obtain⟨ca,ca2⟩:=p4 (s:=s) (c:=oA o) (Classical.byContradiction fun k=>h3 k)
  obtain⟨cb,cb2⟩:=p4 (s:=s) (c:=oB o) (Classical.byContradiction fun k=>h4 k)
  refine⟨?_,h.g,h.n⟩
  unfold gF
  refine h.d.link bO hn h2 (by rw[ca2];exact ca) ?_
  split
  ·exact cb
  ·rw[cb2];exact cb
 split
 ·unfold Dd
  split;· exact fX.zero
  rename_i h1
  have h2:=j8 h.g h.n ((aK o,0),dp s.1 (aK o,0))
  exact fX.add h2.1 h2.2 (h.d.cut (xw h1)) _
 split
 ·rename_i hk
  unfold mo
  split;· exact fX.zero
  split;· exact fX.zero
  split;· exact fX.zero
  split;· exact fX.zero
  split;· exact fX.zero
  rename_i h1 h2 h3 h4 h5
  obtain⟨m1,m2,m3,m4⟩:=sH hm hk
  obtain⟨s1,s2⟩:=Ic m3 m4
  refine⟨?_,h.g,h.n⟩
  exact h.d.split (m:=Ja o) (k:=Gb o) m1 m2 s1 s2 (xw h1) (by simpa[aR] using h2) (by simpa[cI,Gb] using h3) h4 h5
 split
 ·unfold kf
  split
  ·exact fX.zero
  ·rename_i v hv
   split
   ·rename_i r0 r1 hr
    have UD:=gO hv
    have hvi:=kI hv
    have key:∀a b:ae,v.2.1.Perm [a,b]→a.1≠b.1→fX (Kc s o a b,H5 s.2 a b):=fun a b hp nP=>by
     have h2:=j8 h.g h.n ((b.1,0),qx a b 0)
     have:=h.d.XQ UD hp nP
     rw[hvi]at this
     exact fX.add h2.1 h2.2 this _
    unfold jB
    split;· exact fX.zero
    rename_i br
    split
    ·exact key r1 r0 (by rw[hr];exact List.Perm.swap _ _ _) (fun k=>br k.symm)
    split
    ·exact key r0 r1 (by rw[hr]) br
    ·exact fX.zero
   ·exact fX.zero
 ·rename_i k1 k2 k3 k4 k5 k6
  have hk:=mu hm
  have:=h.d.xg hm (by omega)
  refine⟨this,?_,?_⟩
  ·unfold xg;split
   ·exact h.g
   ·exact List.Pairwise.nil
  ·unfold xg;split
   ·exact h.n
   ·simp[zS]
theorem fX.go:∀(l:List bj) {s:StateT},fX s→fX (LH l s).1
 |[],s,h=>h
 |o::r,s,h=>by
  unfold LH
  split
  ·exact fX.zero
  ·exact fX.go r (h.one o)
theorem fX.apply{s:StateT}(h:fX s)(l:List bj):fX (fT s l).1:=by
 unfold fT
 split
 ·exact fX.zero
 ·exact fX.go l h
theorem fX.try{s:StateT}(h:fX s)(l:List bj):fX (mI s l):=by
 unfold mI
 split
 ·exact h
 ·exact h.apply l
theorem fX.reach:∀(m:Nat) (l:List (List bj)) {s:StateT},fX s→fX (mq m l s)
 |0,_,s,h=>by simpa[mq] using h
 |m+1,[],s,h=>h
 |m+1,l::r,s,h=>by rw[mq];exact fX.reach m r (h.try _)
theorem fX.LI(l:List (List bj)):fX (BV l):=fX.reach 30 l fX.zero
end Go.Vs
