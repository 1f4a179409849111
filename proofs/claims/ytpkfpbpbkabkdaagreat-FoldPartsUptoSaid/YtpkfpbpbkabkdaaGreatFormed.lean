/- Diagrams that are well formed -/
import Derived.Test.YtpkfpbpbkabkdaaGreatRings
set_option linter.unusedVariables false
set_option linter.unusedSimpArgs false
namespace Go.Vs
open Go.Proofs
theorem j7(row:List ab):(cq row).Perm row:=by unfold cq Gb;exact ad0.trans (List.Perm.of_eq (List.take_append_drop _ _))
theorem OE{row:List ab}(h:0<row.length)(hl:∀j,(hj:j<row.length)→lA row[j] row[0]=false):fP row row 0 0=0:=by
 have hm:=nt row row 0 0 h (by omega);have h2:=(uH h).2 0;by_cases hz:fP row row 0 0=0
 ·exact hz
 ·have:=h2 (by omega) h;rw[p6 hm,hl _ hm]at this;cases this
theorem RP(row:List ab):Gb row 0=row:=by unfold Gb;simp
theorem sW(row:List ab):cq (cq row)=cq row:=by
 by_cases h0:row.length=0
 ·have:row=[]:=by simpa using h0
  subst this;rfl
 have hp:0<row.length:=by omega
 have hm:=nt row row 0 0 hp (by omega);have hp2:0<(cq row).length:=by rw[gu];exact hp
 have h1:(cq row)[0]=row.getD (fP row row 0 0) zD:=by have:=US (row:=row) (k:=fP row row 0 0) (i:=0) (by omega) hp;rw[Nat.add_zero,Nat.mod_eq_of_lt hm,List.getElem?_eq_getElem hm]at this;rw[p6 hm];exact(abr.1 this).2
 have h2:fP (cq row) (cq row) 0 0=0:=by refine OE hp2 (fun j hj=>?_);rw[h1];have gW:(cq row)[j]∈row:=oL.1 (acC hj);obtain⟨i,hi,he⟩:=adY gW;rw[←he];exact(uH hp).1 i hi
 unfold cq at h2 ⊢;rw[h2,RP]
theorem OF(row:List ab)(a d:ab):cq (qK row a d)=qK row a d:=by unfold qK;split<;>exact sW _
theorem OG(row:List ab)(d:ab):cq (jl row d)=jl row d:=sW _
theorem K0(row:List ab)(a d:ab):cq (gx row a d)=gx row a d:=sW _
theorem OH{row:List ab}{d:ab}(a:ab)(h:d∉row):(qK row a d).Perm (d::row):=by unfold qK;rw[if_neg h];refine(j7 _).trans (adR.trans ?_);rw[List.take_append_drop]
theorem sX{row:List ab}{d:ab}(h:d∈row)(hn:row.Nodup):row.Perm (d::jl row d):=by
 obtain⟨k,_,h2,_⟩:=jE h;obtain⟨h3,h4⟩:=abr.1 h2;unfold jl;rw[xK hn h2];refine List.Perm.trans ?_ (List.Perm.cons d (j7 _).symm)
 conv=>lhs;rw[←List.take_append_drop k row,List.drop_eq_getElem_cons h3,h4]
 exact adR
theorem K1{row:List ab}{cQ d:ab}(h:cQ∈row)(hd:d∉row):(d::row).Perm (cQ::gx row cQ d):=by
 obtain⟨k,h1,h2,_⟩:=jE h;obtain⟨h3,h4⟩:=abr.1 h2;unfold gx;rw[if_pos ⟨h,hd⟩,h1,Int.toNat_natCast];refine List.Perm.trans ?_ (List.Perm.cons cQ (j7 _).symm);rw[List.set_eq_take_append_cons_drop,if_pos h3]
 conv=>lhs;rw[←List.take_append_drop k row,List.drop_eq_getElem_cons h3,h4]
 have p1:(row.take k++cQ::row.drop (k+1)).Perm (cQ::(row.take k++row.drop (k+1))):=adR;have p2:(row.take k++d::row.drop (k+1)).Perm (d::(row.take k++row.drop (k+1))):=adR;exact(List.Perm.cons d p1).trans ((List.Perm.swap cQ d _).trans (List.Perm.cons cQ p2.symm))
def aj(l:List ai):List ab:=l.flatMap fun v=>v.2.1
def ends(l:List aq):List ab:=l.flatMap fun e=>[(e.1,0),(e.1,1)]
theorem eg(v:ai)(l:List ai):aj (v::l)=v.2.1++aj l:=List.flatMap_cons
theorem jf(a b:List ai):aj (a++b)=aj a++aj b:=List.flatMap_append
theorem gM(a b:List ai)(v:ai):(aj (a++v::b)).Perm (v.2.1++aj (a++b)):=by rw[jf,eg,jf,←List.append_assoc,←List.append_assoc];exact ada _ ad0
theorem aT{x:ab}{l:List ai}:x∈aj l↔∃v∈l,x∈v.2.1:=List.mem_flatMap
theorem fL(e:aq)(l:List aq):ends (e::l)=(e.1,0)::(e.1,1)::ends l:=by unfold ends;rw[List.flatMap_cons];rfl
theorem IK(a b:List aq):ends (a++b)=ends a++ends b:=List.flatMap_append
theorem eP{x:ab}{l:List aq}:x∈ends l↔∃e∈l,e.1=x.1∧(x.2=0∨x.2=1):=by
 unfold ends;rw[List.mem_flatMap];constructor
 ·rintro⟨e,he,hx⟩;rcases abw.1 hx with rfl|hx
  ·exact⟨e,he,rfl,.inl rfl⟩
  ·rw[List.mem_singleton]at hx;subst hx;exact⟨e,he,rfl,.inr rfl⟩
 ·rintro⟨e,he,h1,h2⟩;refine⟨e,he,?_⟩;obtain⟨x1,x2⟩:=x;simp only at h1 h2;subst h1;rcases h2 with rfl|rfl<;>simp
theorem uI:∀{l:List aq},dd l→(ends l).Nodup
 |[],_=>List.nodup_nil
 |e::r,h=>by
  have aW:∀s:Int,(e.1,s)∉ends r:=fun s hs=>by obtain⟨f,hf,h1,_⟩:=eP.1 hs;have:=acD h hf;simp only at h1;rw[h1,bV]at this;cases this
  rw[fL];refine ab6.2 ⟨?_,ab6.2 ⟨aW 1,uI h.of_cons⟩⟩;rw[List.mem_cons];rintro(h1|h1)
  ·cases h1
  ·exact aW 0 h1
theorem EK(e:aq):∀l:List aq,(fg e l).Perm (e::l)
 |[]=>ad7 _
 |w::r=>by
  unfold fg
  split
  ·exact ad7 _
  ·exact(List.Perm.cons w (EK e r)).trans (List.Perm.swap e w r)
theorem EL(e:ai):∀l:List ai,(cW e l).Perm (e::l)
 |[]=>ad7 _
 |w::r=>by
  unfold cW
  split
  ·exact ad7 _
  ·exact(List.Perm.cons w (EL e r)).trans (List.Perm.swap e w r)
theorem EM(e:aq)(l:List aq):(ends (fg e l)).Perm ((e.1,0)::(e.1,1)::ends l):=by rw[←fL];exact List.Perm.flatMap_right _ (EK e l)
theorem uJ(v:ai)(l:List ai):(aj (cW v l)).Perm (v.2.1++aj l):=by rw[←eg];exact List.Perm.flatMap_right _ (EL v l)
theorem Cm{l:List aq}{x:ID}(hs:dd l)(h:(aV l x).isSome=true):(ends l).Perm ((x,0)::(x,1)::ends (dX l x)):=by
 obtain⟨e,he⟩:=acv.1 h;obtain⟨h3,h4⟩:=abr.1 (mJ hs he);rw[xG hs h]
 conv=>lhs;rw[←List.take_append_drop (bZ l x) l,List.drop_eq_getElem_cons h3,h4]
 rw[←wo he,←fL];exact List.Perm.flatMap_right _ adR
theorem jJ{l:List ai}{v:ai}(hs:bY l)(h:v∈l):aL l v.1=some v:=by
 have hf:(aL l v.1).isSome=true:=by unfold aL;rw[List.find?_isSome];exact⟨v,h,by simp⟩
 obtain⟨u,hu⟩:=acv.1 hf;have h1:=cZ hs hu;obtain⟨k,hk,he⟩:=adY h;have h2:l[k]? = some v:=by rw[List.getElem?_eq_getElem hk,he]
 rw[j6 hs h2 rfl,h1]at h2;rw[hu];exact h2
theorem mK{l:List ai}{v:ai}(hs:bY l)(h:v∈l):∃a b,l=a++v::b∧(∀u∈a++b,u.1≠v.1)∧dv l v.1=a++b∧∀r,l.map (xu v.1 r)=a++(v.1,(r,v.2.2))::b:=by
 obtain⟨a,b,rfl⟩:=adM h;have hp:=List.pairwise_append.1 hs;have hb:=List.pairwise_cons.1 hp.2.1;have aW:∀u∈a++b,u.1≠v.1:=fun u hu e=>by
  rcases ab0.1 hu with hu|hu
  ·have:=hp.2.2 u hu v (by simp);rw[e,bV]at this;cases this
  ·have:=hb.1 u hu;rw[e,bV]at this;cases this
 have hm:∀(r:List ab) (c:List ai),(∀u∈c,u.1≠v.1)→c.map (xu v.1 r)=c:=fun r c hc=>by
  conv=>rhs;rw[←List.map_id c]
  exact aed fun u hu=>by unfold xu;rw[if_neg (hc u hu)];rfl
 have hd:∀c:List ai,(∀u∈c,u.1≠v.1)→dv c v.1=c:=fun c hc=>by unfold dv;rw[List.filter_eq_self];intro u hu;simpa using hc u hu
 refine⟨a,b,rfl,aW,?_,fun r=>?_⟩
 ·unfold dv;rw[List.filter_append,List.filter_cons_of_neg (by simp)];have h1:=hd a (fun u hu=>aW u (abK _ hu));have h2:=hd b (fun u hu=>aW u (abx _ hu));unfold dv at h1 h2;rw[h1,h2]
 ·rw[List.map_append,List.map_cons,hm r a (fun u hu=>aW u (List.mem_append_left _ hu)),hm r b (fun u hu=>aW u (List.mem_append_right _ hu))];unfold xu;rw[if_pos rfl]
structure Rw(l:List ai):Prop where
 s:bY l
 n:(aj l).Nodup
theorem Rw.ring{l:List ai}(h:Rw l){v:ai}(hv:v∈l):v.2.1.Nodup:=by obtain⟨a,b,rfl,_⟩:=mK h.s hv;exact(adK.1 ((gM a b v).nodup_iff.1 h.n)).1
theorem Rw.one{l:List ai}(h:Rw l){v w:ai}{x:ab}(hv:v∈l)(hw:w∈l)(hx:x∈v.2.1)(hy:x∈w.2.1):w=v:=by
 obtain⟨a,b,rfl,_⟩:=mK h.s hv;have hn:=adK.1 ((gM a b v).nodup_iff.1 h.n);have:w∈a++v::b:=hw;rw[List.mem_append,List.mem_cons]at this;rcases this with k|k|k
 ·exact absurd rfl (hn.2.2 x hx x (aT.2 ⟨w,abK _ k,hy⟩))
 ·exact k
 ·exact absurd rfl (hn.2.2 x hx x (aT.2 ⟨w,abx _ k,hy⟩))
theorem dS{l:List ai}(h:Rw l){v:ai}{x:ab}(hv:v∈l)(hx:x∈v.2.1):Gc l x=some v.1:=by
 have hf:(l.find? fun u=>decide (x∈u.2.1)).isSome=true:=by rw[List.find?_isSome];exact⟨v,hv,by simpa using hx⟩
 obtain⟨u,hu⟩:=acv.1 hf;have h1:=adj hu;have h2:x∈u.2.1:=by simpa using adP hu
 unfold Gc;rw[hu,h.one hv h1 hx h2];rfl
theorem IL{l:List ai}{x:ab}(h:x∉aj l):Gc l x=none:=by
 unfold Gc;have:(l.find? fun u=>decide (x∈u.2.1))=none:=by rw[List.find?_eq_none];intro u hu hx;exact h (aT.2 ⟨u,hu,by simpa using hx⟩)
 rw[this];rfl
theorem j8{d:ak}(h:bY d.1){v:ai}(hv:v∈d.1):cM d v.1=v.2.1:=by unfold cM cd;rw[jJ h hv];rfl
theorem j9{d:ak}(h:Rw d.1){v:ai}{x:ab}(hv:v∈d.1)(hx:x∈v.2.1):aE d x=cf d v.1 (jl v.2.1 x):=by unfold aE ed;rw[dS h hv hx];show cf d v.1 (jl (cM d v.1) x)=_;rw[j8 h.s hv]
theorem p7{d:ak}(h:Rw d.1){v:ai}{x:ab}(y:ab)(hv:v∈d.1)(hx:x∈v.2.1):aw d x y=cf d v.1 (gx v.2.1 x y):=by unfold aw ed;rw[dS h hv hx];show cf d v.1 (gx (cM d v.1) x y)=_;rw[j8 h.s hv]
theorem bY.re{l:List ai}(h:bY l)(x:ID)(r:List ab):bY (l.map (xu x r)):=h.map (rI x r)
theorem Cn{l:List ai}{v:ai}(hs:bY l)(hv:v∈l):∃rest,(aj l).Perm (v.2.1++rest)∧∀r,(aj (l.map (xu v.1 r))).Perm (r++rest):=by
 obtain⟨a,b,h1,_,_,h2⟩:=mK hs hv;refine⟨aj (a++b),?_,fun r=>?_⟩
 ·conv=>lhs;rw[h1]
  exact gM a b v
 ·rw[h2 r];exact gM a b (v.1,(r,v.2.2))
theorem fi{d:ak}(h:Rw d.1){x:ab}(hx:x∈aj d.1):(aj d.1).Perm (x::aj (aE d x).1)∧Rw (aE d x).1:=by obtain⟨v,hv,lg⟩:=aT.1 hx;obtain⟨rest,h1,h2⟩:=Cn h.s hv;rw[j9 h hv lg];have p:(aj d.1).Perm (x::aj (cf d v.1 (jl v.2.1 x)).1) :=h1.trans ((ada rest (sX lg (h.ring hv))).trans (List.Perm.cons x (h2 _).symm));exact⟨p,h.s.re _ _,(ab6.1 (p.nodup_iff.1 h.n)).2⟩
theorem jK{d:ak}(h:Rw d.1){x y:ab}(hx:x∈aj d.1)(hy:y∉aj d.1):(y::aj d.1).Perm (x::aj (aw d x y).1)∧Rw (aw d x y).1:=by obtain⟨v,hv,lg⟩:=aT.1 hx;obtain⟨rest,h1,h2⟩:=Cn h.s hv;rw[p7 h y hv lg];have TP:y∉v.2.1:=fun k=>hy (aT.2 ⟨v,hv,k⟩);have p:(y::aj d.1).Perm (x::aj (cf d v.1 (gx v.2.1 x y)).1) :=(List.Perm.cons y h1).trans ((ada rest (K1 lg TP)).trans (List.Perm.cons x (h2 _).symm));refine⟨p,h.s.re _ _,?_⟩;exact(ab6.1 (p.nodup_iff.1 (ab6.2 ⟨hy,h.n⟩))).2
theorem tU{d:ak}(h:Rw d.1){c:uP}{x:ab}{v:ai}(hv:aL d.1 c.1=some v)(hx:x∉aj d.1):(aj (cr d c x).1).Perm (x::aj d.1)∧Rw (cr d c x).1:=by
 have Yc:=eO hv;have Yd:=iz hv;obtain⟨rest,h1,h2⟩:=Cn h.s Yc;have lg:x∉v.2.1:=fun k=>hx (aT.2 ⟨v,Yc,k⟩);have e:cr d c x=cf d v.1 (qK v.2.1 c.2 x):=by unfold cr;rw[←Yd,j8 h.s Yc]
 rw[e];have p:(aj (cf d v.1 (qK v.2.1 c.2 x)).1).Perm (x::aj d.1) :=(h2 _).trans ((ada rest (OH c.2 lg)).trans (List.Perm.cons x h1.symm));exact⟨p,h.s.re _ _,p.nodup_iff.2 (ab6.2 ⟨hx,h.n⟩)⟩
structure GV(v:ai):Prop where
 i:dL v.1=true
 l:lB v.2.2.1=true
 a:mG v.2.2.2=true
 t:cq v.2.1=v.2.1
structure GE(e:aq):Prop where
 i:dL e.1=true
 l:lB e.2.1=true
 a:mG e.2.2=true
structure Wf(d:ak):Prop where
 sv:bY d.1
 se:dd d.2
 nv:d.1.length≤24
 ne:d.2.length≤40
 gv:∀v∈d.1,GV v
 ge:∀e∈d.2,GE e
 pd:(aj d.1).Perm (ends d.2)
theorem Wf.rw{d:ak}(h:Wf d):Rw d.1:=⟨h.sv,h.pd.nodup_iff.2 (uI h.se)⟩
theorem Wf.zero:Wf zS.1:=⟨List.Pairwise.nil,List.Pairwise.nil,by simp[zS],by simp[zS],by simp[zS],by simp[zS],ad7 _⟩
theorem GV.re{l:List ai}(h:∀v∈l,GV v)(x:ID){r:List ab}(hr:cq r=r):∀v∈l.map (xu x r),GV v:=fun v hv=>by
 obtain⟨w,hw,rfl⟩:=acx.1 hv;have g:=h w hw;unfold xu
 split
 ·exact⟨g.i,g.l,g.a,hr⟩
 ·exact g
theorem kb{d:ak}(h:∀v∈d.1,GV v)(x:ab):∀v∈(aE d x).1,GV v:=GV.re h _ (OG _ _)
theorem qa{d:ak}(h:∀v∈d.1,GV v)(x y:ab):∀v∈(aw d x y).1,GV v:=GV.re h _ (K0 _ _ _)
theorem yX{d:ak}(h:∀v∈d.1,GV v)(c:uP)(y:ab):∀v∈(cr d c y).1,GV v:=GV.re h _ (OF _ _ _)
theorem fj(d:ak)(x:ID)(r:List ab):(cf d x r).1.length=d.1.length:=by unfold cf;simp
theorem EN:dL zI=false:=by decide
theorem qb{l:List aq}(h:∀e∈l,GE e):dX l zI=l:=by unfold dX;rw[List.filter_eq_self];intro e he;have:=(h e he).i;simp;intro k;rw[k,EN]at this;cases this
theorem sY{l:List ai}(h:∀e∈l,GV e):dv l zI=l:=by unfold dv;rw[List.filter_eq_self];intro e he;have:=(h e he).i;simp;intro k;rw[k,EN]at this;cases this
theorem sZ:lB e0=true:=by decide
theorem s5:mG 0=true:=by decide
theorem Co{l:List aq}{x:ID}(h:aV l x=none)(s:Int):(x,s)∉ends l:=fun k=>by obtain⟨e,he,h1,_⟩:=eP.1 k;unfold aV at h;rw[List.find?_eq_none]at h;exact h e he (by simpa using h1)
theorem Cp{l:List aq}{x:ID}(h:(aV l x).isSome=true){s:Int}(hs:s=0∨s=1):(x,s)∈ends l:=by obtain⟨e,he⟩:=acv.1 h;exact eP.2 ⟨e,Oy he,wo he,hs⟩
theorem RQ{o:aY}(h:cX o=0):dL (bu o)=true:=by
 unfold cX at h
 split at h;· cases h
 split at h;· cases h
 split at h;· cases h
 rename_i h3;simpa using h3
theorem Cq{o:aY}(h:cX o=0):1≤o.1∧o.1≤8:=by
 unfold cX at h
 split at h;· cases h
 split at h;· cases h
 omega
theorem xL{o:aY}(h:cX o=0)(hk:o.1=5):dL (fQ o)=true∧dL (bM o)=true∧0≤oN o∧oN o≤3:=by
 unfold cX at h
 split at h;· cases h
 split at h;· cases h
 split at h;· cases h
 split at h;· cases h
 rw[if_neg (show ¬o.1=3 by omega)]at h
 split at h
 ·assumption
 ·cases h
theorem IM{o:aY}(h:cX o=0)(hk:o.1=8):mG (oN o)=true:=by
 unfold cX at h
 split at h;· cases h
 split at h;· cases h
 split at h;· cases h
 split at h;· cases h
 rw[if_neg (show ¬o.1=3 by omega),if_neg (show ¬o.1=5 by omega),if_neg (show ¬o.1=6 by omega)]at h
 split at h
 ·assumption
 ·cases h
theorem EO{o:aY}(h:cX o=0)(hk:o.1=7):lB (wm o)=true:=by
 unfold cX at h
 split at h;· cases h
 split at h;· cases h
 split at h;· cases h
 split at h;· cases h
 rw[if_neg (show ¬o.1=3 by omega),if_neg (show ¬o.1=5 by omega),if_neg (show ¬o.1=6 by omega),if_neg (show ¬o.1=8 by omega)]at h
 split at h
 ·assumption
 ·cases h
def jg(l:List aM):Prop:=l.Pairwise fun a b=>lA a.1 b.1=true
theorem qc{a b:ab}:tn a b≤0↔a=b∨lA a b=true:=by
 unfold tn;by_cases h:a=b
 ·subst h;simp
 ·rw[if_neg h];cases lA a b<;>simp[h]
theorem Cr{q g:aM}:∀{l:List aM},q∈qL g l→q=g∨(q∈l∧q.1≠g.1)
 |[],h=>by simp[qL]at h;exact .inl h
 |e::r,h=>by
  unfold qL at h
  split at h
  ·rcases abw.1 h with h|h
   ·exact .inl h
   ·unfold tp at h;rw[List.mem_filter]at h;exact .inr ⟨h.1,by simpa using h.2⟩
  ·split at h
   ·rename_i aW;rcases abw.1 h with rfl|h
    ·exact .inr ⟨abZ ..,aW⟩
    ·rcases Cr h with h|⟨h,h2⟩
     ·exact .inl h
     ·exact .inr ⟨abq _ h,h2⟩
   ·rcases Cr h with h|⟨h,h2⟩
    ·exact .inl h
    ·exact .inr ⟨abq _ h,h2⟩
theorem jg.add(g:aM):∀{l:List aM},jg l→jg (qL g l)
 |[],_=>List.pairwise_singleton _ _
 |e::r,h=>by
  have hr:∀{q:aM},q∈r→lA e.1 q.1=true:=fun {q} hq=>acD h hq;unfold qL
  split
  ·rename_i ho;refine List.Pairwise.cons (fun q hq=>?_) (h.filter _);unfold tp at hq;rw[List.mem_filter]at hq;have aW:q.1≠g.1:=by simpa using hq.2
   have hle:e.1=q.1∨lA e.1 q.1=true:=by
    rcases abw.1 hq.1 with rfl|hq
    ·exact .inl rfl
    ·exact .inr (hr hq)
   rcases qc.1 ho with ho|ho
   ·rcases hle with k|k
    ·exact absurd (ho.trans k).symm aW
    ·rw[ho];exact k
   ·rcases hle with k|k
    ·rw[←k];exact ho
    ·exact gL ho k
  ·rename_i ho;have JK:lA e.1 g.1=true:=by have h1:¬(g.1=e.1∨lA g.1 e.1=true):=fun k=>ho (qc.2 k);exact xI (by simpa using fun k=>h1 (.inr k)) (fun k=>h1 (.inl k))
   have hs:=jg.add g (ad9 h)
   split
   ·refine List.Pairwise.cons (fun q hq=>?_) hs;rcases Cr hq with rfl|⟨hq,_⟩
    ·exact JK
    ·exact hr hq
   ·exact hs
theorem qd(e:aM)(r:List aM)(x:ab):mF (e::r) x=if e.1=x then some e.2 else mF r x:=by
 unfold mF;rw[List.find?_cons];by_cases h:e.1=x
 ·simp[h]
 ·simp[h]
theorem s6{g:aM}:∀{l:List aM},(∀q∈l,q.1≠g.1)→tp g l=l:=fun {l} h=>by unfold tp;rw[List.filter_eq_self];intro q hq;simpa using h q hq
theorem IN(g:aM):∀{l:List aM},jg l→(qL g l).length=if(mF l g.1).isSome=true then l.length else l.length+1
 |[],_=>rfl
 |e::r,h=>by
  have hr:∀{q:aM},q∈r→lA e.1 q.1=true:=fun {q} hq=>acD h hq;have ih:=IN g (ad9 h);unfold qL
  split
  ·rename_i ho;rcases qc.1 ho with ho|ho
   ·have h1:tp g (e::r)=r:=by
     have:tp g (e::r)=tp g r:=by unfold tp;rw[List.filter_cons_of_neg (by simp[ho])]
     rw[this];exact s6 (fun q hq k=>by have:=hr hq;rw[k,ho,dF]at this;cases this)
    rw[h1,qd,if_pos ho.symm];simp
   ·have h2:∀q∈e::r,q.1≠g.1:=fun q hq k=>by
     have:lA g.1 q.1=true:=by
      rcases abw.1 hq with rfl|hq
      ·exact ho
      ·exact gL ho (hr hq)
     rw[k,dF]at this;cases this
    have h3:mF (e::r) g.1=none:=by
     unfold mF;have:(List.find? (fun q=>decide (q.1=g.1)) (e::r))=none:=by rw[List.find?_eq_none];intro q hq;simpa using h2 q hq
     rw[this];rfl
    rw[s6 h2,h3];simp
  ·rename_i ho;have aW:e.1≠g.1:=fun k=>ho (qc.2 (.inl k.symm));rw[if_pos aW,qd,if_neg aW];simp only[List.length_cons,ih]
   split<;>rfl
theorem kc{l:List aM}(h:jg l)(hn:l.length≤400)(g:aM):jg (bS l g)∧(bS l g).length≤400:=by
 unfold bS
 split
 ·exact⟨h,hn⟩
 ·rename_i hc;refine⟨jg.add g h,?_⟩;rw[IN g h]
  split
  ·exact hn
  ·rename_i h1;by_cases h2:400≤l.length
   ·exact absurd ⟨by simpa using h1,h2⟩ hc
   ·omega
theorem s8{α:Type}{o:Option α}(h:¬o.isSome=false):o.isSome=true:=by cases o<;>simp_all
structure dM(s:StateT):Prop where
 d:Wf s.1
 g:jg s.2
 n:s.2.length≤400
theorem dM.zero:dM zS:=⟨Wf.zero,List.Pairwise.nil,by simp[zS]⟩
theorem dM.add{l:List aM}(h:jg l)(hn:l.length≤400){d:ak}(hd:Wf d)(g:aM):dM (d,bS l g):=⟨hd,(kc h hn g).1,(kc h hn g).2⟩
theorem OJ{f:ai→ai}(hf:∀v,(f v).2.1=v.2.1)(l:List ai):aj (l.map f)=aj l:=by unfold aj;rw[List.flatMap_map];congr 1;funext v;exact hf v
theorem RR{f:aq→aq}(hf:∀v,(f v).1=v.1)(l:List aq):ends (l.map f)=ends l:=by unfold ends;rw[List.flatMap_map];congr 1;funext v;rw[hf]
theorem Mw(o:aY)(w:aq):(rG o w).1=w.1:=by unfold rG;split<;>(try split)<;>rfl
theorem OL(o:aY)(w:ai):(mU o w).2.1=w.2.1:=by unfold mU;split<;>(try split)<;>rfl
theorem Wf.ta{d:ak}(h:Wf d){x:ID}(hx:aV d.2 x=none)(s:Int):(x,s)∉aj d.1:=fun k=>Co hx s (h.pd.mem_iff.1 k)
theorem Wf.mL{d:ak}(h:Wf d){x:ID}(hx:(aV d.2 x).isSome=true){s:Int}(hs:s=0∨s=1):(x,s)∈aj d.1:=h.pd.mem_iff.2 (Cp hx hs)
theorem Wf.xy{s:StateT}(h:Wf s.1){o:aY}(hm:cX o=0)(hk:7≤o.1):Wf (xy s o).1.1:=by
 have hk8:=(Cq hm).2;unfold Vs.xy
 split
 ·refine⟨h.sv.map (Mu o),h.se.map (Mw o),by simp;exact h.nv,by simp;exact h.ne,fun v hv=>?_,fun e he=>?_,?_⟩
  ·obtain⟨w,hw,rfl⟩:=acx.1 hv;have g:=h.gv w hw;unfold mU
   split
   ·split
    ·rename_i h7;exact⟨g.i,EO hm h7,g.a,g.t⟩
    ·exact⟨g.i,g.l,IM hm (by omega),g.t⟩
   ·exact g
  ·obtain⟨w,hw,rfl⟩:=acx.1 he;have g:=h.ge w hw;unfold rG
   split
   ·split
    ·rename_i h7;exact⟨g.i,EO hm h7,g.a⟩
    ·exact⟨g.i,g.l,IM hm (by omega)⟩
   ·exact g
  ·show(aj (s.1.1.map (mU o))).Perm (ends (s.1.2.map (rG o)));rw[OJ (OL o),RR (Mw o)];exact h.pd
 ·exact Wf.zero
theorem qe{s:StateT}{c:uP}(h:(bX s c).2.1=0):(cd s.1 c.1).isSome=true∧(bX s c).1.1=c.1:=by
 unfold bX at h ⊢
 cases hv:cd s.1 c.1 with
 |none=>rw[hv]at h;cases h
 |some v=>exact⟨rfl,rfl⟩
theorem wu{l:List ai}{x y:ID}(r:List ab)(h:(aL l x).isSome=true):(aL (l.map (xu y r)) x).isSome=true:=by rw[oS (rI y r)];simpa using h
theorem Wf.link{d:ak}(h:Wf d){x:ID}(hx:dL x=true)(hn:aV d.2 x=none)(he:¬40≤d.2.length){a b:uP}(ha:(aL d.1 a.1).isSome=true)(hb:(aL d.1 b.1).isSome=true) :
  Wf (cr (cr (d.1,fg (x,(e0,0)) d.2) a (x,0)) b (x,1)):=by
 have hrw:Rw ((d.1,fg (x,(e0,0)) d.2):ak).1:=h.rw;obtain⟨va,hva⟩:=acv.1 ha;have h0:=h.ta hn 0;have h1:=h.ta hn 1;obtain⟨p1,q1⟩:=tU (c:=a) (x:=(x,0)) hrw hva h0;obtain⟨vb,hvb⟩:=acv.1 (wu (x:=b.1) (y:=a.1) (qK (cM (d.1,fg (x,(e0,0)) d.2) a.1) a.2 (x,0)) hb);have Tx:(x,1)∉aj (cr (d.1,fg (x,(e0,0)) d.2) a (x,0)).1:=fun k=>by
  rcases abw.1 (p1.mem_iff.1 k) with k|k
  ·cases k
  ·exact h1 k
 obtain⟨p2,q2⟩:=tU (c:=b) (x:=(x,1)) q1 hvb Tx;refine⟨q2.s,xH (x,(e0,0)) h.se hn,?_,?_,yX (yX h.gv _ _) _ _,fun e hem=>?_,?_⟩
 ·unfold cr;rw[fj,fj];exact h.nv
 ·show(fg (x,(e0,0)) d.2).length≤40;rw[kT];omega
 ·rcases oO.1 (show e∈fg (x,(e0,0)) d.2 from hem) with rfl|hem
  ·exact⟨hx,sZ,s5⟩
  ·exact h.ge e hem
 ·show(aj _).Perm (ends (fg (x,(e0,0)) d.2));refine(p2.trans (List.Perm.cons _ p1)).trans (List.Perm.trans ?_ (EM (x,(e0,0)) d.2).symm);exact(List.Perm.swap _ _ _).trans (List.Perm.cons _ (List.Perm.cons _ h.pd))
theorem Wf.cut{d:ak}(h:Wf d){x:ID}(hx:(aV d.2 x).isSome=true):Wf (aI (aE (aE d (x,0)) (x,1)) zI x):=by
 have h0:=h.mL hx (s:=0) (.inl rfl);have h1:=h.mL hx (s:=1) (.inr rfl);obtain⟨p1,q1⟩:=fi h.rw h0;have Tx:(x,1)∈aj (aE d (x,0)).1:=by
  rcases abw.1 (p1.mem_iff.1 h1) with k|k
  ·cases k
  ·exact k
 obtain⟨p2,q2⟩:=fi q1 Tx;have Mx:=kb (kb h.gv (x,0)) (x,1);have My:(aI (aE (aE d (x,0)) (x,1)) zI x).1=(aE (aE d (x,0)) (x,1)).1:=sY Mx;refine⟨by rw[My];exact q2.s,uF h.se,?_,?_,by rw[My];exact Mx,fun e he=>h.ge e ?_,?_⟩
 ·rw[My];unfold aE;rw[fj,fj];exact h.nv
 ·exact acB (adI _ _) h.ne
 ·exact(ad4.1 (show e∈d.2.filter fun w=>decide (w.1≠x) from he)).1
 ·rw[My];show(aj (aE (aE d (x,0)) (x,1)).1).Perm (ends (dX d.2 x));have p3:((x,0)::(x,1)::aj (aE (aE d (x,0)) (x,1)).1).Perm ((x,0)::(x,1)::ends (dX d.2 x)) :=((p1.trans (List.Perm.cons _ p2)).symm.trans h.pd).trans (Cm h.se hx);exact p3.cons_inv.cons_inv
theorem gN{x:ab}(h:x.2=0∨x.2=1):(ag x).1=x.1∧((x.2=0∧(ag x).2=1)∨(x.2=1∧(ag x).2=0)):=by
 refine⟨rfl,?_⟩;unfold ag;rcases h with h|h
 ·exact .inl ⟨h,by rw[h];rfl⟩
 ·exact .inr ⟨h,by rw[h];rfl⟩
theorem IP{x:ab}(h:x.2=0∨x.2=1)(l:List ab):(x::ag x::l).Perm ((x.1,0)::(x.1,1)::l):=by
 obtain⟨h1,h2⟩:=gN h;have e:x=(x.1,x.2):=rfl;have e2:ag x=(x.1,(ag x).2):=rfl;rcases h2 with⟨ha,hb⟩|⟨ha,hb⟩
 ·rw[ha]at e;rw[hb]at e2;rw[e2,e]
 ·rw[ha]at e;rw[hb]at e2;rw[e2,e];exact List.Perm.swap _ _ _
theorem Cs{n:Int}(h0:0≤n)(h3:n≤3):(IntKind.wrap .i64 (1-Int.tmod n 2)=0∨IntKind.wrap .i64 (1-Int.tmod n 2)=1)∧(IntKind.wrap .i64 (Int.tdiv n 2)=0∨IntKind.wrap .i64 (Int.tdiv n 2)=1):=by
 have:n=0∨n=1∨n=2∨n=3:=by omega
 rcases this with rfl|rfl|rfl|rfl<;>exact⟨by decide,by decide⟩
theorem Wf.split{d:ak}(h:Wf d){m k:ab}{v:ID}(hv:dL v=true)(hk:dL k.1=true)(Um:m.2=0∨m.2=1)(mY:k.2=0∨k.2=1)(hm:(aV d.2 m.1).isSome=true)(JZ:aL d.1 v=none)(Ye:aV d.2 k.1=none) (WI:¬24≤d.1.length) (hle:¬40≤d.2.length):Wf (cW (v,(cq [m,k],(e0,0))) (aw d m (ag k)).1,fg (k.1,(e0,0)) (aw d m (ag k)).2):=by
 have K2:m∈aj d.1:=h.mL hm Um;have Eg:ag k∉aj d.1:=h.ta Ye _;obtain⟨p1,q1⟩:=jK h.rw K2 Eg;have U3:aL (aw d m (ag k)).1 v=none:=by unfold aw Vs.cf;rw[oS (rI _ _),JZ];rfl
 refine⟨oR (v,(cq [m,k],(e0,0))) q1.s U3,xH (k.1,(e0,0)) h.se Ye,?_,?_,fun w hw=>?_,fun e he=>?_,?_⟩
 ·show(cW _ (aw d m (ag k)).1).length≤24;rw[eW];unfold aw;rw[fj];omega
 ·show(fg _ d.2).length≤40;rw[kT];omega
 ·rcases jG.1 hw with rfl|hw
  ·exact⟨hv,sZ,s5,sW _⟩
  ·exact qa h.gv _ _ w hw
 ·rcases oO.1 (show e∈fg (k.1,(e0,0)) d.2 from he) with rfl|he
  ·exact⟨hk,sZ,s5⟩
  ·exact h.ge e he
 ·show(aj (cW _ _)).Perm (ends (fg (k.1,(e0,0)) d.2));refine(uJ _ _).trans (List.Perm.trans ?_ (EM (k.1,(e0,0)) d.2).symm);refine(ada _ (j7 [m,k])).trans ?_;show(m::k::aj (aw d m (ag k)).1).Perm _;refine(List.Perm.swap k m _).trans ((List.Perm.cons k p1.symm).trans ?_);refine(IP mY _).trans ?_;exact List.Perm.cons _ (List.Perm.cons _ h.pd)
theorem Wf.RS{d:ak}(h:Wf d){v:ai}(hv:v∈d.1)(hr:v.2.1=[]):Wf (aI d v.1 zI):=by
 obtain⟨a,b,h1,_,h2,_⟩:=mK h.sv hv;refine⟨mI h.sv,?_,acB (adI _ _) h.nv,acB (adI _ _) h.ne,fun w hw=>h.gv w ?_,fun e he=>h.ge e ?_,?_⟩
 ·exact uF h.se
 ·exact(ad4.1 (show w∈d.1.filter fun w=>decide (w.1≠v.1) from hw)).1
 ·exact(ad4.1 (show e∈d.2.filter fun w=>decide (w.1≠zI) from he)).1
 ·show(aj (dv d.1 v.1)).Perm (ends (dX d.2 zI));rw[h2,qb h.ge];have p:=gM a b v;rw[←h1,hr,List.nil_append]at p;exact p.symm.trans h.pd
theorem Wf.Yf{d:ak}(h:Wf d){v:ai}{a b:ab}(hv:v∈d.1)(hr:v.2.1.Perm [a,b])(yS:a.1≠b.1):Wf (aI (aw (aI d v.1 zI) (ag b) a) zI b.1):=by
 obtain⟨p,q,h1,_,h2,_⟩:=mK h.sv hv;have pd:(aj d.1).Perm (a::b::aj (p++q)):=by have:=(gM p q v).trans (ada _ hr);rw[←h1]at this;exact this
 have K3:aI d v.1 zI=(p++q,d.2):=by unfold aI;rw[h2,qb h.ge]
 have zQ:=pd.nodup_iff.1 h.rw.n;have hbm:b∈ends d.2:=h.pd.mem_iff.1 (pd.mem_iff.2 (by simp));obtain⟨e,he,ZX,zK⟩:=eP.1 hbm;have Dl:(aV d.2 b.1).isSome=true:=by unfold aV;rw[List.find?_isSome];exact⟨e,he,by simpa using ZX⟩
 obtain⟨_,ho⟩:=gN zK;have OM:ag b∈aj (p++q):=by
  have h3:ag b∈aj d.1:=h.mL (s:=(ag b).2) Dl (by rcases ho with⟨_,k⟩|⟨_,k⟩<;>omega);rcases abw.1 (pd.mem_iff.1 h3) with k|k
  ·exact absurd (congrArg Prod.fst k) (fun k=>yS k.symm)
  rcases abw.1 k with k|k
  ·have:=congrArg Prod.snd k;omega
  ·exact k
 have Gl:Rw (p++q):=by refine⟨?_,(ab6.1 (ab6.1 zQ).2).2⟩;rw[←h2];exact mI h.sv
 have ha:a∉aj (p++q):=fun k=>(ab6.1 zQ).1 (abq _ k);rw[K3];obtain⟨p1,q1⟩:=jK (d:=(p++q,d.2)) Gl OM ha;have Mx:∀w∈(aw (p++q,d.2) (ag b) a).1,GV w:=by
  refine qa (d:=(p++q,d.2)) (fun w hw=>h.gv w ?_) _ _;rw[h1];rcases ab0.1 hw with k|k
  ·exact abK _ k
  ·exact abx _ (abq _ k)
 have My:(aI (aw (p++q,d.2) (ag b) a) zI b.1).1=(aw (p++q,d.2) (ag b) a).1:=sY Mx;refine⟨by rw[My];exact q1.s,uF h.se,?_,acB (adI _ _) h.ne,by rw[My];exact Mx,fun f hf=>h.ge f ?_,?_⟩
 ·rw[My];unfold aw;rw[fj];have:=h.nv;rw[h1]at this;simp at this ⊢;omega
 ·exact(ad4.1 (show f∈d.2.filter fun w=>decide (w.1≠b.1) from hf)).1
 ·rw[My];show(aj (aw (p++q,d.2) (ag b) a).1).Perm (ends (dX d.2 b.1));have p3:(b::ag b::aj (aw (p++q,d.2) (ag b) a).1).Perm (b::ag b::ends (dX d.2 b.1)):=by refine List.Perm.trans (List.Perm.cons b p1.symm) ?_;refine(List.Perm.swap a b _).trans (pd.symm.trans (h.pd.trans ?_));exact(Cm h.se Dl).trans (IP zK _).symm
  exact p3.cons_inv.cons_inv
theorem dM.one{s:StateT}(h:dM s)(o:aY):dM (oQ s o).1:=by
 unfold oQ
 split
 ·exact dM.zero
 rename_i hm;have hm:cX o=0:=Classical.byContradiction fun k=>hm k;have br:=RQ hm
 split
 ·unfold qy
  split;· exact dM.zero
  split;· exact dM.zero
  rename_i h1 h2;have hn:aL s.1.1 (bu o)=none:=by simpa[cd] using h1
  refine⟨⟨oR _ h.d.sv hn,h.d.se,by show(cW _ s.1.1).length≤24;rw[eW];omega,h.d.ne,fun w hw=>?_,h.d.ge,?_⟩,h.g,h.n⟩
  ·rcases jG.1 hw with rfl|hw
   ·exact⟨br,sZ,s5,rfl⟩
   ·exact h.d.gv w hw
  ·exact(uJ _ _).trans h.d.pd
 split
 ·unfold yV
  cases hv:cd s.1 (bu o) with
  |none=>exact dM.zero
  |some v =>
   simp only
   split
   ·exact dM.zero
   ·rename_i hr;have:=h.d.RS (eO hv) (by simpa using hr);rw[iz hv]at this;exact⟨this,h.g,h.n⟩
 split
 ·unfold rH
  split;· exact dM.zero
  split;· exact dM.zero
  split;· exact dM.zero
  split;· exact dM.zero
  split;· exact dM.zero
  rename_i h1 h2 h3 h4 h5;have hn:aV s.1.2 (bu o)=none:=by simpa[nR] using h1
  obtain⟨ca,ca2⟩:=qe (s:=s) (c:=oA o) (Classical.byContradiction fun k=>h3 k);obtain⟨cb,cb2⟩:=qe (s:=s) (c:=oB o) (Classical.byContradiction fun k=>h4 k);refine⟨?_,h.g,h.n⟩;unfold oP;refine h.d.link br hn h2 (by rw[ca2];exact ca) ?_
  split
  ·exact cb
  ·rw[cb2];exact cb
 split
 ·unfold IG
  split;· exact dM.zero
  rename_i h1;have h2:=kc h.g h.n ((bu o,0),fh s.1 (bu o,0));exact dM.add h2.1 h2.2 (h.d.cut (s8 h1)) _
 split
 ·rename_i hk;unfold nS
  split;· exact dM.zero
  split;· exact dM.zero
  split;· exact dM.zero
  split;· exact dM.zero
  split;· exact dM.zero
  rename_i h1 h2 h3 h4 h5;obtain⟨m1,m2,m3,m4⟩:=xL hm hk;obtain⟨s1,s2⟩:=Cs m3 m4;refine⟨?_,h.g,h.n⟩;exact h.d.split (m:=TO o) (k:=Px o) m1 m2 s1 s2 (s8 h1) (by simpa[cd] using h2) (by simpa[nR,Px] using h3) h4 h5
 split
 ·unfold nu
  split
  ·exact dM.zero
  ·rename_i v hv
   split
   ·rename_i r0 r1 hr;have Yc:=eO hv;have Yd:=iz hv;have key:∀a b:ab,v.2.1.Perm [a,b]→a.1≠b.1→dM (JN s o a b,KT s.2 a b):=fun a b hp yS=>by have h2:=kc h.g h.n ((b.1,0),uE a b 0);have:=h.d.Yf Yc hp yS;rw[Yd]at this;exact dM.add h2.1 h2.2 this _
    unfold lC
    split;· exact dM.zero
    rename_i aW
    split
    ·exact key r1 r0 (by rw[hr];exact List.Perm.swap _ _ _) (fun k=>aW k.symm)
    split
    ·exact key r0 r1 (by rw[hr]) aW
    ·exact dM.zero
   ·exact dM.zero
 ·rename_i k1 k2 k3 k4 k5 k6;have hk:=Cq hm;have:=h.d.xy hm (by omega);refine⟨this,?_,?_⟩
  ·unfold xy;split
   ·exact h.g
   ·exact List.Pairwise.nil
  ·unfold xy;split
   ·exact h.n
   ·simp[zS]
theorem dM.go:∀(l:List aY) {s:StateT},dM s→dM (Gf l s).1
 |[],s,h=>h
 |o::r,s,h=>by
  unfold Gf
  split
  ·exact dM.zero
  ·exact dM.go r (h.one o)
theorem dM.apply{s:StateT}(h:dM s)(l:List aY):dM (ct s l).1:=by
 unfold ct
 split
 ·exact dM.zero
 ·exact dM.go l h
theorem dM.try{s:StateT}(h:dM s)(l:List aY):dM (iy s l):=by
 unfold iy
 split
 ·exact h
 ·exact h.apply l
theorem dM.reach:∀(m:Nat) (l:List (List aY)) {s:StateT},dM s→dM (mH m l s)
 |0,_,s,h=>by simpa[mH] using h
 |m+1,[],s,h=>h
 |m+1,l::r,s,h=>by rw[mH];exact dM.reach m r (h.try _)
theorem dM.Mr(l:List (List aY)):dM (Cf l):=dM.reach 30 l dM.zero
end Go.Vs
