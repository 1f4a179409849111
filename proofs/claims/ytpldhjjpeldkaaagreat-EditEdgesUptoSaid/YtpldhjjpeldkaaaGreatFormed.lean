/- Diagrams that are well formed stay so. -/
import Derived.Test.YtpldhjjpeldkaaaGreatRings
set_option linter.unusedVariables false
set_option linter.unusedSimpArgs false
namespace Go.Vs
open Go.Proofs
theorem gZ(row:List ab):(bZ row).Perm row:=by
 unfold bZ qv
 exact List.perm_append_comm.trans (List.Perm.of_eq (List.take_append_drop _ _))
theorem NQ{row:List ab}(h:0<row.length)(hl:∀j,(hj:j<row.length)→lp row[j] row[0]=false):eZ row row 0 0=0:=by
 have hm:=kC row row 0 0 h (by omega)
 have h2:=(mG h).2 0
 by_cases hz:eZ row row 0 0=0
 ·exact hz
 ·have:=h2 (by omega) h
  rw[lJ hm,hl _ hm]at this;cases this
theorem Rv(row:List ab):qv row 0=row:=by unfold qv;simp
theorem sS(row:List ab):bZ (bZ row)=bZ row:=by
 by_cases h0:row.length=0
 ·have:row=[]:=by simpa using h0
  subst this;rfl
 have hp:0<row.length:=by omega
 have hm:=kC row row 0 0 hp (by omega)
 have hp2:0<(bZ row).length:=by rw[gN];exact hp
 have h1:(bZ row)[0]=row.getD (eZ row row 0 0) zD:=by
  have:=sM (row:=row) (k:=eZ row row 0 0) (i:=0) (by omega) hp
  rw[Nat.add_zero,Nat.mod_eq_of_lt hm,List.getElem?_eq_getElem hm]at this
  rw[lJ hm]
  exact(List.getElem?_eq_some_iff.1 this).2
 have h2:eZ (bZ row) (bZ row) 0 0=0:=by
  refine NQ hp2 (fun j hj=>?_)
  rw[h1]
  have gH:(bZ row)[j]∈row:=jL.1 (List.getElem_mem hj)
  obtain⟨i,hi,he⟩:=List.getElem_of_mem gH
  rw[←he]
  exact(mG hp).1 i hi
 unfold bZ at h2 ⊢
 rw[h2,Rv]
theorem NR(row:List ab)(a d:ab):bZ (dI row a d)=dI row a d:=by unfold dI;split<;>exact sS _
theorem NS(row:List ab)(d:ab):bZ (c6 row d)=c6 row d:=sS _
theorem Ky(row:List ab)(a d:ab):bZ (fE row a d)=fE row a d:=sS _
theorem NT{row:List ab}{d:ab}(a:ab)(h:d∉row):(dI row a d).Perm (d::row):=by
 unfold dI
 rw[if_neg h]
 refine(gZ _).trans (List.perm_middle.trans ?_)
 rw[List.take_append_drop]
theorem sV{row:List ab}{d:ab}(h:d∈row)(hn:row.Nodup):row.Perm (d::c6 row d):=by
 obtain⟨k,_,h2,_⟩:=eP h
 obtain⟨h3,h4⟩:=List.getElem?_eq_some_iff.1 h2
 unfold c6
 rw[xO hn h2]
 refine List.Perm.trans ?_ (List.Perm.cons d (gZ _).symm)
 conv=>lhs;rw[←List.take_append_drop k row,List.drop_eq_getElem_cons h3,h4]
 exact List.perm_middle
theorem Kz{row:List ab}{cY d:ab}(h:cY∈row)(hd:d∉row):(d::row).Perm (cY::fE row cY d):=by
 obtain⟨k,h1,h2,_⟩:=eP h
 obtain⟨h3,h4⟩:=List.getElem?_eq_some_iff.1 h2
 unfold fE
 rw[if_pos ⟨h,hd⟩,h1,Int.toNat_natCast]
 refine List.Perm.trans ?_ (List.Perm.cons cY (gZ _).symm)
 rw[List.set_eq_take_append_cons_drop,if_pos h3]
 conv=>lhs;rw[←List.take_append_drop k row,List.drop_eq_getElem_cons h3,h4]
 have p1:(row.take k++cY::row.drop (k+1)).Perm (cY::(row.take k++row.drop (k+1))):=List.perm_middle
 have p2:(row.take k++d::row.drop (k+1)).Perm (d::(row.take k++row.drop (k+1))):=List.perm_middle
 exact(List.Perm.cons d p1).trans ((List.Perm.swap cY d _).trans (List.Perm.cons cY p2.symm))
def ak(l:List ag):List ab:=l.flatMap fun v=>v.2.1
def ends(l:List ah):List ab:=l.flatMap fun e=>[(e.1,0),(e.1,1)]
theorem km(v:ag)(l:List ag):ak (v::l)=v.2.1++ak l:=List.flatMap_cons
theorem oP(a b:List ag):ak (a++b)=ak a++ak b:=List.flatMap_append
theorem g6(a b:List ag)(v:ag):(ak (a++v::b)).Perm (v.2.1++ak (a++b)):=by
 rw[oP,km,oP,←List.append_assoc,←List.append_assoc]
 exact List.Perm.append_right _ List.perm_append_comm
theorem aG{x:ab}{l:List ag}:x∈ak l↔∃v∈l,x∈v.2.1:=List.mem_flatMap
theorem kq(e:ah)(l:List ah):ends (e::l)=(e.1,0)::(e.1,1)::ends l:=by unfold ends;rw[List.flatMap_cons];rfl
theorem eQ{x:ab}{l:List ah}:x∈ends l↔∃e∈l,e.1=x.1∧(x.2=0∨x.2=1):=by
 unfold ends
 rw[List.mem_flatMap]
 constructor
 ·rintro⟨e,he,hx⟩
  rcases List.mem_cons.1 hx with rfl|hx
  ·exact⟨e,he,rfl,.inl rfl⟩
  ·rw[List.mem_singleton]at hx;subst hx;exact⟨e,he,rfl,.inr rfl⟩
 ·rintro⟨e,he,h1,h2⟩
  refine⟨e,he,?_⟩
  obtain⟨x1,x2⟩:=x
  simp only at h1 h2
  subst h1
  rcases h2 with rfl|rfl<;>simp
theorem Cr:∀{l:List ah},dv l→(ends l).Nodup
 |[],_=>List.nodup_nil
 |e::r,h=>by
  have bp:∀s:Int,(e.1,s)∉ends r:=fun s hs=>by
   obtain⟨f,hf,h1,_⟩:=eQ.1 hs
   have:=List.rel_of_pairwise_cons h hf
   simp only at h1
   rw[h1,cq]at this;cases this
  rw[kq]
  refine List.nodup_cons.2 ⟨?_,List.nodup_cons.2 ⟨bp 1,Cr h.of_cons⟩⟩
  rw[List.mem_cons]
  rintro(h1|h1)
  ·cases h1
  ·exact bp 0 h1
theorem Ev(e:ah):∀l:List ah,(cF e l).Perm (e::l)
 |[]=>List.Perm.refl _
 |w::r=>by
  unfold cF
  split
  ·exact List.Perm.refl _
  ·exact(List.Perm.cons w (Ev e r)).trans (List.Perm.swap e w r)
theorem Ew(e:ag):∀l:List ag,(cX e l).Perm (e::l)
 |[]=>List.Perm.refl _
 |w::r=>by
  unfold cX
  split
  ·exact List.Perm.refl _
  ·exact(List.Perm.cons w (Ew e r)).trans (List.Perm.swap e w r)
theorem Ex(e:ah)(l:List ah):(ends (cF e l)).Perm ((e.1,0)::(e.1,1)::ends l):=by
 rw[←kq]
 exact List.Perm.flatMap_right _ (Ev e l)
theorem uG(v:ag)(l:List ag):(ak (cX v l)).Perm (v.2.1++ak l):=by
 rw[←km]
 exact List.Perm.flatMap_right _ (Ew v l)
theorem Cs{l:List ah}{x:ID}(hs:dv l)(h:(aU l x).isSome=true):(ends l).Perm ((x,0)::(x,1)::ends (cE l x)):=by
 obtain⟨e,he⟩:=Option.isSome_iff_exists.1 h
 obtain⟨h3,h4⟩:=List.getElem?_eq_some_iff.1 (mF hs he)
 rw[xL hs h]
 conv=>lhs;rw[←List.take_append_drop (cj l x) l,List.drop_eq_getElem_cons h3,h4]
 rw[←wj he,←kq]
 exact List.Perm.flatMap_right _ List.perm_middle
theorem dS{l:List ag}{v:ag}(hs:cf l)(h:v∈l):aQ l v.1=some v:=by
 have hf:(aQ l v.1).isSome=true:=by
  unfold aQ;rw[List.find?_isSome];exact⟨v,h,by simp⟩
 obtain⟨u,hu⟩:=Option.isSome_iff_exists.1 hf
 have h1:=dp hs hu
 obtain⟨k,hk,he⟩:=List.getElem_of_mem h
 have h2:l[k]? = some v:=by rw[List.getElem?_eq_getElem hk,he]
 rw[kl hs h2 rfl,h1]at h2
 rw[hu];exact h2
theorem mH{l:List ag}{v:ag}(hs:cf l)(h:v∈l):∃a b,l=a++v::b∧(∀u∈a++b,u.1≠v.1)∧cT l v.1=a++b∧∀r,l.map (gr v.1 r)=a++(v.1,(r,v.2.2))::b:=by
 obtain⟨a,b,rfl⟩:=List.append_of_mem h
 have hp:=List.pairwise_append.1 hs
 have hb:=List.pairwise_cons.1 hp.2.1
 have bp:∀u∈a++b,u.1≠v.1:=fun u hu e=>by
  rcases List.mem_append.1 hu with hu|hu
  ·have:=hp.2.2 u hu v (by simp);rw[e,cq]at this;cases this
  ·have:=hb.1 u hu;rw[e,cq]at this;cases this
 have hm:∀(r:List ab) (c:List ag),(∀u∈c,u.1≠v.1)→c.map (gr v.1 r)=c:=fun r c hc=>by
  conv=>rhs;rw[←List.map_id c]
  exact List.map_congr_left fun u hu=>by unfold gr;rw[if_neg (hc u hu)];rfl
 have hd:∀c:List ag,(∀u∈c,u.1≠v.1)→cT c v.1=c:=fun c hc=>by
  unfold cT;rw[List.filter_eq_self];intro u hu;simpa using hc u hu
 refine⟨a,b,rfl,bp,?_,fun r=>?_⟩
 ·unfold cT
  rw[List.filter_append,List.filter_cons_of_neg (by simp)]
  have h1:=hd a (fun u hu=>bp u (List.mem_append_left _ hu))
  have h2:=hd b (fun u hu=>bp u (List.mem_append_right _ hu))
  unfold cT at h1 h2
  rw[h1,h2]
 ·rw[List.map_append,List.map_cons,hm r a (fun u hu=>bp u (List.mem_append_left _ hu)),hm r b (fun u hu=>bp u (List.mem_append_right _ hu))]
  unfold gr;rw[if_pos rfl]
structure Rw(l:List ag):Prop where
 s:cf l
 n:(ak l).Nodup
theorem Rw.ring{l:List ag}(h:Rw l){v:ag}(hv:v∈l):v.2.1.Nodup:=by
 obtain⟨a,b,rfl,_⟩:=mH h.s hv
 exact(List.nodup_append.1 ((g6 a b v).nodup_iff.1 h.n)).1
theorem Rw.one{l:List ag}(h:Rw l){v w:ag}{x:ab}(hv:v∈l)(hw:w∈l)(hx:x∈v.2.1)(hy:x∈w.2.1):w=v:=by
 obtain⟨a,b,rfl,_⟩:=mH h.s hv
 have hn:=List.nodup_append.1 ((g6 a b v).nodup_iff.1 h.n)
 have:w∈a++v::b:=hw
 rw[List.mem_append,List.mem_cons]at this
 rcases this with k|k|k
 ·exact absurd rfl (hn.2.2 x hx x (aG.2 ⟨w,List.mem_append_left _ k,hy⟩))
 ·exact k
 ·exact absurd rfl (hn.2.2 x hx x (aG.2 ⟨w,List.mem_append_right _ k,hy⟩))
theorem cQ{l:List ag}(h:Rw l){v:ag}{x:ab}(hv:v∈l)(hx:x∈v.2.1):C7 l x=some v.1:=by
 have hf:(l.find? fun u=>decide (x∈u.2.1)).isSome=true:=by rw[List.find?_isSome];exact⟨v,hv,by simpa using hx⟩
 obtain⟨u,hu⟩:=Option.isSome_iff_exists.1 hf
 have h1:=List.mem_of_find?_eq_some hu
 have h2:x∈u.2.1:=by simpa using List.find?_some hu
 unfold C7
 rw[hu,h.one hv h1 hx h2];rfl
theorem wo{l:List ag}{x:ab}(h:x∉ak l):C7 l x=none:=by
 unfold C7
 have:(l.find? fun u=>decide (x∈u.2.1))=none:=by
  rw[List.find?_eq_none];intro u hu hx
  exact h (aG.2 ⟨u,hu,by simpa using hx⟩)
 rw[this];rfl
theorem g8{d:ai}(h:cf d.1){v:ag}(hv:v∈d.1):bA d v.1=v.2.1:=by
 unfold bA bg;rw[dS h hv];rfl
theorem da{d:ai}(h:Rw d.1){v:ag}{x:ab}(hv:v∈d.1)(hx:x∈v.2.1):az d x=bM d v.1 (c6 v.2.1 x):=by
 unfold az bY
 rw[cQ h hv hx]
 show bM d v.1 (c6 (bA d v.1) x)=_
 rw[g8 h.s hv]
theorem p7{d:ai}(h:Rw d.1){v:ag}{x:ab}(y:ab)(hv:v∈d.1)(hx:x∈v.2.1):av d x y=bM d v.1 (fE v.2.1 x y):=by
 unfold av bY
 rw[cQ h hv hx]
 show bM d v.1 (fE (bA d v.1) x y)=_
 rw[g8 h.s hv]
theorem cf.re{l:List ag}(h:cf l)(x:ID)(r:List ab):cf (l.map (gr x r)):=h.map (rK x r)
theorem Ct{l:List ag}{v:ag}(hs:cf l)(hv:v∈l):∃rest,(ak l).Perm (v.2.1++rest)∧∀r,(ak (l.map (gr v.1 r))).Perm (r++rest):=by
 obtain⟨a,b,h1,_,_,h2⟩:=mH hs hv
 refine⟨ak (a++b),?_,fun r=>?_⟩
 ·conv=>lhs;rw[h1]
  exact g6 a b v
 ·rw[h2 r];exact g6 a b (v.1,(r,v.2.2))
theorem dB{d:ai}(h:Rw d.1){x:ab}(hx:x∈ak d.1):(ak d.1).Perm (x::ak (az d x).1)∧Rw (az d x).1:=by
 obtain⟨v,hv,js⟩:=aG.1 hx
 obtain⟨rest,h1,h2⟩:=Ct h.s hv
 rw[da h hv js]
 have p:(ak d.1).Perm (x::ak (bM d v.1 (c6 v.2.1 x)).1) :=
  h1.trans ((List.Perm.append_right rest (sV js (h.ring hv))).trans (List.Perm.cons x (h2 _).symm))
 exact⟨p,h.s.re _ _,(List.nodup_cons.1 (p.nodup_iff.1 h.n)).2⟩
theorem jP{d:ai}(h:Rw d.1){x y:ab}(hx:x∈ak d.1)(hy:y∉ak d.1):(y::ak d.1).Perm (x::ak (av d x y).1)∧Rw (av d x y).1:=by
 obtain⟨v,hv,js⟩:=aG.1 hx
 obtain⟨rest,h1,h2⟩:=Ct h.s hv
 rw[p7 h y hv js]
 have Tb:y∉v.2.1:=fun k=>hy (aG.2 ⟨v,hv,k⟩)
 have p:(y::ak d.1).Perm (x::ak (bM d v.1 (fE v.2.1 x y)).1) :=
  (List.Perm.cons y h1).trans ((List.Perm.append_right rest (Kz js Tb)).trans (List.Perm.cons x (h2 _).symm))
 refine⟨p,h.s.re _ _,?_⟩
 exact(List.nodup_cons.1 (p.nodup_iff.1 (List.nodup_cons.2 ⟨hy,h.n⟩))).2
theorem nS{d:ai}(h:Rw d.1){c:pS}{x:ab}{v:ag}(hv:aQ d.1 c.1=some v)(hx:x∉ak d.1):(ak (aX d c x).1).Perm (x::ak d.1)∧Rw (aX d c x).1:=by
 have XG:=fw hv
 have XH:=iF hv
 obtain⟨rest,h1,h2⟩:=Ct h.s XG
 have js:x∉v.2.1:=fun k=>hx (aG.2 ⟨v,XG,k⟩)
 have e:aX d c x=bM d v.1 (dI v.2.1 c.2 x):=by
  unfold aX
  rw[←XH,g8 h.s XG]
 rw[e]
 have p:(ak (bM d v.1 (dI v.2.1 c.2 x)).1).Perm (x::ak d.1) :=
  (h2 _).trans ((List.Perm.append_right rest (NT c.2 js)).trans (List.Perm.cons x h1.symm))
 exact⟨p,h.s.re _ _,p.nodup_iff.2 (List.nodup_cons.2 ⟨hx,h.n⟩)⟩
structure GV(v:ag):Prop where
 i:cZ v.1=true
 l:DF v.2.2.1=true
 a:wb v.2.2.2=true
 t:bZ v.2.1=v.2.1
structure GE(e:ah):Prop where
 i:cZ e.1=true
 l:DF e.2.1=true
 a:wb e.2.2=true
structure Wf(d:ai):Prop where
 sv:cf d.1
 se:dv d.2
 nv:d.1.length≤24
 ne:d.2.length≤40
 gv:∀v∈d.1,GV v
 ge:∀e∈d.2,GE e
 pd:(ak d.1).Perm (ends d.2)
theorem Wf.rw{d:ai}(h:Wf d):Rw d.1:=⟨h.sv,h.pd.nodup_iff.2 (Cr h.se)⟩
theorem Wf.zero:Wf zS.1:=⟨List.Pairwise.nil,List.Pairwise.nil,by simp[zS],by simp[zS],by simp[zS],by simp[zS],List.Perm.refl _⟩
theorem GV.re{l:List ag}(h:∀v∈l,GV v)(x:ID){r:List ab}(hr:bZ r=r):∀v∈l.map (gr x r),GV v:=fun v hv=>by
 obtain⟨w,hw,rfl⟩:=List.mem_map.1 hv
 have g:=h w hw
 unfold gr
 split
 ·exact⟨g.i,g.l,g.a,hr⟩
 ·exact g
theorem kr{d:ai}(h:∀v∈d.1,GV v)(x:ab):∀v∈(az d x).1,GV v:=GV.re h _ (NS _ _)
theorem qa{d:ai}(h:∀v∈d.1,GV v)(x y:ab):∀v∈(av d x y).1,GV v:=GV.re h _ (Ky _ _ _)
theorem rL{d:ai}(h:∀v∈d.1,GV v)(c:pS)(y:ab):∀v∈(aX d c y).1,GV v:=GV.re h _ (NR _ _ _)
theorem gQ(d:ai)(x:ID)(r:List ab):(bM d x r).1.length=d.1.length:=by unfold bM;simp
theorem Ey:cZ zI=false:=by decide
theorem qb{l:List ah}(h:∀e∈l,GE e):cE l zI=l:=by
 unfold cE;rw[List.filter_eq_self];intro e he
 have:=(h e he).i
 simp;intro k;rw[k,Ey]at this;cases this
theorem qc{l:List ag}(h:∀e∈l,GV e):cT l zI=l:=by
 unfold cT;rw[List.filter_eq_self];intro e he
 have:=(h e he).i
 simp;intro k;rw[k,Ey]at this;cases this
theorem sW:DF e0=true:=by decide
theorem sX:wb 0=true:=by decide
theorem Cu{l:List ah}{x:ID}(h:aU l x=none)(s:Int):(x,s)∉ends l:=fun k=>by
 obtain⟨e,he,h1,_⟩:=eQ.1 k
 unfold aU at h
 rw[List.find?_eq_none]at h
 exact h e he (by simpa using h1)
theorem Cv{l:List ah}{x:ID}(h:(aU l x).isSome=true){s:Int}(hs:s=0∨s=1):(x,s)∈ends l:=by
 obtain⟨e,he⟩:=Option.isSome_iff_exists.1 h
 exact eQ.2 ⟨e,NO he,wj he,hs⟩
end Go.Vs
namespace Go.Vs
open Go.Proofs
theorem Rx{o:bL}(h:c5 o=0):cZ (ba o)=true:=by
 unfold c5 at h
 split at h;· cases h
 split at h;· cases h
 split at h;· cases h
 rename_i h3;simpa using h3
theorem Cw{o:bL}(h:c5 o=0):1≤o.1∧o.1≤8:=by
 unfold c5 at h
 split at h;· cases h
 split at h;· cases h
 omega
theorem xQ{o:bL}(h:c5 o=0)(hk:o.1=5):cZ (fk o)=true∧cZ (bh o)=true∧0≤oN o∧oN o≤3:=by
 unfold c5 at h
 split at h;· cases h
 split at h;· cases h
 split at h;· cases h
 split at h;· cases h
 rw[if_neg (show ¬o.1=3 by omega)]at h
 split at h
 ·assumption
 ·cases h
theorem IJ{o:bL}(h:c5 o=0)(hk:o.1=8):wb (oN o)=true:=by
 unfold c5 at h
 split at h;· cases h
 split at h;· cases h
 split at h;· cases h
 split at h;· cases h
 rw[if_neg (show ¬o.1=3 by omega),if_neg (show ¬o.1=5 by omega),if_neg (show ¬o.1=6 by omega)]at h
 split at h
 ·assumption
 ·cases h
theorem Ez{o:bL}(h:c5 o=0)(hk:o.1=7):DF (oJ o)=true:=by
 unfold c5 at h
 split at h;· cases h
 split at h;· cases h
 split at h;· cases h
 split at h;· cases h
 rw[if_neg (show ¬o.1=3 by omega),if_neg (show ¬o.1=5 by omega),if_neg (show ¬o.1=6 by omega),if_neg (show ¬o.1=8 by omega)]at h
 split at h
 ·assumption
 ·cases h
def jt(l:List aq):Prop:=l.Pairwise fun a b=>lp a.1 b.1=true
theorem qd{a b:ab}:nP a b≤0↔a=b∨lp a b=true:=by
 unfold nP
 by_cases h:a=b
 ·subst h;simp
 ·rw[if_neg h];cases lp a b<;>simp[h]
theorem Cx{q g:aq}:∀{l:List aq},q∈lI g l→q=g∨(q∈l∧q.1≠g.1)
 |[],h=>by simp[lI]at h;exact .inl h
 |e::r,h=>by
  unfold lI at h
  split at h
  ·rcases List.mem_cons.1 h with h|h
   ·exact .inl h
   ·unfold nQ at h
    rw[List.mem_filter]at h
    exact .inr ⟨h.1,by simpa using h.2⟩
  ·split at h
   ·rename_i bp
    rcases List.mem_cons.1 h with rfl|h
    ·exact .inr ⟨List.mem_cons_self ..,bp⟩
    ·rcases Cx h with h|⟨h,h2⟩
     ·exact .inl h
     ·exact .inr ⟨List.mem_cons_of_mem _ h,h2⟩
   ·rcases Cx h with h|⟨h,h2⟩
    ·exact .inl h
    ·exact .inr ⟨List.mem_cons_of_mem _ h,h2⟩
theorem jt.add(g:aq):∀{l:List aq},jt l→jt (lI g l)
 |[],_=>List.pairwise_singleton _ _
 |e::r,h=>by
  have hr:∀{q:aq},q∈r→lp e.1 q.1=true:=fun {q} hq=>List.rel_of_pairwise_cons h hq
  unfold lI
  split
  ·rename_i ho
   refine List.Pairwise.cons (fun q hq=>?_) (h.filter _)
   unfold nQ at hq
   rw[List.mem_filter]at hq
   have bp:q.1≠g.1:=by simpa using hq.2
   have hle:e.1=q.1∨lp e.1 q.1=true:=by
    rcases List.mem_cons.1 hq.1 with rfl|hq
    ·exact .inl rfl
    ·exact .inr (hr hq)
   rcases qd.1 ho with ho|ho
   ·rcases hle with k|k
    ·exact absurd (ho.trans k).symm bp
    ·rw[ho];exact k
   ·rcases hle with k|k
    ·rw[←k];exact ho
    ·exact gY ho k
  ·rename_i ho
   have z7:lp e.1 g.1=true:=by
    have h1:¬(g.1=e.1∨lp g.1 e.1=true):=fun k=>ho (qd.2 k)
    exact sQ (by simpa using fun k=>h1 (.inr k)) (fun k=>h1 (.inl k))
   have hs:=jt.add g (List.Pairwise.of_cons h)
   split
   ·refine List.Pairwise.cons (fun q hq=>?_) hs
    rcases Cx hq with rfl|⟨hq,_⟩
    ·exact z7
    ·exact hr hq
   ·exact hs
theorem qe(e:aq)(r:List aq)(x:ab):gO (e::r) x=if e.1=x then some e.2 else gO r x:=by
 unfold gO
 rw[List.find?_cons]
 by_cases h:e.1=x
 ·simp[h]
 ·simp[h]
theorem sY{g:aq}:∀{l:List aq},(∀q∈l,q.1≠g.1)→nQ g l=l:=fun {l} h=>by
 unfold nQ;rw[List.filter_eq_self];intro q hq;simpa using h q hq
theorem IK(g:aq):∀{l:List aq},jt l→(lI g l).length=if(gO l g.1).isSome=true then l.length else l.length+1
 |[],_=>rfl
 |e::r,h=>by
  have hr:∀{q:aq},q∈r→lp e.1 q.1=true:=fun {q} hq=>List.rel_of_pairwise_cons h hq
  have ih:=IK g (List.Pairwise.of_cons h)
  unfold lI
  split
  ·rename_i ho
   rcases qd.1 ho with ho|ho
   ·have h1:nQ g (e::r)=r:=by
     have:nQ g (e::r)=nQ g r:=by unfold nQ;rw[List.filter_cons_of_neg (by simp[ho])]
     rw[this]
     exact sY (fun q hq k=>by have:=hr hq;rw[k,ho,dR]at this;cases this)
    rw[h1,qe,if_pos ho.symm];simp
   ·have h2:∀q∈e::r,q.1≠g.1:=fun q hq k=>by
     have:lp g.1 q.1=true:=by
      rcases List.mem_cons.1 hq with rfl|hq
      ·exact ho
      ·exact gY ho (hr hq)
     rw[k,dR]at this;cases this
    have h3:gO (e::r) g.1=none:=by
     unfold gO
     have:(List.find? (fun q=>decide (q.1=g.1)) (e::r))=none:=by
      rw[List.find?_eq_none];intro q hq;simpa using h2 q hq
     rw[this];rfl
    rw[sY h2,h3];simp
  ·rename_i ho
   have bp:e.1≠g.1:=fun k=>ho (qd.2 (.inl k.symm))
   rw[if_pos bp,qe,if_neg bp]
   simp only[List.length_cons,ih]
   split<;>rfl
theorem ku{l:List aq}(h:jt l)(hn:l.length≤400)(g:aq):jt (bG l g)∧(bG l g).length≤400:=by
 unfold bG
 split
 ·exact⟨h,hn⟩
 ·rename_i hc
  refine⟨jt.add g h,?_⟩
  rw[IK g h]
  split
  ·exact hn
  ·rename_i h1
   by_cases h2:400≤l.length
   ·exact absurd ⟨by simpa using h1,h2⟩ hc
   ·omega
theorem sZ{α:Type}{o:Option α}(h:¬o.isSome=false):o.isSome=true:=by cases o<;>simp_all
structure im(s:StateT):Prop where
 d:Wf s.1
 g:jt s.2
 n:s.2.length≤400
theorem im.zero:im zS:=⟨Wf.zero,List.Pairwise.nil,by simp[zS]⟩
theorem im.add{l:List aq}(h:jt l)(hn:l.length≤400){d:ai}(hd:Wf d)(g:aq):im (d,bG l g):=⟨hd,(ku h hn g).1,(ku h hn g).2⟩
theorem NU{f:ag→ag}(hf:∀v,(f v).2.1=v.2.1)(l:List ag):ak (l.map f)=ak l:=by
 unfold ak;rw[List.flatMap_map];congr 1;funext v;exact hf v
theorem Ry{f:ah→ah}(hf:∀v,(f v).1=v.1)(l:List ah):ends (l.map f)=ends l:=by
 unfold ends;rw[List.flatMap_map];congr 1;funext v;rw[hf]
theorem L4(o:bL)(w:ah):(jN o w).1=w.1:=by unfold jN;split<;>(try split)<;>rfl
theorem NV(o:bL)(w:ag):(il o w).2.1=w.2.1:=by unfold il;split<;>(try split)<;>rfl
theorem Wf.nu{d:ai}(h:Wf d){x:ID}(hx:aU d.2 x=none)(s:Int):(x,s)∉ak d.1:=fun k=>Cu hx s (h.pd.mem_iff.1 k)
theorem Wf.mI{d:ai}(h:Wf d){x:ID}(hx:(aU d.2 x).isSome=true){s:Int}(hs:s=0∨s=1):(x,s)∈ak d.1:=h.pd.mem_iff.2 (Cv hx hs)
theorem Wf.wg{s:StateT}(h:Wf s.1){o:bL}(hm:c5 o=0)(hk:7≤o.1):Wf (wg s o).1.1:=by
 have hk8:=(Cw hm).2
 unfold Vs.wg
 split
 ·refine⟨h.sv.map (L0 o),h.se.map (L4 o),by simp;exact h.nv,by simp;exact h.ne,fun v hv=>?_,fun e he=>?_,?_⟩
  ·obtain⟨w,hw,rfl⟩:=List.mem_map.1 hv
   have g:=h.gv w hw
   unfold il
   split
   ·split
    ·rename_i h7
     exact⟨g.i,Ez hm h7,g.a,g.t⟩
    ·exact⟨g.i,g.l,IJ hm (by omega),g.t⟩
   ·exact g
  ·obtain⟨w,hw,rfl⟩:=List.mem_map.1 he
   have g:=h.ge w hw
   unfold jN
   split
   ·split
    ·rename_i h7
     exact⟨g.i,Ez hm h7,g.a⟩
    ·exact⟨g.i,g.l,IJ hm (by omega)⟩
   ·exact g
  ·show(ak (s.1.1.map (il o))).Perm (ends (s.1.2.map (jN o)))
   rw[NU (NV o),Ry (L4 o)];exact h.pd
 ·exact Wf.zero
theorem qf{s:StateT}{c:pS}(h:(aW s c).2.1=0):(bg s.1 c.1).isSome=true∧(aW s c).1.1=c.1:=by
 unfold aW at h ⊢
 cases hv:bg s.1 c.1 with
 |none=>rw[hv]at h;cases h
 |some v=>exact⟨rfl,rfl⟩
theorem IL{l:List ag}{x y:ID}(r:List ab)(h:(aQ l x).isSome=true):(aQ (l.map (gr y r)) x).isSome=true:=by
 rw[oM (rK y r)];simpa using h
theorem Wf.link{d:ai}(h:Wf d){x:ID}(hx:cZ x=true)(hn:aU d.2 x=none)(he:¬40≤d.2.length){a b:pS}(ha:(aQ d.1 a.1).isSome=true)(hb:(aQ d.1 b.1).isSome=true) :
  Wf (aX (aX (d.1,cF (x,(e0,0)) d.2) a (x,0)) b (x,1)):=by
 have hrw:Rw ((d.1,cF (x,(e0,0)) d.2):ai).1:=h.rw
 obtain⟨va,hva⟩:=Option.isSome_iff_exists.1 ha
 have h0:=h.nu hn 0
 have h1:=h.nu hn 1
 obtain⟨p1,q1⟩:=nS (c:=a) (x:=(x,0)) hrw hva h0
 obtain⟨vb,hvb⟩:=Option.isSome_iff_exists.1 (IL (x:=b.1) (y:=a.1) (dI (bA (d.1,cF (x,(e0,0)) d.2) a.1) a.2 (x,0)) hb)
 have OT:(x,1)∉ak (aX (d.1,cF (x,(e0,0)) d.2) a (x,0)).1:=fun k=>by
  rcases List.mem_cons.1 (p1.mem_iff.1 k) with k|k
  ·cases k
  ·exact h1 k
 obtain⟨p2,q2⟩:=nS (c:=b) (x:=(x,1)) q1 hvb OT
 refine⟨q2.s,xM (x,(e0,0)) h.se hn,?_,?_,rL (rL h.gv _ _) _ _,fun e hem=>?_,?_⟩
 ·unfold aX;rw[gQ,gQ];exact h.nv
 ·show(cF (x,(e0,0)) d.2).length≤40
  rw[ns];omega
 ·rcases rI.1 (show e∈cF (x,(e0,0)) d.2 from hem) with rfl|hem
  ·exact⟨hx,sW,sX⟩
  ·exact h.ge e hem
 ·show(ak _).Perm (ends (cF (x,(e0,0)) d.2))
  refine(p2.trans (List.Perm.cons _ p1)).trans (List.Perm.trans ?_ (Ex (x,(e0,0)) d.2).symm)
  exact(List.Perm.swap _ _ _).trans (List.Perm.cons _ (List.Perm.cons _ h.pd))
theorem Wf.cut{d:ai}(h:Wf d){x:ID}(hx:(aU d.2 x).isSome=true):Wf (aJ (az (az d (x,0)) (x,1)) zI x):=by
 have h0:=h.mI hx (s:=0) (.inl rfl)
 have h1:=h.mI hx (s:=1) (.inr rfl)
 obtain⟨p1,q1⟩:=dB h.rw h0
 have OT:(x,1)∈ak (az d (x,0)).1:=by
  rcases List.mem_cons.1 (p1.mem_iff.1 h1) with k|k
  ·cases k
  ·exact k
 obtain⟨p2,q2⟩:=dB q1 OT
 have L5:=kr (kr h.gv (x,0)) (x,1)
 have L6:(aJ (az (az d (x,0)) (x,1)) zI x).1=(az (az d (x,0)) (x,1)).1:=qc L5
 refine⟨by rw[L6];exact q2.s,uE h.se,?_,?_,by rw[L6];exact L5,fun e he=>h.ge e ?_,?_⟩
 ·rw[L6];unfold az;rw[gQ,gQ];exact h.nv
 ·exact Nat.le_trans (List.length_filter_le _ _) h.ne
 ·exact(List.mem_filter.1 (show e∈d.2.filter fun w=>decide (w.1≠x) from he)).1
 ·rw[L6]
  show(ak (az (az d (x,0)) (x,1)).1).Perm (ends (cE d.2 x))
  have p3:((x,0)::(x,1)::ak (az (az d (x,0)) (x,1)).1).Perm ((x,0)::(x,1)::ends (cE d.2 x)) :=
   ((p1.trans (List.Perm.cons _ p2)).symm.trans h.pd).trans (Cs h.se hx)
  exact p3.cons_inv.cons_inv
theorem g9{x:ab}(h:x.2=0∨x.2=1):(af x).1=x.1∧((x.2=0∧(af x).2=1)∨(x.2=1∧(af x).2=0)):=by
 refine⟨rfl,?_⟩
 unfold af
 rcases h with h|h
 ·exact .inl ⟨h,by rw[h];rfl⟩
 ·exact .inr ⟨h,by rw[h];rfl⟩
theorem IM{x:ab}(h:x.2=0∨x.2=1)(l:List ab):(x::af x::l).Perm ((x.1,0)::(x.1,1)::l):=by
 obtain⟨h1,h2⟩:=g9 h
 have e:x=(x.1,x.2):=rfl
 have e2:af x=(x.1,(af x).2):=rfl
 rcases h2 with⟨ha,hb⟩|⟨ha,hb⟩
 ·rw[ha]at e;rw[hb]at e2;rw[e2,e]
 ·rw[ha]at e;rw[hb]at e2;rw[e2,e];exact List.Perm.swap _ _ _
theorem Cz{n:Int}(h0:0≤n)(h3:n≤3):(IntKind.wrap .i64 (1-Int.tmod n 2)=0∨IntKind.wrap .i64 (1-Int.tmod n 2)=1)∧(IntKind.wrap .i64 (Int.tdiv n 2)=0∨IntKind.wrap .i64 (Int.tdiv n 2)=1):=by
 have:n=0∨n=1∨n=2∨n=3:=by omega
 rcases this with rfl|rfl|rfl|rfl<;>exact⟨by decide,by decide⟩
theorem Wf.split{d:ai}(h:Wf d){m k:ab}{v:ID}(hv:cZ v=true)(hk:cZ k.1=true)(Ox:m.2=0∨m.2=1)(nX:k.2=0∨k.2=1)(hm:(aU d.2 m.1).isSome=true)(Ot:aQ d.1 v=none)(hnk:aU d.2 k.1=none)
  (VX:¬24≤d.1.length) (hle:¬40≤d.2.length):Wf (cX (v,(bZ [m,k],(e0,0))) (av d m (af k)).1,cF (k.1,(e0,0)) (av d m (af k)).2):=by
 have KA:m∈ak d.1:=h.mI hm Ox
 have D2:af k∉ak d.1:=h.nu hnk _
 obtain⟨p1,q1⟩:=jP h.rw KA D2
 have Ul:aQ (av d m (af k)).1 v=none:=by
  unfold av Vs.bM
  rw[oM (rK _ _),Ot];rfl
 refine⟨oL (v,(bZ [m,k],(e0,0))) q1.s Ul,xM (k.1,(e0,0)) h.se hnk,?_,?_,fun w hw=>?_,fun e he=>?_,?_⟩
 ·show(cX _ (av d m (af k)).1).length≤24
  rw[gP];unfold av;rw[gQ];omega
 ·show(cF _ d.2).length≤40
  rw[ns];omega
 ·rcases mD.1 hw with rfl|hw
  ·exact⟨hv,sW,sX,sS _⟩
  ·exact qa h.gv _ _ w hw
 ·rcases rI.1 (show e∈cF (k.1,(e0,0)) d.2 from he) with rfl|he
  ·exact⟨hk,sW,sX⟩
  ·exact h.ge e he
 ·show(ak (cX _ _)).Perm (ends (cF (k.1,(e0,0)) d.2))
  refine(uG _ _).trans (List.Perm.trans ?_ (Ex (k.1,(e0,0)) d.2).symm)
  refine(List.Perm.append_right _ (gZ [m,k])).trans ?_
  show(m::k::ak (av d m (af k)).1).Perm _
  refine(List.Perm.swap k m _).trans ((List.Perm.cons k p1.symm).trans ?_)
  refine(IM nX _).trans ?_
  exact List.Perm.cons _ (List.Perm.cons _ h.pd)
theorem Wf.Rz{d:ai}(h:Wf d){v:ag}(hv:v∈d.1)(hr:v.2.1=[]):Wf (aJ d v.1 zI):=by
 obtain⟨a,b,h1,_,h2,_⟩:=mH h.sv hv
 refine⟨mE h.sv,?_,Nat.le_trans (List.length_filter_le _ _) h.nv,Nat.le_trans (List.length_filter_le _ _) h.ne,fun w hw=>h.gv w ?_,fun e he=>h.ge e ?_,?_⟩
 ·exact uE h.se
 ·exact(List.mem_filter.1 (show w∈d.1.filter fun w=>decide (w.1≠v.1) from hw)).1
 ·exact(List.mem_filter.1 (show e∈d.2.filter fun w=>decide (w.1≠zI) from he)).1
 ·show(ak (cT d.1 v.1)).Perm (ends (cE d.2 zI))
  rw[h2,qb h.ge]
  have p:=g6 a b v
  rw[←h1,hr,List.nil_append]at p
  exact p.symm.trans h.pd
theorem Wf.XI{d:ai}(h:Wf d){v:ag}{a b:ab}(hv:v∈d.1)(hr:v.2.1.Perm [a,b])(yW:a.1≠b.1):Wf (aJ (av (aJ d v.1 zI) (af b) a) zI b.1):=by
 obtain⟨p,q,h1,_,h2,_⟩:=mH h.sv hv
 have pd:(ak d.1).Perm (a::b::ak (p++q)):=by
  have:=(g6 p q v).trans (List.Perm.append_right _ hr)
  rw[←h1]at this;exact this
 have KB:aJ d v.1 zI=(p++q,d.2):=by unfold aJ;rw[h2,qb h.ge]
 have C5:=pd.nodup_iff.1 h.rw.n
 have hbm:b∈ends d.2:=h.pd.mem_iff.1 (pd.mem_iff.2 (by simp))
 obtain⟨e,he,Zp,vj⟩:=eQ.1 hbm
 have Bn:(aU d.2 b.1).isSome=true:=by
  unfold aU;rw[List.find?_isSome];exact⟨e,he,by simpa using Zp⟩
 obtain⟨_,ho⟩:=g9 vj
 have NW:af b∈ak (p++q):=by
  have h3:af b∈ak d.1:=h.mI (s:=(af b).2) Bn (by rcases ho with⟨_,k⟩|⟨_,k⟩<;>omega)
  rcases List.mem_cons.1 (pd.mem_iff.1 h3) with k|k
  ·exact absurd (congrArg Prod.fst k) (fun k=>yW k.symm)
  rcases List.mem_cons.1 k with k|k
  ·have:=congrArg Prod.snd k;omega
  ·exact k
 have F7:Rw (p++q):=by
  refine⟨?_,(List.nodup_cons.1 (List.nodup_cons.1 C5).2).2⟩
  rw[←h2];exact mE h.sv
 have ha:a∉ak (p++q):=fun k=>(List.nodup_cons.1 C5).1 (List.mem_cons_of_mem _ k)
 rw[KB]
 obtain⟨p1,q1⟩:=jP (d:=(p++q,d.2)) F7 NW ha
 have L5:∀w∈(av (p++q,d.2) (af b) a).1,GV w:=by
  refine qa (d:=(p++q,d.2)) (fun w hw=>h.gv w ?_) _ _
  rw[h1]
  rcases List.mem_append.1 hw with k|k
  ·exact List.mem_append_left _ k
  ·exact List.mem_append_right _ (List.mem_cons_of_mem _ k)
 have L6:(aJ (av (p++q,d.2) (af b) a) zI b.1).1=(av (p++q,d.2) (af b) a).1:=qc L5
 refine⟨by rw[L6];exact q1.s,uE h.se,?_,Nat.le_trans (List.length_filter_le _ _) h.ne,by rw[L6];exact L5,fun f hf=>h.ge f ?_,?_⟩
 ·rw[L6];unfold av;rw[gQ]
  have:=h.nv
  rw[h1]at this
  simp at this ⊢;omega
 ·exact(List.mem_filter.1 (show f∈d.2.filter fun w=>decide (w.1≠b.1) from hf)).1
 ·rw[L6]
  show(ak (av (p++q,d.2) (af b) a).1).Perm (ends (cE d.2 b.1))
  have p3:(b::af b::ak (av (p++q,d.2) (af b) a).1).Perm (b::af b::ends (cE d.2 b.1)):=by
   refine List.Perm.trans (List.Perm.cons b p1.symm) ?_
   refine(List.Perm.swap a b _).trans (pd.symm.trans (h.pd.trans ?_))
   exact(Cs h.se Bn).trans (IM vj _).symm
  exact p3.cons_inv.cons_inv
theorem im.one{s:StateT}(h:im s)(o:bL):im (mT s o).1:=by
 unfold mT
 split
 ·exact im.zero
 rename_i hm
 have hm:c5 o=0:=Classical.byContradiction fun k=>hm k
 have bT:=Rx hm
 split
 ·unfold rJ
  split;· exact im.zero
  split;· exact im.zero
  rename_i h1 h2
  have hn:aQ s.1.1 (ba o)=none:=by simpa[bg] using h1
  refine⟨⟨oL _ h.d.sv hn,h.d.se,by show(cX _ s.1.1).length≤24;rw[gP];omega,h.d.ne,fun w hw=>?_,h.d.ge,?_⟩,h.g,h.n⟩
  ·rcases mD.1 hw with rfl|hw
   ·exact⟨bT,sW,sX,rfl⟩
   ·exact h.d.gv w hw
  ·exact(uG _ _).trans h.d.pd
 split
 ·unfold wh
  cases hv:bg s.1 (ba o) with
  |none=>exact im.zero
  |some v =>
   simp only
   split
   ·exact im.zero
   ·rename_i hr
    have:=h.d.Rz (fw hv) (by simpa using hr)
    rw[iF hv]at this
    exact⟨this,h.g,h.n⟩
 split
 ·unfold nt
  split;· exact im.zero
  split;· exact im.zero
  split;· exact im.zero
  split;· exact im.zero
  split;· exact im.zero
  rename_i h1 h2 h3 h4 h5
  have hn:aU s.1.2 (ba o)=none:=by simpa[fZ] using h1
  obtain⟨ca,ca2⟩:=qf (s:=s) (c:=oA o) (Classical.byContradiction fun k=>h3 k)
  obtain⟨cb,cb2⟩:=qf (s:=s) (c:=oB o) (Classical.byContradiction fun k=>h4 k)
  refine⟨?_,h.g,h.n⟩
  unfold jY
  refine h.d.link bT hn h2 (by rw[ca2];exact ca) ?_
  split
  ·exact cb
  ·rw[cb2];exact cb
 split
 ·unfold Cl
  split;· exact im.zero
  rename_i h1
  have h2:=ku h.g h.n ((ba o,0),c9 s.1 (ba o,0))
  exact im.add h2.1 h2.2 (h.d.cut (sZ h1)) _
 split
 ·rename_i hk
  unfold lq
  split;· exact im.zero
  split;· exact im.zero
  split;· exact im.zero
  split;· exact im.zero
  split;· exact im.zero
  rename_i h1 h2 h3 h4 h5
  obtain⟨m1,m2,m3,m4⟩:=xQ hm hk
  obtain⟨s1,s2⟩:=Cz m3 m4
  refine⟨?_,h.g,h.n⟩
  exact h.d.split (m:=IC o) (k:=Er o) m1 m2 s1 s2 (sZ h1) (by simpa[bg] using h2) (by simpa[fZ,Er] using h3) h4 h5
 split
 ·unfold kE
  split
  ·exact im.zero
  ·rename_i v hv
   split
   ·rename_i r0 r1 hr
    have XG:=fw hv
    have XH:=iF hv
    have key:∀a b:ab,v.2.1.Perm [a,b]→a.1≠b.1→im (Gz s o a b,IE s.2 a b):=fun a b hp yW=>by
     have h2:=ku h.g h.n ((b.1,0),qF a b 0)
     have:=h.d.XI XG hp yW
     rw[XH]at this
     exact im.add h2.1 h2.2 this _
    unfold jO
    split;· exact im.zero
    rename_i bp
    split
    ·exact key r1 r0 (by rw[hr];exact List.Perm.swap _ _ _) (fun k=>bp k.symm)
    split
    ·exact key r0 r1 (by rw[hr]) bp
    ·exact im.zero
   ·exact im.zero
 ·rename_i k1 k2 k3 k4 k5 k6
  have hk:=Cw hm
  have:=h.d.wg hm (by omega)
  refine⟨this,?_,?_⟩
  ·unfold wg;split
   ·exact h.g
   ·exact List.Pairwise.nil
  ·unfold wg;split
   ·exact h.n
   ·simp[zS]
theorem im.go:∀(l:List bL) {s:StateT},im s→im (OC l s).1
 |[],s,h=>h
 |o::r,s,h=>by
  unfold OC
  split
  ·exact im.zero
  ·exact im.go r (h.one o)
theorem im.apply{s:StateT}(h:im s)(l:List bL):im (kj s l).1:=by
 unfold kj
 split
 ·exact im.zero
 ·exact im.go l h
theorem im.try{s:StateT}(h:im s)(l:List bL):im (wi s l):=by
 unfold wi
 split
 ·exact h
 ·exact h.apply l
theorem im.reach:∀(m:Nat) (l:List (List bL)) {s:StateT},im s→im (jc m l s)
 |0,_,s,h=>by simpa[jc] using h
 |m+1,[],s,h=>h
 |m+1,l::r,s,h=>by rw[jc];exact im.reach m r (h.try _)
theorem im.FZ(l:List (List bL)):im (oK l):=im.reach 30 l im.zero
end Go.Vs
