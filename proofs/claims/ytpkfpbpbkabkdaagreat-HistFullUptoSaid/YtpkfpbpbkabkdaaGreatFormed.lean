/- Diagrams that are well formed stay so. -/
import Derived.Test.YtpkfpbpbkabkdaaGreatRings
set_option linter.unusedVariables false
set_option linter.unusedSimpArgs false
namespace Go.Vs
open Go.Proofs
theorem mU(row:List ab):(cM row).Perm row:=by
 unfold cM CT
 exact List.perm_append_comm.trans (List.Perm.of_eq (List.take_append_drop _ _))
theorem Kj{row:List ab}(h:0<row.length)(hl:∀j,(hj:j<row.length)→kj row[j] row[0]=false):fz row row 0 0=0:=by
 have hm:=nT row row 0 0 h (by omega)
 have h2:=(ss h).2 0
 by_cases hz:fz row row 0 0=0
 ·exact hz
 ·have:=h2 (by omega) h
  rw[n6 hm,hl _ hm]at this;cases this
theorem MZ(row:List ab):CT row 0=row:=by unfold CT;simp
theorem qE(row:List ab):cM (cM row)=cM row:=by
 by_cases h0:row.length=0
 ·have:row=[]:=by simpa using h0
  subst this;rfl
 have hp:0<row.length:=by omega
 have hm:=nT row row 0 0 hp (by omega)
 have hp2:0<(cM row).length:=by rw[fB];exact hp
 have h1:(cM row)[0]=row.getD (fz row row 0 0) zD:=by
  have:=Pv (row:=row) (k:=fz row row 0 0) (i:=0) (by omega) hp
  rw[Nat.add_zero,Nat.mod_eq_of_lt hm,List.getElem?_eq_getElem hm]at this
  rw[n6 hm]
  exact(List.getElem?_eq_some_iff.1 this).2
 have h2:fz (cM row) (cM row) 0 0=0:=by
  refine Kj hp2 (fun j hj=>?_)
  rw[h1]
  have iw:(cM row)[j]∈row:=EU.1 (List.getElem_mem hj)
  obtain⟨i,hi,he⟩:=List.getElem_of_mem iw
  rw[←he]
  exact(ss hp).1 i hi
 unfold cM at h2 ⊢
 rw[h2,MZ]
theorem Kk(row:List ab)(a d:ab):cM (oI row a d)=oI row a d:=by unfold oI;split<;>exact qE _
theorem Kl(row:List ab)(d:ab):cM (hY row d)=hY row d:=qE _
theorem Hg(row:List ab)(a d:ab):cM (la row a d)=la row a d:=qE _
theorem Km{row:List ab}{d:ab}(a:ab)(h:d∉row):(oI row a d).Perm (d::row):=by
 unfold oI
 rw[if_neg h]
 refine(mU _).trans (List.perm_middle.trans ?_)
 rw[List.take_append_drop]
theorem qF{row:List ab}{d:ab}(h:d∈row)(hn:row.Nodup):row.Perm (d::hY row d):=by
 obtain⟨k,_,h2,_⟩:=k9 h
 obtain⟨h3,h4⟩:=List.getElem?_eq_some_iff.1 h2
 unfold hY
 rw[vf hn h2]
 refine List.Perm.trans ?_ (List.Perm.cons d (mU _).symm)
 conv=>lhs;rw[←List.take_append_drop k row,List.drop_eq_getElem_cons h3,h4]
 exact List.perm_middle
theorem Hh{row:List ab}{da d:ab}(h:da∈row)(hd:d∉row):(d::row).Perm (da::la row da d):=by
 obtain⟨k,h1,h2,_⟩:=k9 h
 obtain⟨h3,h4⟩:=List.getElem?_eq_some_iff.1 h2
 unfold la
 rw[if_pos ⟨h,hd⟩,h1,Int.toNat_natCast]
 refine List.Perm.trans ?_ (List.Perm.cons da (mU _).symm)
 rw[List.set_eq_take_append_cons_drop,if_pos h3]
 conv=>lhs;rw[←List.take_append_drop k row,List.drop_eq_getElem_cons h3,h4]
 have p1:(row.take k++da::row.drop (k+1)).Perm (da::(row.take k++row.drop (k+1))):=List.perm_middle
 have p2:(row.take k++d::row.drop (k+1)).Perm (d::(row.take k++row.drop (k+1))):=List.perm_middle
 exact(List.Perm.cons d p1).trans ((List.Perm.swap da d _).trans (List.Perm.cons da p2.symm))
def an(l:List ah):List ab:=l.flatMap fun v=>v.2.1
def ends(l:List aq):List ab:=l.flatMap fun e=>[(e.1,0),(e.1,1)]
theorem jl(v:ah)(l:List ah):an (v::l)=v.2.1++an l:=List.flatMap_cons
theorem mV(a b:List ah):an (a++b)=an a++an b:=List.flatMap_append
theorem gZ(a b:List ah)(v:ah):(an (a++v::b)).Perm (v.2.1++an (a++b)):=by
 rw[mV,jl,mV,←List.append_assoc,←List.append_assoc]
 exact List.Perm.append_right _ List.perm_append_comm
theorem aV{x:ab}{l:List ah}:x∈an l↔∃v∈l,x∈v.2.1:=List.mem_flatMap
theorem jm(e:aq)(l:List aq):ends (e::l)=(e.1,0)::(e.1,1)::ends l:=by unfold ends;rw[List.flatMap_cons];rfl
theorem dP{x:ab}{l:List aq}:x∈ends l↔∃e∈l,e.1=x.1∧(x.2=0∨x.2=1):=by
 unfold ends
 rw[List.mem_flatMap]
 constructor
 ·rintro⟨e,he,hx⟩
  rcases List.mem_cons.1 hx with rfl|hx
  ·exact⟨e,he,rfl,.inl rfl⟩
  ·rw[List.mem_singleton]at hx;subst hx;exact⟨e,he,rfl,.inr rfl⟩
 ·rintro⟨e,he,h1,h2⟩
  refine⟨e,he,?_⟩
  obtain⟨x1,x2⟩:=x
  simp only at h1 h2
  subst h1
  rcases h2 with rfl|rfl<;>simp
theorem zp:∀{l:List aq},cV l→(ends l).Nodup
 |[],_=>List.nodup_nil
 |e::r,h=>by
  have aU:∀s:Int,(e.1,s)∉ends r:=fun s hs=>by
   obtain⟨f,hf,h1,_⟩:=dP.1 hs
   have:=List.rel_of_pairwise_cons h hf
   simp only at h1
   rw[h1,bQ]at this;cases this
  rw[jm]
  refine List.nodup_cons.2 ⟨?_,List.nodup_cons.2 ⟨aU 1,zp h.of_cons⟩⟩
  rw[List.mem_cons]
  rintro(h1|h1)
  ·cases h1
  ·exact aU 0 h1
theorem BF(e:aq):∀l:List aq,(eU e l).Perm (e::l)
 |[]=>List.Perm.refl _
 |w::r=>by
  unfold eU
  split
  ·exact List.Perm.refl _
  ·exact(List.Perm.cons w (BF e r)).trans (List.Perm.swap e w r)
theorem BG(e:ah):∀l:List ah,(eZ e l).Perm (e::l)
 |[]=>List.Perm.refl _
 |w::r=>by
  unfold eZ
  split
  ·exact List.Perm.refl _
  ·exact(List.Perm.cons w (BG e r)).trans (List.Perm.swap e w r)
theorem BH(e:aq)(l:List aq):(ends (eU e l)).Perm ((e.1,0)::(e.1,1)::ends l):=by
 rw[←jm]
 exact List.Perm.flatMap_right _ (BF e l)
theorem zq(v:ah)(l:List ah):(an (eZ v l)).Perm (v.2.1++an l):=by
 rw[←jl]
 exact List.Perm.flatMap_right _ (BG v l)
theorem zr{l:List aq}{x:ID}(hs:cV l)(h:(aO l x).isSome=true):(ends l).Perm ((x,0)::(x,1)::ends (dK l x)):=by
 obtain⟨e,he⟩:=Option.isSome_iff_exists.1 h
 obtain⟨h3,h4⟩:=List.getElem?_eq_some_iff.1 (lk hs he)
 rw[u9 hs h]
 conv=>lhs;rw[←List.take_append_drop (bN l x) l,List.drop_eq_getElem_cons h3,h4]
 rw[←tO he,←jm]
 exact List.Perm.flatMap_right _ List.perm_middle
theorem jS{l:List ah}{v:ah}(hs:bM l)(h:v∈l):aM l v.1=some v:=by
 have hf:(aM l v.1).isSome=true:=by
  unfold aM;rw[List.find?_isSome];exact⟨v,h,by simp⟩
 obtain⟨u,hu⟩:=Option.isSome_iff_exists.1 hf
 have h1:=cO hs hu
 obtain⟨k,hk,he⟩:=List.getElem_of_mem h
 have h2:l[k]? = some v:=by rw[List.getElem?_eq_getElem hk,he]
 rw[jk hs h2 rfl,h1]at h2
 rw[hu];exact h2
theorem pT{l:List ah}{v:ah}(hs:bM l)(h:v∈l):∃a b,l=a++v::b∧(∀u∈a++b,u.1≠v.1)∧eE l v.1=a++b∧∀r,l.map (uX v.1 r)=a++(v.1,(r,v.2.2))::b:=by
 obtain⟨a,b,rfl⟩:=List.append_of_mem h
 have hp:=List.pairwise_append.1 hs
 have hb:=List.pairwise_cons.1 hp.2.1
 have aU:∀u∈a++b,u.1≠v.1:=fun u hu e=>by
  rcases List.mem_append.1 hu with hu|hu
  ·have:=hp.2.2 u hu v (by simp);rw[e,bQ]at this;cases this
  ·have:=hb.1 u hu;rw[e,bQ]at this;cases this
 have hm:∀(r:List ab) (c:List ah),(∀u∈c,u.1≠v.1)→c.map (uX v.1 r)=c:=fun r c hc=>by
  conv=>rhs;rw[←List.map_id c]
  exact List.map_congr_left fun u hu=>by unfold uX;rw[if_neg (hc u hu)];rfl
 have hd:∀c:List ah,(∀u∈c,u.1≠v.1)→eE c v.1=c:=fun c hc=>by
  unfold eE;rw[List.filter_eq_self];intro u hu;simpa using hc u hu
 refine⟨a,b,rfl,aU,?_,fun r=>?_⟩
 ·unfold eE
  rw[List.filter_append,List.filter_cons_of_neg (by simp)]
  have h1:=hd a (fun u hu=>aU u (List.mem_append_left _ hu))
  have h2:=hd b (fun u hu=>aU u (List.mem_append_right _ hu))
  unfold eE at h1 h2
  rw[h1,h2]
 ·rw[List.map_append,List.map_cons,hm r a (fun u hu=>aU u (List.mem_append_left _ hu)),hm r b (fun u hu=>aU u (List.mem_append_right _ hu))]
  unfold uX;rw[if_pos rfl]
structure Rw(l:List ah):Prop where
 s:bM l
 n:(an l).Nodup
theorem Rw.ring{l:List ah}(h:Rw l){v:ah}(hv:v∈l):v.2.1.Nodup:=by
 obtain⟨a,b,rfl,_⟩:=pT h.s hv
 exact(List.nodup_append.1 ((gZ a b v).nodup_iff.1 h.n)).1
theorem Rw.one{l:List ah}(h:Rw l){v w:ah}{x:ab}(hv:v∈l)(hw:w∈l)(hx:x∈v.2.1)(hy:x∈w.2.1):w=v:=by
 obtain⟨a,b,rfl,_⟩:=pT h.s hv
 have hn:=List.nodup_append.1 ((gZ a b v).nodup_iff.1 h.n)
 have:w∈a++v::b:=hw
 rw[List.mem_append,List.mem_cons]at this
 rcases this with k|k|k
 ·exact absurd rfl (hn.2.2 x hx x (aV.2 ⟨w,List.mem_append_left _ k,hy⟩))
 ·exact k
 ·exact absurd rfl (hn.2.2 x hx x (aV.2 ⟨w,List.mem_append_right _ k,hy⟩))
theorem iH{l:List ah}(h:Rw l){v:ah}{x:ab}(hv:v∈l)(hx:x∈v.2.1):F2 l x=some v.1:=by
 have hf:(l.find? fun u=>decide (x∈u.2.1)).isSome=true:=by rw[List.find?_isSome];exact⟨v,hv,by simpa using hx⟩
 obtain⟨u,hu⟩:=Option.isSome_iff_exists.1 hf
 have h1:=List.mem_of_find?_eq_some hu
 have h2:x∈u.2.1:=by simpa using List.find?_some hu
 unfold F2
 rw[hu,h.one hv h1 hx h2];rfl
theorem E2{l:List ah}{x:ab}(h:x∉an l):F2 l x=none:=by
 unfold F2
 have:(l.find? fun u=>decide (x∈u.2.1))=none:=by
  rw[List.find?_eq_none];intro u hu hx
  exact h (aV.2 ⟨u,hu,by simpa using hx⟩)
 rw[this];rfl
theorem jn{d:ak}(h:bM d.1){v:ah}(hv:v∈d.1):cZ d v.1=v.2.1:=by
 unfold cZ cp;rw[jS h hv];rfl
theorem jo{d:ak}(h:Rw d.1){v:ah}{x:ab}(hv:v∈d.1)(hx:x∈v.2.1):az d x=bV d v.1 (hY v.2.1 x):=by
 unfold az fa
 rw[iH h hv hx]
 show bV d v.1 (hY (cZ d v.1) x)=_
 rw[jn h.s hv]
theorem zt{d:ak}(h:Rw d.1){v:ah}{x:ab}(y:ab)(hv:v∈d.1)(hx:x∈v.2.1):aC d x y=bV d v.1 (la v.2.1 x y):=by
 unfold aC fa
 rw[iH h hv hx]
 show bV d v.1 (la (cZ d v.1) x y)=_
 rw[jn h.s hv]
theorem bM.re{l:List ah}(h:bM l)(x:ID)(r:List ab):bM (l.map (uX x r)):=h.map (pS x r)
theorem zu{l:List ah}{v:ah}(hs:bM l)(hv:v∈l):∃rest,(an l).Perm (v.2.1++rest)∧∀r,(an (l.map (uX v.1 r))).Perm (r++rest):=by
 obtain⟨a,b,h1,_,_,h2⟩:=pT hs hv
 refine⟨an (a++b),?_,fun r=>?_⟩
 ·conv=>lhs;rw[h1]
  exact gZ a b v
 ·rw[h2 r];exact gZ a b (v.1,(r,v.2.2))
theorem ed{d:ak}(h:Rw d.1){x:ab}(hx:x∈an d.1):(an d.1).Perm (x::an (az d x).1)∧Rw (az d x).1:=by
 obtain⟨v,hv,j0⟩:=aV.1 hx
 obtain⟨rest,h1,h2⟩:=zu h.s hv
 rw[jo h hv j0]
 have p:(an d.1).Perm (x::an (bV d v.1 (hY v.2.1 x)).1) :=
  h1.trans ((List.Perm.append_right rest (qF j0 (h.ring hv))).trans (List.Perm.cons x (h2 _).symm))
 exact⟨p,h.s.re _ _,(List.nodup_cons.1 (p.nodup_iff.1 h.n)).2⟩
theorem n8{d:ak}(h:Rw d.1){x y:ab}(hx:x∈an d.1)(hy:y∉an d.1):(y::an d.1).Perm (x::an (aC d x y).1)∧Rw (aC d x y).1:=by
 obtain⟨v,hv,j0⟩:=aV.1 hx
 obtain⟨rest,h1,h2⟩:=zu h.s hv
 rw[zt h y hv j0]
 have On:y∉v.2.1:=fun k=>hy (aV.2 ⟨v,hv,k⟩)
 have p:(y::an d.1).Perm (x::an (bV d v.1 (la v.2.1 x y)).1) :=
  (List.Perm.cons y h1).trans ((List.Perm.append_right rest (Hh j0 On)).trans (List.Perm.cons x (h2 _).symm))
 refine⟨p,h.s.re _ _,?_⟩
 exact(List.nodup_cons.1 (p.nodup_iff.1 (List.nodup_cons.2 ⟨hy,h.n⟩))).2
theorem rE{d:ak}(h:Rw d.1){c:tn}{x:ab}{v:ah}(hv:aM d.1 c.1=some v)(hx:x∉an d.1):(an (b7 d c x).1).Perm (x::an d.1)∧Rw (b7 d c x).1:=by
 have Wi:=fM hv
 have Wj:=jR hv
 obtain⟨rest,h1,h2⟩:=zu h.s Wi
 have j0:x∉v.2.1:=fun k=>hx (aV.2 ⟨v,Wi,k⟩)
 have e:b7 d c x=bV d v.1 (oI v.2.1 c.2 x):=by
  unfold b7
  rw[←Wj,jn h.s Wi]
 rw[e]
 have p:(an (bV d v.1 (oI v.2.1 c.2 x)).1).Perm (x::an d.1) :=
  (h2 _).trans ((List.Perm.append_right rest (Km c.2 j0)).trans (List.Perm.cons x h1.symm))
 exact⟨p,h.s.re _ _,p.nodup_iff.2 (List.nodup_cons.2 ⟨hx,h.n⟩)⟩
structure GV(v:ah):Prop where
 i:dF v.1=true
 l:EV v.2.2.1=true
 a:AJ v.2.2.2=true
 t:cM v.2.1=v.2.1
structure GE(e:aq):Prop where
 i:dF e.1=true
 l:EV e.2.1=true
 a:AJ e.2.2=true
structure Wf(d:ak):Prop where
 sv:bM d.1
 se:cV d.2
 nv:d.1.length≤24
 ne:d.2.length≤40
 gv:∀v∈d.1,GV v
 ge:∀e∈d.2,GE e
 pd:(an d.1).Perm (ends d.2)
theorem Wf.rw{d:ak}(h:Wf d):Rw d.1:=⟨h.sv,h.pd.nodup_iff.2 (zp h.se)⟩
theorem Wf.zero:Wf zS.1:=⟨List.Pairwise.nil,List.Pairwise.nil,by simp[zS],by simp[zS],by simp[zS],by simp[zS],List.Perm.refl _⟩
theorem GV.re{l:List ah}(h:∀v∈l,GV v)(x:ID){r:List ab}(hr:cM r=r):∀v∈l.map (uX x r),GV v:=fun v hv=>by
 obtain⟨w,hw,rfl⟩:=List.mem_map.1 hv
 have g:=h w hw
 unfold uX
 split
 ·exact⟨g.i,g.l,g.a,hr⟩
 ·exact g
theorem jq{d:ak}(h:∀v∈d.1,GV v)(x:ab):∀v∈(az d x).1,GV v:=GV.re h _ (Kl _ _)
theorem su{d:ak}(h:∀v∈d.1,GV v)(x y:ab):∀v∈(aC d x y).1,GV v:=GV.re h _ (Hg _ _ _)
theorem wg{d:ak}(h:∀v∈d.1,GV v)(c:tn)(y:ab):∀v∈(b7 d c y).1,GV v:=GV.re h _ (Kk _ _ _)
theorem eg(d:ak)(x:ID)(r:List ab):(bV d x r).1.length=d.1.length:=by unfold bV;simp
theorem BI:dF zI=false:=by decide
theorem tQ{l:List aq}(h:∀e∈l,GE e):dK l zI=l:=by
 unfold dK;rw[List.filter_eq_self];intro e he
 have:=(h e he).i
 simp;intro k;rw[k,BI]at this;cases this
theorem tR{l:List ah}(h:∀e∈l,GV e):eE l zI=l:=by
 unfold eE;rw[List.filter_eq_self];intro e he
 have:=(h e he).i
 simp;intro k;rw[k,BI]at this;cases this
theorem qG:EV e0=true:=by decide
theorem qH:AJ 0=true:=by decide
theorem zw{l:List aq}{x:ID}(h:aO l x=none)(s:Int):(x,s)∉ends l:=fun k=>by
 obtain⟨e,he,h1,_⟩:=dP.1 k
 unfold aO at h
 rw[List.find?_eq_none]at h
 exact h e he (by simpa using h1)
theorem zx{l:List aq}{x:ID}(h:(aO l x).isSome=true){s:Int}(hs:s=0∨s=1):(x,s)∈ends l:=by
 obtain⟨e,he⟩:=Option.isSome_iff_exists.1 h
 exact dP.2 ⟨e,Kh he,tO he,hs⟩
end Go.Vs
namespace Go.Vs
open Go.Proofs
theorem M0{o:bh}(h:cz o=0):dF (bc o)=true:=by
 unfold cz at h
 split at h;· cases h
 split at h;· cases h
 split at h;· cases h
 rename_i h3;simpa using h3
theorem zy{o:bh}(h:cz o=0):1≤o.1∧o.1≤8:=by
 unfold cz at h
 split at h;· cases h
 split at h;· cases h
 omega
theorem BJ{o:bh}(h:cz o=0)(hk:o.1=5):dF (fC o)=true∧dF (bE o)=true∧0≤oN o∧oN o≤3:=by
 unfold cz at h
 split at h;· cases h
 split at h;· cases h
 split at h;· cases h
 split at h;· cases h
 rw[if_neg (show ¬o.1=3 by omega)]at h
 split at h
 ·assumption
 ·cases h
theorem E3{o:bh}(h:cz o=0)(hk:o.1=8):AJ (oN o)=true:=by
 unfold cz at h
 split at h;· cases h
 split at h;· cases h
 split at h;· cases h
 split at h;· cases h
 rw[if_neg (show ¬o.1=3 by omega),if_neg (show ¬o.1=5 by omega),if_neg (show ¬o.1=6 by omega)]at h
 split at h
 ·assumption
 ·cases h
theorem BL{o:bh}(h:cz o=0)(hk:o.1=7):EV (tN o)=true:=by
 unfold cz at h
 split at h;· cases h
 split at h;· cases h
 split at h;· cases h
 split at h;· cases h
 rw[if_neg (show ¬o.1=3 by omega),if_neg (show ¬o.1=5 by omega),if_neg (show ¬o.1=6 by omega),if_neg (show ¬o.1=8 by omega)]at h
 split at h
 ·assumption
 ·cases h
def g6(l:List aF):Prop:=l.Pairwise fun a b=>kj a.1 b.1=true
theorem oa{a b:ab}:qT a b≤0↔a=b∨kj a b=true:=by
 unfold qT
 by_cases h:a=b
 ·subst h;simp
 ·rw[if_neg h];cases kj a b<;>simp[h]
theorem zz{q g:aF}:∀{l:List aF},q∈oJ g l→q=g∨(q∈l∧q.1≠g.1)
 |[],h=>by simp[oJ]at h;exact .inl h
 |e::r,h=>by
  unfold oJ at h
  split at h
  ·rcases List.mem_cons.1 h with h|h
   ·exact .inl h
   ·unfold qU at h
    rw[List.mem_filter]at h
    exact .inr ⟨h.1,by simpa using h.2⟩
  ·split at h
   ·rename_i aU
    rcases List.mem_cons.1 h with rfl|h
    ·exact .inr ⟨List.mem_cons_self ..,aU⟩
    ·rcases zz h with h|⟨h,h2⟩
     ·exact .inl h
     ·exact .inr ⟨List.mem_cons_of_mem _ h,h2⟩
   ·rcases zz h with h|⟨h,h2⟩
    ·exact .inl h
    ·exact .inr ⟨List.mem_cons_of_mem _ h,h2⟩
theorem g6.add(g:aF):∀{l:List aF},g6 l→g6 (oJ g l)
 |[],_=>List.pairwise_singleton _ _
 |e::r,h=>by
  have hr:∀{q:aF},q∈r→kj e.1 q.1=true:=fun {q} hq=>List.rel_of_pairwise_cons h hq
  unfold oJ
  split
  ·rename_i ho
   refine List.Pairwise.cons (fun q hq=>?_) (h.filter _)
   unfold qU at hq
   rw[List.mem_filter]at hq
   have aU:q.1≠g.1:=by simpa using hq.2
   have hle:e.1=q.1∨kj e.1 q.1=true:=by
    rcases List.mem_cons.1 hq.1 with rfl|hq
    ·exact .inl rfl
    ·exact .inr (hr hq)
   rcases oa.1 ho with ho|ho
   ·rcases hle with k|k
    ·exact absurd (ho.trans k).symm aU
    ·rw[ho];exact k
   ·rcases hle with k|k
    ·rw[←k];exact ho
    ·exact fN ho k
  ·rename_i ho
   have CA:kj e.1 g.1=true:=by
    have h1:¬(g.1=e.1∨kj g.1 e.1=true):=fun k=>ho (oa.2 k)
    exact vd (by simpa using fun k=>h1 (.inr k)) (fun k=>h1 (.inl k))
   have hs:=g6.add g (List.Pairwise.of_cons h)
   split
   ·refine List.Pairwise.cons (fun q hq=>?_) hs
    rcases zz hq with rfl|⟨hq,_⟩
    ·exact CA
    ·exact hr hq
   ·exact hs
theorem oc(e:aF)(r:List aF)(x:ab):lg (e::r) x=if e.1=x then some e.2 else lg r x:=by
 unfold lg
 rw[List.find?_cons]
 by_cases h:e.1=x
 ·simp[h]
 ·simp[h]
theorem qI{g:aF}:∀{l:List aF},(∀q∈l,q.1≠g.1)→qU g l=l:=fun {l} h=>by
 unfold qU;rw[List.filter_eq_self];intro q hq;simpa using h q hq
theorem E4(g:aF):∀{l:List aF},g6 l→(oJ g l).length=if(lg l g.1).isSome=true then l.length else l.length+1
 |[],_=>rfl
 |e::r,h=>by
  have hr:∀{q:aF},q∈r→kj e.1 q.1=true:=fun {q} hq=>List.rel_of_pairwise_cons h hq
  have ih:=E4 g (List.Pairwise.of_cons h)
  unfold oJ
  split
  ·rename_i ho
   rcases oa.1 ho with ho|ho
   ·have h1:qU g (e::r)=r:=by
     have:qU g (e::r)=qU g r:=by unfold qU;rw[List.filter_cons_of_neg (by simp[ho])]
     rw[this]
     exact qI (fun q hq k=>by have:=hr hq;rw[k,ho,dn]at this;cases this)
    rw[h1,oc,if_pos ho.symm];simp
   ·have h2:∀q∈e::r,q.1≠g.1:=fun q hq k=>by
     have:kj g.1 q.1=true:=by
      rcases List.mem_cons.1 hq with rfl|hq
      ·exact ho
      ·exact fN ho (hr hq)
     rw[k,dn]at this;cases this
    have h3:lg (e::r) g.1=none:=by
     unfold lg
     have:(List.find? (fun q=>decide (q.1=g.1)) (e::r))=none:=by
      rw[List.find?_eq_none];intro q hq;simpa using h2 q hq
     rw[this];rfl
    rw[qI h2,h3];simp
  ·rename_i ho
   have aU:e.1≠g.1:=fun k=>ho (oa.2 (.inl k.symm))
   rw[if_pos aU,oc,if_neg aU]
   simp only[List.length_cons,ih]
   split<;>rfl
theorem jr{l:List aF}(h:g6 l)(hn:l.length≤400)(g:aF):g6 (bH l g)∧(bH l g).length≤400:=by
 unfold bH
 split
 ·exact⟨h,hn⟩
 ·rename_i hc
  refine⟨g6.add g h,?_⟩
  rw[E4 g h]
  split
  ·exact hn
  ·rename_i h1
   by_cases h2:400≤l.length
   ·exact absurd ⟨by simpa using h1,h2⟩ hc
   ·omega
theorem BM{α:Type}{o:Option α}(h:¬o.isSome=false):o.isSome=true:=by cases o<;>simp_all
structure fb(s:StateT):Prop where
 d:Wf s.1
 g:g6 s.2
 n:s.2.length≤400
theorem fb.zero:fb zS:=⟨Wf.zero,List.Pairwise.nil,by simp[zS]⟩
theorem fb.add{l:List aF}(h:g6 l)(hn:l.length≤400){d:ak}(hd:Wf d)(g:aF):fb (d,bH l g):=⟨hd,(jr h hn g).1,(jr h hn g).2⟩
theorem Kn{f:ah→ah}(hf:∀v,(f v).2.1=v.2.1)(l:List ah):an (l.map f)=an l:=by
 unfold an;rw[List.flatMap_map];congr 1;funext v;exact hf v
theorem M1{f:aq→aq}(hf:∀v,(f v).1=v.1)(l:List aq):ends (l.map f)=ends l:=by
 unfold ends;rw[List.flatMap_map];congr 1;funext v;rw[hf]
theorem IJ(o:bh)(w:aq):(sj o w).1=w.1:=by unfold sj;split<;>(try split)<;>rfl
theorem Ko(o:bh)(w:ah):(nW o w).2.1=w.2.1:=by unfold nW;split<;>(try split)<;>rfl
theorem Wf.xa{d:ak}(h:Wf d){x:ID}(hx:aO d.2 x=none)(s:Int):(x,s)∉an d.1:=fun k=>zw hx s (h.pd.mem_iff.1 k)
theorem Wf.mi{d:ak}(h:Wf d){x:ID}(hx:(aO d.2 x).isSome=true){s:Int}(hs:s=0∨s=1):(x,s)∈an d.1:=h.pd.mem_iff.2 (zx hx hs)
theorem Wf.wC{s:StateT}(h:Wf s.1){o:bh}(hm:cz o=0)(hk:7≤o.1):Wf (wC s o).1.1:=by
 have hk8:=(zy hm).2
 unfold Vs.wC
 split
 ·refine⟨h.sv.map (IG o),h.se.map (IJ o),by simp;exact h.nv,by simp;exact h.ne,fun v hv=>?_,fun e he=>?_,?_⟩
  ·obtain⟨w,hw,rfl⟩:=List.mem_map.1 hv
   have g:=h.gv w hw
   unfold nW
   split
   ·split
    ·rename_i h7
     exact⟨g.i,BL hm h7,g.a,g.t⟩
    ·exact⟨g.i,g.l,E3 hm (by omega),g.t⟩
   ·exact g
  ·obtain⟨w,hw,rfl⟩:=List.mem_map.1 he
   have g:=h.ge w hw
   unfold sj
   split
   ·split
    ·rename_i h7
     exact⟨g.i,BL hm h7,g.a⟩
    ·exact⟨g.i,g.l,E3 hm (by omega)⟩
   ·exact g
  ·show(an (s.1.1.map (nW o))).Perm (ends (s.1.2.map (sj o)))
   rw[Kn (Ko o),M1 (IJ o)];exact h.pd
 ·exact Wf.zero
theorem od{s:StateT}{c:tn}(h:(bL s c).2.1=0):(cp s.1 c.1).isSome=true∧(bL s c).1.1=c.1:=by
 unfold bL at h ⊢
 cases hv:cp s.1 c.1 with
 |none=>rw[hv]at h;cases h
 |some v=>exact⟨rfl,rfl⟩
theorem tS{l:List ah}{x y:ID}(r:List ab)(h:(aM l x).isSome=true):(aM (l.map (uX y r)) x).isSome=true:=by
 rw[mS (pS y r)];simpa using h
theorem Wf.link{d:ak}(h:Wf d){x:ID}(hx:dF x=true)(hn:aO d.2 x=none)(he:¬40≤d.2.length){a b:tn}(ha:(aM d.1 a.1).isSome=true)(hb:(aM d.1 b.1).isSome=true) :
  Wf (b7 (b7 (d.1,eU (x,(e0,0)) d.2) a (x,0)) b (x,1)):=by
 have hrw:Rw ((d.1,eU (x,(e0,0)) d.2):ak).1:=h.rw
 obtain⟨va,hva⟩:=Option.isSome_iff_exists.1 ha
 have h0:=h.xa hn 0
 have h1:=h.xa hn 1
 obtain⟨p1,q1⟩:=rE (c:=a) (x:=(x,0)) hrw hva h0
 obtain⟨vb,hvb⟩:=Option.isSome_iff_exists.1 (tS (x:=b.1) (y:=a.1) (oI (cZ (d.1,eU (x,(e0,0)) d.2) a.1) a.2 (x,0)) hb)
 have N1:(x,1)∉an (b7 (d.1,eU (x,(e0,0)) d.2) a (x,0)).1:=fun k=>by
  rcases List.mem_cons.1 (p1.mem_iff.1 k) with k|k
  ·cases k
  ·exact h1 k
 obtain⟨p2,q2⟩:=rE (c:=b) (x:=(x,1)) q1 hvb N1
 refine⟨q2.s,vc (x,(e0,0)) h.se hn,?_,?_,wg (wg h.gv _ _) _ _,fun e ZY=>?_,?_⟩
 ·unfold b7;rw[eg,eg];exact h.nv
 ·show(eU (x,(e0,0)) d.2).length≤40
  rw[jP];omega
 ·rcases mP.1 (show e∈eU (x,(e0,0)) d.2 from ZY) with rfl|ZY
  ·exact⟨hx,qG,qH⟩
  ·exact h.ge e ZY
 ·show(an _).Perm (ends (eU (x,(e0,0)) d.2))
  refine(p2.trans (List.Perm.cons _ p1)).trans (List.Perm.trans ?_ (BH (x,(e0,0)) d.2).symm)
  exact(List.Perm.swap _ _ _).trans (List.Perm.cons _ (List.Perm.cons _ h.pd))
theorem Wf.cut{d:ak}(h:Wf d){x:ID}(hx:(aO d.2 x).isSome=true):Wf (aP (az (az d (x,0)) (x,1)) zI x):=by
 have h0:=h.mi hx (s:=0) (.inl rfl)
 have h1:=h.mi hx (s:=1) (.inr rfl)
 obtain⟨p1,q1⟩:=ed h.rw h0
 have N1:(x,1)∈an (az d (x,0)).1:=by
  rcases List.mem_cons.1 (p1.mem_iff.1 h1) with k|k
  ·cases k
  ·exact k
 obtain⟨p2,q2⟩:=ed q1 N1
 have KY:=jq (jq h.gv (x,0)) (x,1)
 have PD:(aP (az (az d (x,0)) (x,1)) zI x).1=(az (az d (x,0)) (x,1)).1:=tR KY
 refine⟨by rw[PD];exact q2.s,sq h.se,?_,?_,by rw[PD];exact KY,fun e he=>h.ge e ?_,?_⟩
 ·rw[PD];unfold az;rw[eg,eg];exact h.nv
 ·exact Nat.le_trans (List.length_filter_le _ _) h.ne
 ·exact(List.mem_filter.1 (show e∈d.2.filter fun w=>decide (w.1≠x) from he)).1
 ·rw[PD]
  show(an (az (az d (x,0)) (x,1)).1).Perm (ends (dK d.2 x))
  have p3:((x,0)::(x,1)::an (az (az d (x,0)) (x,1)).1).Perm ((x,0)::(x,1)::ends (dK d.2 x)) :=
   ((p1.trans (List.Perm.cons _ p2)).symm.trans h.pd).trans (zr h.se hx)
  exact p3.cons_inv.cons_inv
theorem g8{x:ab}(h:x.2=0∨x.2=1):(ao x).1=x.1∧((x.2=0∧(ao x).2=1)∨(x.2=1∧(ao x).2=0)):=by
 refine⟨rfl,?_⟩
 unfold ao
 rcases h with h|h
 ·exact .inl ⟨h,by rw[h];rfl⟩
 ·exact .inr ⟨h,by rw[h];rfl⟩
theorem E5{x:ab}(h:x.2=0∨x.2=1)(l:List ab):(x::ao x::l).Perm ((x.1,0)::(x.1,1)::l):=by
 obtain⟨h1,h2⟩:=g8 h
 have e:x=(x.1,x.2):=rfl
 have e2:ao x=(x.1,(ao x).2):=rfl
 rcases h2 with⟨ha,hb⟩|⟨ha,hb⟩
 ·rw[ha]at e;rw[hb]at e2;rw[e2,e]
 ·rw[ha]at e;rw[hb]at e2;rw[e2,e];exact List.Perm.swap _ _ _
theorem E6{n:Int}(h0:0≤n)(h3:n≤3):(IntKind.wrap .i64 (1-Int.tmod n 2)=0∨IntKind.wrap .i64 (1-Int.tmod n 2)=1)∧(IntKind.wrap .i64 (Int.tdiv n 2)=0∨IntKind.wrap .i64 (Int.tdiv n 2)=1):=by
 have:n=0∨n=1∨n=2∨n=3:=by omega
 rcases this with rfl|rfl|rfl|rfl<;>exact⟨by decide,by decide⟩
theorem Wf.split{d:ak}(h:Wf d){m k:ab}{v:ID}(hv:dF v=true)(hk:dF k.1=true)(RI:m.2=0∨m.2=1)(nc:k.2=0∨k.2=1)(hm:(aO d.2 m.1).isSome=true)(OD:aM d.1 v=none)(hnk:aO d.2 k.1=none)
  (Q0:¬24≤d.1.length) (hle:¬40≤d.2.length):Wf (eZ (v,(cM [m,k],(e0,0))) (aC d m (ao k)).1,eU (k.1,(e0,0)) (aC d m (ao k)).2):=by
 have X7:m∈an d.1:=h.mi hm RI
 have FY:ao k∉an d.1:=h.xa hnk _
 obtain⟨p1,q1⟩:=n8 h.rw X7 FY
 have PE:aM (aC d m (ao k)).1 v=none:=by
  unfold aC Vs.bV
  rw[mS (pS _ _),OD];rfl
 refine⟨mR (v,(cM [m,k],(e0,0))) q1.s PE,vc (k.1,(e0,0)) h.se hnk,?_,?_,fun w hw=>?_,fun e he=>?_,?_⟩
 ·show(eZ _ (aC d m (ao k)).1).length≤24
  rw[fD];unfold aC;rw[eg];omega
 ·show(eU _ d.2).length≤40
  rw[jP];omega
 ·rcases lh.1 hw with rfl|hw
  ·exact⟨hv,qG,qH,qE _⟩
  ·exact su h.gv _ _ w hw
 ·rcases mP.1 (show e∈eU (k.1,(e0,0)) d.2 from he) with rfl|he
  ·exact⟨hk,qG,qH⟩
  ·exact h.ge e he
 ·show(an (eZ _ _)).Perm (ends (eU (k.1,(e0,0)) d.2))
  refine(zq _ _).trans (List.Perm.trans ?_ (BH (k.1,(e0,0)) d.2).symm)
  refine(List.Perm.append_right _ (mU [m,k])).trans ?_
  show(m::k::an (aC d m (ao k)).1).Perm _
  refine(List.Perm.swap k m _).trans ((List.Perm.cons k p1.symm).trans ?_)
  refine(E5 nc _).trans ?_
  exact List.Perm.cons _ (List.Perm.cons _ h.pd)
theorem Wf.M3{d:ak}(h:Wf d){v:ah}(hv:v∈d.1)(hr:v.2.1=[]):Wf (aP d v.1 zI):=by
 obtain⟨a,b,h1,_,h2,_⟩:=pT h.sv hv
 refine⟨n3 h.sv,?_,Nat.le_trans (List.length_filter_le _ _) h.nv,Nat.le_trans (List.length_filter_le _ _) h.ne,fun w hw=>h.gv w ?_,fun e he=>h.ge e ?_,?_⟩
 ·exact sq h.se
 ·exact(List.mem_filter.1 (show w∈d.1.filter fun w=>decide (w.1≠v.1) from hw)).1
 ·exact(List.mem_filter.1 (show e∈d.2.filter fun w=>decide (w.1≠zI) from he)).1
 ·show(an (eE d.1 v.1)).Perm (ends (dK d.2 zI))
  rw[h2,tQ h.ge]
  have p:=gZ a b v
  rw[←h1,hr,List.nil_append]at p
  exact p.symm.trans h.pd
theorem Wf.Sq{d:ak}(h:Wf d){v:ah}{a b:ab}(hv:v∈d.1)(hr:v.2.1.Perm [a,b])(Ai:a.1≠b.1):Wf (aP (aC (aP d v.1 zI) (ao b) a) zI b.1):=by
 obtain⟨p,q,h1,_,h2,_⟩:=pT h.sv hv
 have pd:(an d.1).Perm (a::b::an (p++q)):=by
  have:=(gZ p q v).trans (List.Perm.append_right _ hr)
  rw[←h1]at this;exact this
 have Kp:aP d v.1 zI=(p++q,d.2):=by unfold aP;rw[h2,tQ h.ge]
 have Dg:=pd.nodup_iff.1 h.rw.n
 have ZZ:b∈ends d.2:=h.pd.mem_iff.1 (pd.mem_iff.2 (by simp))
 obtain⟨e,he,Uk,Au⟩:=dP.1 ZZ
 have Cw:(aO d.2 b.1).isSome=true:=by
  unfold aO;rw[List.find?_isSome];exact⟨e,he,by simpa using Uk⟩
 obtain⟨_,ho⟩:=g8 Au
 have Sr:ao b∈an (p++q):=by
  have h3:ao b∈an d.1:=h.mi (s:=(ao b).2) Cw (by rcases ho with⟨_,k⟩|⟨_,k⟩<;>omega)
  rcases List.mem_cons.1 (pd.mem_iff.1 h3) with k|k
  ·exact absurd (congrArg Prod.fst k) (fun k=>Ai k.symm)
  rcases List.mem_cons.1 k with k|k
  ·have:=congrArg Prod.snd k;omega
  ·exact k
 have PF:Rw (p++q):=by
  refine⟨?_,(List.nodup_cons.1 (List.nodup_cons.1 Dg).2).2⟩
  rw[←h2];exact n3 h.sv
 have ha:a∉an (p++q):=fun k=>(List.nodup_cons.1 Dg).1 (List.mem_cons_of_mem _ k)
 rw[Kp]
 obtain⟨p1,q1⟩:=n8 (d:=(p++q,d.2)) PF Sr ha
 have KY:∀w∈(aC (p++q,d.2) (ao b) a).1,GV w:=by
  refine su (d:=(p++q,d.2)) (fun w hw=>h.gv w ?_) _ _
  rw[h1]
  rcases List.mem_append.1 hw with k|k
  ·exact List.mem_append_left _ k
  ·exact List.mem_append_right _ (List.mem_cons_of_mem _ k)
 have PD:(aP (aC (p++q,d.2) (ao b) a) zI b.1).1=(aC (p++q,d.2) (ao b) a).1:=tR KY
 refine⟨by rw[PD];exact q1.s,sq h.se,?_,Nat.le_trans (List.length_filter_le _ _) h.ne,by rw[PD];exact KY,fun f hf=>h.ge f ?_,?_⟩
 ·rw[PD];unfold aC;rw[eg]
  have:=h.nv
  rw[h1]at this
  simp at this ⊢;omega
 ·exact(List.mem_filter.1 (show f∈d.2.filter fun w=>decide (w.1≠b.1) from hf)).1
 ·rw[PD]
  show(an (aC (p++q,d.2) (ao b) a).1).Perm (ends (dK d.2 b.1))
  have p3:(b::ao b::an (aC (p++q,d.2) (ao b) a).1).Perm (b::ao b::ends (dK d.2 b.1)):=by
   refine List.Perm.trans (List.Perm.cons b p1.symm) ?_
   refine(List.Perm.swap a b _).trans (pd.symm.trans (h.pd.trans ?_))
   exact(zr h.se Cw).trans (E5 Au _).symm
  exact p3.cons_inv.cons_inv
theorem fb.one{s:StateT}(h:fb s)(o:bh):fb (oK s o).1:=by
 unfold oK
 split
 ·exact fb.zero
 rename_i hm
 have hm:cz o=0:=Classical.byContradiction fun k=>hm k
 have bw:=M0 hm
 split
 ·unfold pR
  split;· exact fb.zero
  split;· exact fb.zero
  rename_i h1 h2
  have hn:aM s.1.1 (bc o)=none:=by simpa[cp] using h1
  refine⟨⟨mR _ h.d.sv hn,h.d.se,by show(eZ _ s.1.1).length≤24;rw[fD];omega,h.d.ne,fun w hw=>?_,h.d.ge,?_⟩,h.g,h.n⟩
  ·rcases lh.1 hw with rfl|hw
   ·exact⟨bw,qG,qH,rfl⟩
   ·exact h.d.gv w hw
  ·exact(zq _ _).trans h.d.pd
 split
 ·unfold zi
  cases hv:cp s.1 (bc o) with
  |none=>exact fb.zero
  |some v =>
   simp only
   split
   ·exact fb.zero
   ·rename_i hr
    have:=h.d.M3 (fM hv) (by simpa using hr)
    rw[jR hv]at this
    exact⟨this,h.g,h.n⟩
 split
 ·unfold rB
  split;· exact fb.zero
  split;· exact fb.zero
  split;· exact fb.zero
  split;· exact fb.zero
  split;· exact fb.zero
  rename_i h1 h2 h3 h4 h5
  have hn:aO s.1.2 (bc o)=none:=by simpa[mO] using h1
  obtain⟨ca,ca2⟩:=od (s:=s) (c:=oA o) (Classical.byContradiction fun k=>h3 k)
  obtain⟨cb,cb2⟩:=od (s:=s) (c:=oB o) (Classical.byContradiction fun k=>h4 k)
  refine⟨?_,h.g,h.n⟩
  unfold mQ
  refine h.d.link bw hn h2 (by rw[ca2];exact ca) ?_
  split
  ·exact cb
  ·rw[cb2];exact cb
 split
 ·unfold G8
  split;· exact fb.zero
  rename_i h1
  have h2:=jr h.g h.n ((bc o,0),dZ s.1 (bc o,0))
  exact fb.add h2.1 h2.2 (h.d.cut (BM h1)) _
 split
 ·rename_i hk
  unfold nX
  split;· exact fb.zero
  split;· exact fb.zero
  split;· exact fb.zero
  split;· exact fb.zero
  split;· exact fb.zero
  rename_i h1 h2 h3 h4 h5
  obtain⟨m1,m2,m3,m4⟩:=BJ hm hk
  obtain⟨s1,s2⟩:=E6 m3 m4
  refine⟨?_,h.g,h.n⟩
  exact h.d.split (m:=PA o) (k:=Om o) m1 m2 s1 s2 (BM h1) (by simpa[cp] using h2) (by simpa[mO,Om] using h3) h4 h5
 split
 ·unfold nY
  split
  ·exact fb.zero
  ·rename_i v hv
   split
   ·rename_i r0 r1 hr
    have Wi:=fM hv
    have Wj:=jR hv
    have key:∀a b:ab,v.2.1.Perm [a,b]→a.1≠b.1→fb (Kc s o a b,G9 s.2 a b):=fun a b hp Ai=>by
     have h2:=jr h.g h.n ((b.1,0),so a b 0)
     have:=h.d.Sq Wi hp Ai
     rw[Wj]at this
     exact fb.add h2.1 h2.2 this _
    unfold lQ
    split;· exact fb.zero
    rename_i aU
    split
    ·exact key r1 r0 (by rw[hr];exact List.Perm.swap _ _ _) (fun k=>aU k.symm)
    split
    ·exact key r0 r1 (by rw[hr]) aU
    ·exact fb.zero
   ·exact fb.zero
 ·rename_i k1 k2 k3 k4 k5 k6
  have hk:=zy hm
  have:=h.d.wC hm (by omega)
  refine⟨this,?_,?_⟩
  ·unfold wC;split
   ·exact h.g
   ·exact List.Pairwise.nil
  ·unfold wC;split
   ·exact h.n
   ·simp[zS]
theorem fb.go:∀(l:List bh) {s:StateT},fb s→fb (EY l s).1
 |[],s,h=>h
 |o::r,s,h=>by
  unfold EY
  split
  ·exact fb.zero
  ·exact fb.go r (h.one o)
theorem fb.apply{s:StateT}(h:fb s)(l:List bh):fb (dC s l).1:=by
 unfold dC
 split
 ·exact fb.zero
 ·exact fb.go l h
theorem fb.try{s:StateT}(h:fb s)(l:List bh):fb (ji s l):=by
 unfold ji
 split
 ·exact h
 ·exact h.apply l
theorem fb.reach:∀(m:Nat) (l:List (List bh)) {s:StateT},fb s→fb (lj m l s)
 |0,_,s,h=>by simpa[lj] using h
 |m+1,[],s,h=>h
 |m+1,l::r,s,h=>by rw[lj];exact fb.reach m r (h.try _)
theorem fb.IF(l:List (List bh)):fb (zj l):=fb.reach 30 l fb.zero
end Go.Vs
