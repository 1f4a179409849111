/- Diagrams that are well formed stay so. -/
import Derived.Test.YtpldhjjpeldkaaaGreatRings
set_option linter.unusedVariables false
set_option linter.unusedSimpArgs false
namespace Go.Vs
open Go.Proofs
theorem jJ(row:List ae):(b5 row).Perm row:=by
 unfold b5 B4
 exact List.perm_append_comm.trans (List.Perm.of_eq (List.take_append_drop _ _))
theorem Mx{row:List ae}(h:0<row.length)(hl:∀j,(hj:j<row.length)→kd row[j] row[0]=false):eF row row 0 0=0:=by
 have hm:=mw row row 0 0 h (by omega)
 have h2:=(tw h).2 0
 by_cases hz:eF row row 0 0=0
 ·exact hz
 ·have:=h2 (by omega) h
  rw [oR hm,hl _ hm] at this;cases this
theorem P0(row:List ae):B4 row 0=row:=by unfold B4;simp
theorem rv(row:List ae):b5 (b5 row)=b5 row:=by
 by_cases h0:row.length=0
 ·have:row=[]:=by simpa using h0
  subst this;rfl
 have hp:0<row.length:=by omega
 have hm:=mw row row 0 0 hp (by omega)
 have hp2:0<(b5 row).length:=by rw [fS];exact hp
 have h1:(b5 row)[0]=row.getD (eF row row 0 0) zD:=by
  have:=KJ (row:=row) (k:=eF row row 0 0) (i:=0) (by omega) hp
  rw [Nat.add_zero,Nat.mod_eq_of_lt hm,List.getElem?_eq_getElem hm] at this
  rw [oR hm]
  exact (List.getElem?_eq_some_iff.1 this).2
 have h2:eF (b5 row) (b5 row) 0 0=0:=by
  refine Mx hp2 (fun j hj => ?_)
  rw [h1]
  have fB:(b5 row)[j]∈row:=nH.1 (List.getElem_mem hj)
  obtain ⟨i,hi,he⟩:=List.getElem_of_mem fB
  rw [←he]
  exact (tw hp).1 i hi
 unfold b5 at h2 ⊢
 rw [h2,P0]
theorem My(row:List ae)(a d:ae):b5 (pN row a d)=pN row a d:=by unfold pN;split<;>exact rv _
theorem Mz(row:List ae)(d:ae):b5 (iJ row d)=iJ row d:=rv _
theorem Jo(row:List ae)(a d:ae):b5 (fT row a d)=fT row a d:=rv _
theorem MA{row:List ae}{d:ae}(a:ae)(h:d∉row):(pN row a d).Perm (d::row):=by
 unfold pN
 rw [if_neg h]
 refine (jJ _).trans (List.perm_middle.trans ?_)
 rw [List.take_append_drop]
theorem ry{row:List ae}{d:ae}(h:d∈row)(hn:row.Nodup):row.Perm (d::iJ row d):=by
 obtain ⟨k,_,h2,_⟩:=eZ h
 obtain ⟨h3,h4⟩:=List.getElem?_eq_some_iff.1 h2
 unfold iJ
 rw [wI hn h2]
 refine List.Perm.trans ?_ (List.Perm.cons d (jJ _).symm)
 conv=>lhs;rw [←List.take_append_drop k row,List.drop_eq_getElem_cons h3,h4]
 exact List.perm_middle
theorem Jp{row:List ae}{dr d:ae}(h:dr∈row)(hd:d∉row):(d::row).Perm (dr::fT row dr d):=by
 obtain ⟨k,h1,h2,_⟩:=eZ h
 obtain ⟨h3,h4⟩:=List.getElem?_eq_some_iff.1 h2
 unfold fT
 rw [if_pos ⟨h,hd⟩,h1,Int.toNat_natCast]
 refine List.Perm.trans ?_ (List.Perm.cons dr (jJ _).symm)
 rw [List.set_eq_take_append_cons_drop,if_pos h3]
 conv=>lhs;rw [←List.take_append_drop k row,List.drop_eq_getElem_cons h3,h4]
 have p1:(row.take k++dr::row.drop (k+1)).Perm (dr::(row.take k++row.drop (k+1))):=List.perm_middle
 have p2:(row.take k++d::row.drop (k+1)).Perm (d::(row.take k++row.drop (k+1))):=List.perm_middle
 exact (List.Perm.cons d p1).trans ((List.Perm.swap dr d _).trans (List.Perm.cons dr p2.symm))
def an(l:List aj):List ae:=l.flatMap fun v=>v.2.1
def ends(l:List au):List ae:=l.flatMap fun e=>[(e.1,0),(e.1,1)]
theorem im(v:aj)(l:List aj):an (v::l)=v.2.1++an l:=List.flatMap_cons
theorem nN(a b:List aj):an (a++b)=an a++an b:=List.flatMap_append
theorem gm(a b:List aj)(v:aj):(an (a++v::b)).Perm (v.2.1++an (a++b)):=by
 rw [nN,im,nN,←List.append_assoc,←List.append_assoc]
 exact List.Perm.append_right _ List.perm_append_comm
theorem aV{x:ae}{l:List aj}:x∈an l↔∃v∈l,x∈v.2.1:=List.mem_flatMap
theorem jK(e:au)(l:List au):ends (e::l)=(e.1,0)::(e.1,1)::ends l:=by unfold ends;rw [List.flatMap_cons];rfl
theorem c5{x:ae}{l:List au}:x∈ends l↔∃e∈l,e.1=x.1∧(x.2=0∨x.2=1):=by
 unfold ends
 rw [List.mem_flatMap]
 constructor
 ·rintro ⟨e,he,hx⟩
  rcases List.mem_cons.1 hx with rfl | hx
  ·exact ⟨e,he,rfl,.inl rfl⟩
  ·rw [List.mem_singleton] at hx;subst hx;exact ⟨e,he,rfl,.inr rfl⟩
 ·rintro ⟨e,he,h1,h2⟩
  refine ⟨e,he,?_⟩
  obtain ⟨x1,x2⟩:=x
  simp only at h1 h2
  subst h1
  rcases h2 with rfl | rfl<;>simp
theorem oS:∀{l:List au},c9 l→(ends l).Nodup
 | [],_=>List.nodup_nil
 | e::r,h=>by
  have bc:∀s:Int,(e.1,s)∉ends r:=fun s hs=>by
   obtain ⟨f,hf,h1,_⟩:=c5.1 hs
   have:=List.rel_of_pairwise_cons h hf
   simp only at h1
   rw [h1,b7] at this;cases this
  rw [jK]
  refine List.nodup_cons.2 ⟨?_,List.nodup_cons.2 ⟨bc 1,oS h.of_cons⟩⟩
  rw [List.mem_cons]
  rintro (h1 | h1)
  ·cases h1
  ·exact bc 0 h1
theorem Dq(e:au):∀l:List au,(fb e l).Perm (e::l)
 | []=>List.Perm.refl _
 | w::r=>by
  unfold fb
  split
  ·exact List.Perm.refl _
  ·exact (List.Perm.cons w (Dq e r)).trans (List.Perm.swap e w r)
theorem Dt(e:aj):∀l:List aj,(c7 e l).Perm (e::l)
 | []=>List.Perm.refl _
 | w::r=>by
  unfold c7
  split
  ·exact List.Perm.refl _
  ·exact (List.Perm.cons w (Dt e r)).trans (List.Perm.swap e w r)
theorem Du(e:au)(l:List au):(ends (fb e l)).Perm ((e.1,0)::(e.1,1)::ends l):=by
 rw [←jK]
 exact List.Perm.flatMap_right _ (Dq e l)
theorem tx(v:aj)(l:List aj):(an (c7 v l)).Perm (v.2.1++an l):=by
 rw [←im]
 exact List.Perm.flatMap_right _ (Dt v l)
theorem Bn{l:List au}{x:ID}(hs:c9 l)(h:(aU l x).isSome=true):(ends l).Perm ((x,0)::(x,1)::ends (dS l x)):=by
 obtain ⟨e,he⟩:=Option.isSome_iff_exists.1 h
 obtain ⟨h3,h4⟩:=List.getElem?_eq_some_iff.1 (lI hs he)
 rw [wE hs h]
 conv=>lhs;rw [←List.take_append_drop (b4 l x) l,List.drop_eq_getElem_cons h3,h4]
 rw [←qD he,←jK]
 exact List.Perm.flatMap_right _ List.perm_middle
theorem jh{l:List aj}{v:aj}(hs:bT l)(h:v∈l):aQ l v.1=some v:=by
 have hf:(aQ l v.1).isSome=true:=by
  unfold aQ;rw [List.find?_isSome];exact ⟨v,h,by simp⟩
 obtain ⟨u,hu⟩:=Option.isSome_iff_exists.1 hf
 have h1:=c4 hs hu
 obtain ⟨k,hk,he⟩:=List.getElem_of_mem h
 have h2:l[k]? = some v:=by rw [List.getElem?_eq_getElem hk,he]
 rw [jI hs h2 rfl,h1] at h2
 rw [hu];exact h2
theorem lJ{l:List aj}{v:aj}(hs:bT l)(h:v∈l):∃a b,l=a++v::b∧(∀u∈a++b,u.1≠v.1)∧dp l v.1=a++b∧∀r,l.map (wu v.1 r)=a++(v.1,(r,v.2.2))::b:=by
 obtain ⟨a,b,rfl⟩:=List.append_of_mem h
 have hp:=List.pairwise_append.1 hs
 have hb:=List.pairwise_cons.1 hp.2.1
 have bc:∀u∈a++b,u.1≠v.1:=fun u hu e=>by
  rcases List.mem_append.1 hu with hu | hu
  ·have:=hp.2.2 u hu v (by simp);rw [e,b7] at this;cases this
  ·have:=hb.1 u hu;rw [e,b7] at this;cases this
 have hm:∀(r:List ae) (c:List aj),(∀u∈c,u.1≠v.1)→c.map (wu v.1 r)=c:=fun r c hc=>by
  conv=>rhs;rw [←List.map_id c]
  exact List.map_congr_left fun u hu=>by unfold wu;rw [if_neg (hc u hu)];rfl
 have hd:∀c:List aj,(∀u∈c,u.1≠v.1)→dp c v.1=c:=fun c hc=>by
  unfold dp;rw [List.filter_eq_self];intro u hu;simpa using hc u hu
 refine ⟨a,b,rfl,bc,?_,fun r => ?_⟩
 ·unfold dp
  rw [List.filter_append,List.filter_cons_of_neg (by simp)]
  have h1:=hd a (fun u hu=>bc u (List.mem_append_left _ hu))
  have h2:=hd b (fun u hu=>bc u (List.mem_append_right _ hu))
  unfold dp at h1 h2
  rw [h1,h2]
 ·rw [List.map_append,List.map_cons,hm r a (fun u hu=>bc u (List.mem_append_left _ hu)),hm r b (fun u hu=>bc u (List.mem_append_right _ hu))]
  unfold wu;rw [if_pos rfl]
structure Rw(l:List aj):Prop where
 s:bT l
 n:(an l).Nodup
theorem Rw.ring{l:List aj}(h:Rw l){v:aj}(hv:v∈l):v.2.1.Nodup:=by
 obtain ⟨a,b,rfl,_⟩:=lJ h.s hv
 exact (List.nodup_append.1 ((gm a b v).nodup_iff.1 h.n)).1
theorem Rw.one{l:List aj}(h:Rw l){v w:aj}{x:ae}(hv:v∈l)(hw:w∈l)(hx:x∈v.2.1)(hy:x∈w.2.1):w=v:=by
 obtain ⟨a,b,rfl,_⟩:=lJ h.s hv
 have hn:=List.nodup_append.1 ((gm a b v).nodup_iff.1 h.n)
 have:w∈a++v::b:=hw
 rw [List.mem_append,List.mem_cons] at this
 rcases this with k | k | k
 ·exact absurd rfl (hn.2.2 x hx x (aV.2 ⟨w,List.mem_append_left _ k,hy⟩))
 ·exact k
 ·exact absurd rfl (hn.2.2 x hx x (aV.2 ⟨w,List.mem_append_right _ k,hy⟩))
theorem dN{l:List aj}(h:Rw l){v:aj}{x:ae}(hv:v∈l)(hx:x∈v.2.1):B5 l x=some v.1:=by
 have hf:(l.find? fun u=>decide (x∈u.2.1)).isSome=true:=by rw [List.find?_isSome];exact ⟨v,hv,by simpa using hx⟩
 obtain ⟨u,hu⟩:=Option.isSome_iff_exists.1 hf
 have h1:=List.mem_of_find?_eq_some hu
 have h2:x∈u.2.1:=by simpa using List.find?_some hu
 unfold B5
 rw [hu,h.one hv h1 hx h2];rfl
theorem Hh{l:List aj}{x:ae}(h:x∉an l):B5 l x=none:=by
 unfold B5
 have:(l.find? fun u=>decide (x∈u.2.1))=none:=by
  rw [List.find?_eq_none];intro u hu hx
  exact h (aV.2 ⟨u,hu,by simpa using hx⟩)
 rw [this];rfl
theorem jL{d:ai}(h:bT d.1){v:aj}(hv:v∈d.1):cv d v.1=v.2.1:=by
 unfold cv bZ;rw [jh h hv];rfl
theorem jM{d:ai}(h:Rw d.1){v:aj}{x:ae}(hv:v∈d.1)(hx:x∈v.2.1):aH d x=cf d v.1 (iJ v.2.1 x):=by
 unfold aH cS
 rw [dN h hv hx]
 show cf d v.1 (iJ (cv d v.1) x)=_
 rw [jL h.s hv]
theorem oT{d:ai}(h:Rw d.1){v:aj}{x:ae}(y:ae)(hv:v∈d.1)(hx:x∈v.2.1):az d x y=cf d v.1 (fT v.2.1 x y):=by
 unfold az cS
 rw [dN h hv hx]
 show cf d v.1 (fT (cv d v.1) x y)=_
 rw [jL h.s hv]
theorem bT.re{l:List aj}(h:bT l)(x:ID)(r:List ae):bT (l.map (wu x r)):=h.map (qC x r)
theorem Bo{l:List aj}{v:aj}(hs:bT l)(hv:v∈l):∃rest,(an l).Perm (v.2.1++rest)∧∀r,(an (l.map (wu v.1 r))).Perm (r++rest):=by
 obtain ⟨a,b,h1,_,_,h2⟩:=lJ hs hv
 refine ⟨an (a++b),?_,fun r => ?_⟩
 ·conv=>lhs;rw [h1]
  exact gm a b v
 ·rw [h2 r];exact gm a b (v.1,(r,v.2.2))
theorem eX{d:ai}(h:Rw d.1){x:ae}(hx:x∈an d.1):(an d.1).Perm (x::an (aH d x).1)∧Rw (aH d x).1:=by
 obtain ⟨v,hv,kr⟩:=aV.1 hx
 obtain ⟨rest,h1,h2⟩:=Bo h.s hv
 rw [jM h hv kr]
 have p:(an d.1).Perm (x::an (cf d v.1 (iJ v.2.1 x)).1) :=
  h1.trans ((List.Perm.append_right rest (ry kr (h.ring hv))).trans (List.Perm.cons x (h2 _).symm))
 exact ⟨p,h.s.re _ _,(List.nodup_cons.1 (p.nodup_iff.1 h.n)).2⟩
theorem ji{d:ai}(h:Rw d.1){x y:ae}(hx:x∈an d.1)(hy:y∉an d.1):(y::an d.1).Perm (x::an (az d x y).1)∧Rw (az d x y).1:=by
 obtain ⟨v,hv,kr⟩:=aV.1 hx
 obtain ⟨rest,h1,h2⟩:=Bo h.s hv
 rw [oT h y hv kr]
 have Rn:y∉v.2.1:=fun k=>hy (aV.2 ⟨v,hv,k⟩)
 have p:(y::an d.1).Perm (x::an (cf d v.1 (fT v.2.1 x y)).1) :=
  (List.Perm.cons y h1).trans ((List.Perm.append_right rest (Jp kr Rn)).trans (List.Perm.cons x (h2 _).symm))
 refine ⟨p,h.s.re _ _,?_⟩
 exact (List.nodup_cons.1 (p.nodup_iff.1 (List.nodup_cons.2 ⟨hy,h.n⟩))).2
theorem sE{d:ai}(h:Rw d.1){c:vf}{x:ae}{v:aj}(hv:aQ d.1 c.1=some v)(hx:x∉an d.1):(an (cI d c x).1).Perm (x::an d.1)∧Rw (cI d c x).1:=by
 have VS:=eE hv
 have VT:=gR hv
 obtain ⟨rest,h1,h2⟩:=Bo h.s VS
 have kr:x∉v.2.1:=fun k=>hx (aV.2 ⟨v,VS,k⟩)
 have e:cI d c x=cf d v.1 (pN v.2.1 c.2 x):=by
  unfold cI
  rw [←VT,jL h.s VS]
 rw [e]
 have p:(an (cf d v.1 (pN v.2.1 c.2 x)).1).Perm (x::an d.1) :=
  (h2 _).trans ((List.Perm.append_right rest (MA c.2 kr)).trans (List.Perm.cons x h1.symm))
 exact ⟨p,h.s.re _ _,p.nodup_iff.2 (List.nodup_cons.2 ⟨hx,h.n⟩)⟩
structure GV(v:aj):Prop where
 i:cK v.1=true
 l:oQ v.2.2.1=true
 a:nI v.2.2.2=true
 t:b5 v.2.1=v.2.1
structure GE(e:au):Prop where
 i:cK e.1=true
 l:oQ e.2.1=true
 a:nI e.2.2=true
structure Wf(d:ai):Prop where
 sv:bT d.1
 se:c9 d.2
 nv:d.1.length≤24
 ne:d.2.length≤40
 gv:∀v∈d.1,GV v
 ge:∀e∈d.2,GE e
 pd:(an d.1).Perm (ends d.2)
theorem Wf.rw{d:ai}(h:Wf d):Rw d.1:=⟨h.sv,h.pd.nodup_iff.2 (oS h.se)⟩
theorem Wf.zero:Wf zS.1:=⟨List.Pairwise.nil,List.Pairwise.nil,by simp [zS],by simp [zS],by simp [zS],by simp [zS],List.Perm.refl _⟩
theorem GV.re{l:List aj}(h:∀v∈l,GV v)(x:ID){r:List ae}(hr:b5 r=r):∀v∈l.map (wu x r),GV v:=fun v hv=>by
 obtain ⟨w,hw,rfl⟩:=List.mem_map.1 hv
 have g:=h w hw
 unfold wu
 split
 ·exact ⟨g.i,g.l,g.a,hr⟩
 ·exact g
theorem jN{d:ai}(h:∀v∈d.1,GV v)(x:ae):∀v∈(aH d x).1,GV v:=GV.re h _ (Mz _ _)
theorem oU{d:ai}(h:∀v∈d.1,GV v)(x y:ae):∀v∈(az d x y).1,GV v:=GV.re h _ (Jo _ _ _)
theorem xT{d:ai}(h:∀v∈d.1,GV v)(c:vf)(y:ae):∀v∈(cI d c y).1,GV v:=GV.re h _ (My _ _ _)
theorem fW(d:ai)(x:ID)(r:List ae):(cf d x r).1.length=d.1.length:=by unfold cf;simp
theorem Dv:cK zI=false:=by decide
theorem oV{l:List au}(h:∀e∈l,GE e):dS l zI=l:=by
 unfold dS;rw [List.filter_eq_self];intro e he
 have:=(h e he).i
 simp;intro k;rw [k,Dv] at this;cases this
theorem rz{l:List aj}(h:∀e∈l,GV e):dp l zI=l:=by
 unfold dp;rw [List.filter_eq_self];intro e he
 have:=(h e he).i
 simp;intro k;rw [k,Dv] at this;cases this
theorem rB:oQ e0=true:=by decide
theorem rC:nI 0=true:=by decide
theorem Bp{l:List au}{x:ID}(h:aU l x=none)(s:Int):(x,s)∉ends l:=fun k=>by
 obtain ⟨e,he,h1,_⟩:=c5.1 k
 unfold aU at h
 rw [List.find?_eq_none] at h
 exact h e he (by simpa using h1)
theorem Bq{l:List au}{x:ID}(h:(aU l x).isSome=true){s:Int}(hs:s=0∨s=1):(x,s)∈ends l:=by
 obtain ⟨e,he⟩:=Option.isSome_iff_exists.1 h
 exact c5.2 ⟨e,Dm he,qD he,hs⟩
end Go.Vs
namespace Go.Vs
open Go.Proofs
theorem P1{o:bW}(h:dd o=0):cK (bB o)=true:=by
 unfold dd at h
 split at h;· cases h
 split at h;· cases h
 split at h;· cases h
 rename_i h3;simpa using h3
theorem Br{o:bW}(h:dd o=0):1≤o.1∧o.1≤8:=by
 unfold dd at h
 split at h;· cases h
 split at h;· cases h
 omega
theorem wJ{o:bW}(h:dd o=0)(hk:o.1=5):cK (fG o)=true∧cK (bP o)=true∧0≤oN o∧oN o≤3:=by
 unfold dd at h
 split at h;· cases h
 split at h;· cases h
 split at h;· cases h
 split at h;· cases h
 rw [if_neg (show ¬o.1=3 by omega)] at h
 split at h
 ·assumption
 ·cases h
theorem Hi{o:bW}(h:dd o=0)(hk:o.1=8):nI (oN o)=true:=by
 unfold dd at h
 split at h;· cases h
 split at h;· cases h
 split at h;· cases h
 split at h;· cases h
 rw [if_neg (show ¬o.1=3 by omega),if_neg (show ¬o.1=5 by omega),if_neg (show ¬o.1=6 by omega)] at h
 split at h
 ·assumption
 ·cases h
theorem Dx{o:bW}(h:dd o=0)(hk:o.1=7):oQ (uR o)=true:=by
 unfold dd at h
 split at h;· cases h
 split at h;· cases h
 split at h;· cases h
 split at h;· cases h
 rw [if_neg (show ¬o.1=3 by omega),if_neg (show ¬o.1=5 by omega),if_neg (show ¬o.1=6 by omega),if_neg (show ¬o.1=8 by omega)] at h
 split at h
 ·assumption
 ·cases h
def fX(l:List aM):Prop:=l.Pairwise fun a b=>kd a.1 b.1=true
theorem oW{a b:ae}:lU a b≤0↔a=b∨kd a b=true:=by
 unfold lU
 by_cases h:a=b
 ·subst h;simp
 ·rw [if_neg h];cases kd a b<;>simp [h]
theorem Bu{q g:aM}:∀{l:List aM},q∈pO g l→q=g∨(q∈l∧q.1≠g.1)
 | [],h=>by simp [pO] at h;exact .inl h
 | e::r,h=>by
  unfold pO at h
  split at h
  ·rcases List.mem_cons.1 h with h | h
   ·exact .inl h
   ·unfold rR at h
    rw [List.mem_filter] at h
    exact .inr ⟨h.1,by simpa using h.2⟩
  ·split at h
   ·rename_i bc
    rcases List.mem_cons.1 h with rfl | h
    ·exact .inr ⟨List.mem_cons_self ..,bc⟩
    ·rcases Bu h with h | ⟨h,h2⟩
     ·exact .inl h
     ·exact .inr ⟨List.mem_cons_of_mem _ h,h2⟩
   ·rcases Bu h with h | ⟨h,h2⟩
    ·exact .inl h
    ·exact .inr ⟨List.mem_cons_of_mem _ h,h2⟩
theorem fX.add(g:aM):∀{l:List aM},fX l→fX (pO g l)
 | [],_=>List.pairwise_singleton _ _
 | e::r,h=>by
  have hr:∀{q:aM},q∈r→kd e.1 q.1=true:=fun {q} hq=>List.rel_of_pairwise_cons h hq
  unfold pO
  split
  ·rename_i ho
   refine List.Pairwise.cons (fun q hq => ?_) (h.filter _)
   unfold rR at hq
   rw [List.mem_filter] at hq
   have bc:q.1≠g.1:=by simpa using hq.2
   have hle:e.1=q.1∨kd e.1 q.1=true:=by
    rcases List.mem_cons.1 hq.1 with rfl | hq
    ·exact .inl rfl
    ·exact .inr (hr hq)
   rcases oW.1 ho with ho | ho
   ·rcases hle with k | k
    ·exact absurd (ho.trans k).symm bc
    ·rw [ho];exact k
   ·rcases hle with k | k
    ·rw [←k];exact ho
    ·exact fk ho k
  ·rename_i ho
   have El:kd e.1 g.1=true:=by
    have h1:¬(g.1=e.1∨kd g.1 e.1=true):=fun k=>ho (oW.2 k)
    exact wG (by simpa using fun k=>h1 (.inr k)) (fun k=>h1 (.inl k))
   have hs:=fX.add g (List.Pairwise.of_cons h)
   split
   ·refine List.Pairwise.cons (fun q hq => ?_) hs
    rcases Bu hq with rfl | ⟨hq,_⟩
    ·exact El
    ·exact hr hq
   ·exact hs
theorem oX(e:aM)(r:List aM)(x:ae):lD (e::r) x=if e.1=x then some e.2 else lD r x:=by
 unfold lD
 rw [List.find?_cons]
 by_cases h:e.1=x
 ·simp [h]
 ·simp [h]
theorem rD{g:aM}:∀{l:List aM},(∀q∈l,q.1≠g.1)→rR g l=l:=fun {l} h=>by
 unfold rR;rw [List.filter_eq_self];intro q hq;simpa using h q hq
theorem Hj(g:aM):∀{l:List aM},fX l→(pO g l).length=if (lD l g.1).isSome=true then l.length else l.length+1
 | [],_=>rfl
 | e::r,h=>by
  have hr:∀{q:aM},q∈r→kd e.1 q.1=true:=fun {q} hq=>List.rel_of_pairwise_cons h hq
  have ih:=Hj g (List.Pairwise.of_cons h)
  unfold pO
  split
  ·rename_i ho
   rcases oW.1 ho with ho | ho
   ·have h1:rR g (e::r)=r:=by
     have:rR g (e::r)=rR g r:=by unfold rR;rw [List.filter_cons_of_neg (by simp [ho])]
     rw [this]
     exact rD (fun q hq k=>by have:=hr hq;rw [k,ho,dB] at this;cases this)
    rw [h1,oX,if_pos ho.symm];simp
   ·have h2:∀q∈e::r,q.1≠g.1:=fun q hq k=>by
     have:kd g.1 q.1=true:=by
      rcases List.mem_cons.1 hq with rfl | hq
      ·exact ho
      ·exact fk ho (hr hq)
     rw [k,dB] at this;cases this
    have h3:lD (e::r) g.1=none:=by
     unfold lD
     have:(List.find? (fun q=>decide (q.1=g.1)) (e::r))=none:=by
      rw [List.find?_eq_none];intro q hq;simpa using h2 q hq
     rw [this];rfl
    rw [rD h2,h3];simp
  ·rename_i ho
   have bc:e.1≠g.1:=fun k=>ho (oW.2 (.inl k.symm))
   rw [if_pos bc,oX,if_neg bc]
   simp only [List.length_cons,ih]
   split<;>rfl
theorem jO{l:List aM}(h:fX l)(hn:l.length≤400)(g:aM):fX (bU l g)∧(bU l g).length≤400:=by
 unfold bU
 split
 ·exact ⟨h,hn⟩
 ·rename_i hc
  refine ⟨fX.add g h,?_⟩
  rw [Hj g h]
  split
  ·exact hn
  ·rename_i h1
   by_cases h2:400≤l.length
   ·exact absurd ⟨by simpa using h1,h2⟩ hc
   ·omega
theorem rE{α:Type}{o:Option α}(h:¬o.isSome=false):o.isSome=true:=by cases o<;>simp_all
structure gy(s:StateT):Prop where
 d:Wf s.1
 g:fX s.2
 n:s.2.length≤400
theorem gy.zero:gy zS:=⟨Wf.zero,List.Pairwise.nil,by simp [zS]⟩
theorem gy.add{l:List aM}(h:fX l)(hn:l.length≤400){d:ai}(hd:Wf d)(g:aM):gy (d,bU l g):=⟨hd,(jO h hn g).1,(jO h hn g).2⟩
theorem MB{f:aj→aj}(hf:∀v,(f v).2.1=v.2.1)(l:List aj):an (l.map f)=an l:=by
 unfold an;rw [List.flatMap_map];congr 1;funext v;exact hf v
theorem P2{f:au→au}(hf:∀v,(f v).1=v.1)(l:List au):ends (l.map f)=ends l:=by
 unfold ends;rw [List.flatMap_map];congr 1;funext v;rw [hf]
theorem KQ(o:bW)(w:au):(qB o w).1=w.1:=by unfold qB;split<;>(try split)<;>rfl
theorem MC(o:bW)(w:aj):(lW o w).2.1=w.2.1:=by unfold lW;split<;>(try split)<;>rfl
theorem Wf.rF{d:ai}(h:Wf d){x:ID}(hx:aU d.2 x=none)(s:Int):(x,s)∉an d.1:=fun k=>Bp hx s (h.pd.mem_iff.1 k)
theorem Wf.lK{d:ai}(h:Wf d){x:ID}(hx:(aU d.2 x).isSome=true){s:Int}(hs:s=0∨s=1):(x,s)∈an d.1:=h.pd.mem_iff.2 (Bq hx hs)
theorem Wf.wy{s:StateT}(h:Wf s.1){o:bW}(hm:dd o=0)(hk:7≤o.1):Wf (wy s o).1.1:=by
 have hk8:=(Br hm).2
 unfold Vs.wy
 split
 ·refine ⟨h.sv.map (KO o),h.se.map (KQ o),by simp;exact h.nv,by simp;exact h.ne,fun v hv => ?_,fun e he => ?_,?_⟩
  ·obtain ⟨w,hw,rfl⟩:=List.mem_map.1 hv
   have g:=h.gv w hw
   unfold lW
   split
   ·split
    ·rename_i h7
     exact ⟨g.i,Dx hm h7,g.a,g.t⟩
    ·exact ⟨g.i,g.l,Hi hm (by omega),g.t⟩
   ·exact g
  ·obtain ⟨w,hw,rfl⟩:=List.mem_map.1 he
   have g:=h.ge w hw
   unfold qB
   split
   ·split
    ·rename_i h7
     exact ⟨g.i,Dx hm h7,g.a⟩
    ·exact ⟨g.i,g.l,Hi hm (by omega)⟩
   ·exact g
  ·show (an (s.1.1.map (lW o))).Perm (ends (s.1.2.map (qB o)))
   rw [MB (MC o),P2 (KQ o)];exact h.pd
 ·exact Wf.zero
theorem oY{s:StateT}{c:vf}(h:(bY s c).2.1=0):(bZ s.1 c.1).isSome=true∧(bY s c).1.1=c.1:=by
 unfold bY at h ⊢
 cases hv:bZ s.1 c.1 with
 | none=>rw [hv] at h;cases h
 | some v=>exact ⟨rfl,rfl⟩
theorem Hk{l:List aj}{x y:ID}(r:List ae)(h:(aQ l x).isSome=true):(aQ (l.map (wu y r)) x).isSome=true:=by
 rw [nL (qC y r)];simpa using h
theorem Wf.link{d:ai}(h:Wf d){x:ID}(hx:cK x=true)(hn:aU d.2 x=none)(he:¬40≤d.2.length){a b:vf}(ha:(aQ d.1 a.1).isSome=true)(hb:(aQ d.1 b.1).isSome=true) :
  Wf (cI (cI (d.1,fb (x,(e0,0)) d.2) a (x,0)) b (x,1)):=by
 have hrw:Rw ((d.1,fb (x,(e0,0)) d.2):ai).1:=h.rw
 obtain ⟨va,hva⟩:=Option.isSome_iff_exists.1 ha
 have h0:=h.rF hn 0
 have h1:=h.rF hn 1
 obtain ⟨p1,q1⟩:=sE (c:=a) (x:=(x,0)) hrw hva h0
 obtain ⟨vb,hvb⟩:=Option.isSome_iff_exists.1 (Hk (x:=b.1) (y:=a.1) (pN (cv (d.1,fb (x,(e0,0)) d.2) a.1) a.2 (x,0)) hb)
 have NA:(x,1)∉an (cI (d.1,fb (x,(e0,0)) d.2) a (x,0)).1:=fun k=>by
  rcases List.mem_cons.1 (p1.mem_iff.1 k) with k | k
  ·cases k
  ·exact h1 k
 obtain ⟨p2,q2⟩:=sE (c:=b) (x:=(x,1)) q1 hvb NA
 refine ⟨q2.s,wF (x,(e0,0)) h.se hn,?_,?_,xT (xT h.gv _ _) _ _,fun e hem => ?_,?_⟩
 ·unfold cI;rw [fW,fW];exact h.nv
 ·show (fb (x,(e0,0)) d.2).length≤40
  rw [my];omega
 ·rcases uU.1 (show e∈fb (x,(e0,0)) d.2 from hem) with rfl | hem
  ·exact ⟨hx,rB,rC⟩
  ·exact h.ge e hem
 ·show (an _).Perm (ends (fb (x,(e0,0)) d.2))
  refine (p2.trans (List.Perm.cons _ p1)).trans (List.Perm.trans ?_ (Du (x,(e0,0)) d.2).symm)
  exact (List.Perm.swap _ _ _).trans (List.Perm.cons _ (List.Perm.cons _ h.pd))
theorem Wf.cut{d:ai}(h:Wf d){x:ID}(hx:(aU d.2 x).isSome=true):Wf (aN (aH (aH d (x,0)) (x,1)) zI x):=by
 have h0:=h.lK hx (s:=0) (.inl rfl)
 have h1:=h.lK hx (s:=1) (.inr rfl)
 obtain ⟨p1,q1⟩:=eX h.rw h0
 have NA:(x,1)∈an (aH d (x,0)).1:=by
  rcases List.mem_cons.1 (p1.mem_iff.1 h1) with k | k
  ·cases k
  ·exact k
 obtain ⟨p2,q2⟩:=eX q1 NA
 have KR:=jN (jN h.gv (x,0)) (x,1)
 have KS:(aN (aH (aH d (x,0)) (x,1)) zI x).1=(aH (aH d (x,0)) (x,1)).1:=rz KR
 refine ⟨by rw [KS];exact q2.s,tp h.se,?_,?_,by rw [KS];exact KR,fun e he=>h.ge e ?_,?_⟩
 ·rw [KS];unfold aH;rw [fW,fW];exact h.nv
 ·exact Nat.le_trans (List.length_filter_le _ _) h.ne
 ·exact (List.mem_filter.1 (show e∈d.2.filter fun w=>decide (w.1≠x) from he)).1
 ·rw [KS]
  show (an (aH (aH d (x,0)) (x,1)).1).Perm (ends (dS d.2 x))
  have p3:((x,0)::(x,1)::an (aH (aH d (x,0)) (x,1)).1).Perm ((x,0)::(x,1)::ends (dS d.2 x)) :=
   ((p1.trans (List.Perm.cons _ p2)).symm.trans h.pd).trans (Bn h.se hx)
  exact p3.cons_inv.cons_inv
theorem gq{x:ae}(h:x.2=0∨x.2=1):(ah x).1=x.1∧((x.2=0∧(ah x).2=1)∨(x.2=1∧(ah x).2=0)):=by
 refine ⟨rfl,?_⟩
 unfold ah
 rcases h with h | h
 ·exact .inl ⟨h,by rw [h];rfl⟩
 ·exact .inr ⟨h,by rw [h];rfl⟩
theorem Hl{x:ae}(h:x.2=0∨x.2=1)(l:List ae):(x::ah x::l).Perm ((x.1,0)::(x.1,1)::l):=by
 obtain ⟨h1,h2⟩:=gq h
 have e:x=(x.1,x.2):=rfl
 have e2:ah x=(x.1,(ah x).2):=rfl
 rcases h2 with ⟨ha,hb⟩ | ⟨ha,hb⟩
 ·rw [ha] at e;rw [hb] at e2;rw [e2,e]
 ·rw [ha] at e;rw [hb] at e2;rw [e2,e];exact List.Perm.swap _ _ _
theorem Bv{n:Int}(h0:0≤n)(h3:n≤3):(IntKind.wrap .i64 (1 - Int.tmod n 2)=0∨IntKind.wrap .i64 (1 - Int.tmod n 2)=1)∧(IntKind.wrap .i64 (Int.tdiv n 2)=0∨IntKind.wrap .i64 (Int.tdiv n 2)=1):=by
 have:n=0∨n=1∨n=2∨n=3:=by omega
 rcases this with rfl | rfl | rfl | rfl<;>exact ⟨by decide,by decide⟩
theorem Wf.split{d:ai}(h:Wf d){m k:ae}{v:ID}(hv:cK v=true)(hk:cK k.1=true)(Nb:m.2=0∨m.2=1)(mW:k.2=0∨k.2=1)(hm:(aU d.2 m.1).isSome=true)(Ny:aQ d.1 v=none)(ZV:aU d.2 k.1=none)
  (Ni:¬24≤d.1.length) (hle:¬40≤d.2.length):Wf (c7 (v,(b5 [m,k],(e0,0))) (az d m (ah k)).1,fb (k.1,(e0,0)) (az d m (ah k)).2):=by
 have Jq:m∈an d.1:=h.lK hm Nb
 have CV:ah k∉an d.1:=h.rF ZV _
 obtain ⟨p1,q1⟩:=ji h.rw Jq CV
 have SB:aQ (az d m (ah k)).1 v=none:=by
  unfold az Vs.cf
  rw [nL (qC _ _),Ny];rfl
 refine ⟨nK (v,(b5 [m,k],(e0,0))) q1.s SB,wF (k.1,(e0,0)) h.se ZV,?_,?_,fun w hw => ?_,fun e he => ?_,?_⟩
 ·show (c7 _ (az d m (ah k)).1).length≤24
  rw [fU];unfold az;rw [fW];omega
 ·show (fb _ d.2).length≤40
  rw [my];omega
 ·rcases lF.1 hw with rfl | hw
  ·exact ⟨hv,rB,rC,rv _⟩
  ·exact oU h.gv _ _ w hw
 ·rcases uU.1 (show e∈fb (k.1,(e0,0)) d.2 from he) with rfl | he
  ·exact ⟨hk,rB,rC⟩
  ·exact h.ge e he
 ·show (an (c7 _ _)).Perm (ends (fb (k.1,(e0,0)) d.2))
  refine (tx _ _).trans (List.Perm.trans ?_ (Du (k.1,(e0,0)) d.2).symm)
  refine (List.Perm.append_right _ (jJ [m,k])).trans ?_
  show (m::k::an (az d m (ah k)).1).Perm _
  refine (List.Perm.swap k m _).trans ((List.Perm.cons k p1.symm).trans ?_)
  refine (Hl mW _).trans ?_
  exact List.Perm.cons _ (List.Perm.cons _ h.pd)
theorem Wf.P3{d:ai}(h:Wf d){v:aj}(hv:v∈d.1)(hr:v.2.1=[]):Wf (aN d v.1 zI):=by
 obtain ⟨a,b,h1,_,h2,_⟩:=lJ h.sv hv
 refine ⟨lH h.sv,?_,Nat.le_trans (List.length_filter_le _ _) h.nv,Nat.le_trans (List.length_filter_le _ _) h.ne,fun w hw=>h.gv w ?_,fun e he=>h.ge e ?_,?_⟩
 ·exact tp h.se
 ·exact (List.mem_filter.1 (show w∈d.1.filter fun w=>decide (w.1≠v.1) from hw)).1
 ·exact (List.mem_filter.1 (show e∈d.2.filter fun w=>decide (w.1≠zI) from he)).1
 ·show (an (dp d.1 v.1)).Perm (ends (dS d.2 zI))
  rw [h2,oV h.ge]
  have p:=gm a b v
  rw [←h1,hr,List.nil_append] at p
  exact p.symm.trans h.pd
theorem Wf.VU{d:ai}(h:Wf d){v:aj}{a b:ae}(hv:v∈d.1)(hr:v.2.1.Perm [a,b])(nW:a.1≠b.1):Wf (aN (az (aN d v.1 zI) (ah b) a) zI b.1):=by
 obtain ⟨p,q,h1,_,h2,_⟩:=lJ h.sv hv
 have pd:(an d.1).Perm (a::b::an (p++q)):=by
  have:=(gm p q v).trans (List.Perm.append_right _ hr)
  rw [←h1] at this;exact this
 have Js:aN d v.1 zI=(p++q,d.2):=by unfold aN;rw [h2,oV h.ge]
 have Cf:=pd.nodup_iff.1 h.rw.n
 have hbm:b∈ends d.2:=h.pd.mem_iff.1 (pd.mem_iff.2 (by simp))
 obtain ⟨e,he,XX,vB⟩:=c5.1 hbm
 have yE:(aU d.2 b.1).isSome=true:=by
  unfold aU;rw [List.find?_isSome];exact ⟨e,he,by simpa using XX⟩
 obtain ⟨_,ho⟩:=gq vB
 have MD:ah b∈an (p++q):=by
  have h3:ah b∈an d.1:=h.lK (s:=(ah b).2) yE (by rcases ho with ⟨_,k⟩ | ⟨_,k⟩<;>omega)
  rcases List.mem_cons.1 (pd.mem_iff.1 h3) with k | k
  ·exact absurd (congrArg Prod.fst k) (fun k=>nW k.symm)
  rcases List.mem_cons.1 k with k | k
  ·have:=congrArg Prod.snd k;omega
  ·exact k
 have E1:Rw (p++q):=by
  refine ⟨?_,(List.nodup_cons.1 (List.nodup_cons.1 Cf).2).2⟩
  rw [←h2];exact lH h.sv
 have ha:a∉an (p++q):=fun k=>(List.nodup_cons.1 Cf).1 (List.mem_cons_of_mem _ k)
 rw [Js]
 obtain ⟨p1,q1⟩:=ji (d:=(p++q,d.2)) E1 MD ha
 have KR:∀w∈(az (p++q,d.2) (ah b) a).1,GV w:=by
  refine oU (d:=(p++q,d.2)) (fun w hw=>h.gv w ?_) _ _
  rw [h1]
  rcases List.mem_append.1 hw with k | k
  ·exact List.mem_append_left _ k
  ·exact List.mem_append_right _ (List.mem_cons_of_mem _ k)
 have KS:(aN (az (p++q,d.2) (ah b) a) zI b.1).1=(az (p++q,d.2) (ah b) a).1:=rz KR
 refine ⟨by rw [KS];exact q1.s,tp h.se,?_,Nat.le_trans (List.length_filter_le _ _) h.ne,by rw [KS];exact KR,fun f hf=>h.ge f ?_,?_⟩
 ·rw [KS];unfold az;rw [fW]
  have:=h.nv
  rw [h1] at this
  simp at this ⊢;omega
 ·exact (List.mem_filter.1 (show f∈d.2.filter fun w=>decide (w.1≠b.1) from hf)).1
 ·rw [KS]
  show (an (az (p++q,d.2) (ah b) a).1).Perm (ends (dS d.2 b.1))
  have p3:(b::ah b::an (az (p++q,d.2) (ah b) a).1).Perm (b::ah b::ends (dS d.2 b.1)):=by
   refine List.Perm.trans (List.Perm.cons b p1.symm) ?_
   refine (List.Perm.swap a b _).trans (pd.symm.trans (h.pd.trans ?_))
   exact (Bn h.se yE).trans (Hl vB _).symm
  exact p3.cons_inv.cons_inv
theorem gy.one{s:StateT}(h:gy s)(o:bW):gy (wz s o).1:=by
 unfold wz
 split
 ·exact gy.zero
 rename_i hm
 have hm:dd o=0:=Classical.byContradiction fun k=>hm k
 have bI:=P1 hm
 split
 ·unfold sy
  split;· exact gy.zero
  split;· exact gy.zero
  rename_i h1 h2
  have hn:aQ s.1.1 (bB o)=none:=by simpa [bZ] using h1
  refine ⟨⟨nK _ h.d.sv hn,h.d.se,by show (c7 _ s.1.1).length≤24;rw [fU];omega,h.d.ne,fun w hw => ?_,h.d.ge,?_⟩,h.g,h.n⟩
  ·rcases lF.1 hw with rfl | hw
   ·exact ⟨bI,rB,rC,rfl⟩
   ·exact h.d.gv w hw
  ·exact (tx _ _).trans h.d.pd
 split
 ·unfold xQ
  cases hv:bZ s.1 (bB o) with
  | none=>exact gy.zero
  | some v =>
   simp only
   split
   ·exact gy.zero
   ·rename_i hr
    have:=h.d.P3 (eE hv) (by simpa using hr)
    rw [gR hv] at this
    exact ⟨this,h.g,h.n⟩
 split
 ·unfold uV
  split;· exact gy.zero
  split;· exact gy.zero
  split;· exact gy.zero
  split;· exact gy.zero
  split;· exact gy.zero
  rename_i h1 h2 h3 h4 h5
  have hn:aU s.1.2 (bB o)=none:=by simpa [lV] using h1
  obtain ⟨ca,ca2⟩:=oY (s:=s) (c:=oA o) (Classical.byContradiction fun k=>h3 k)
  obtain ⟨cb,cb2⟩:=oY (s:=s) (c:=oB o) (Classical.byContradiction fun k=>h4 k)
  refine ⟨?_,h.g,h.n⟩
  unfold Dk
  refine h.d.link bI hn h2 (by rw [ca2];exact ca) ?_
  split
  ·exact cb
  ·rw [cb2];exact cb
 split
 ·unfold Hc
  split;· exact gy.zero
  rename_i h1
  have h2:=jO h.g h.n ((bB o,0),eW s.1 (bB o,0))
  exact gy.add h2.1 h2.2 (h.d.cut (rE h1)) _
 split
 ·rename_i hk
  unfold mR
  split;· exact gy.zero
  split;· exact gy.zero
  split;· exact gy.zero
  split;· exact gy.zero
  split;· exact gy.zero
  rename_i h1 h2 h3 h4 h5
  obtain ⟨m1,m2,m3,m4⟩:=wJ hm hk
  obtain ⟨s1,s2⟩:=Bv m3 m4
  refine ⟨?_,h.g,h.n⟩
  exact h.d.split (m:=Rm o) (k:=Nh o) m1 m2 s1 s2 (rE h1) (by simpa [bZ] using h2) (by simpa [lV,Nh] using h3) h4 h5
 split
 ·unfold mz
  split
  ·exact gy.zero
  ·rename_i v hv
   split
   ·rename_i r0 r1 hr
    have VS:=eE hv
    have VT:=gR hv
    have key:∀a b:ae,v.2.1.Perm [a,b]→a.1≠b.1→gy (H6 s o a b,Jj s.2 a b):=fun a b hp nW=>by
     have h2:=jO h.g h.n ((b.1,0),tn a b 0)
     have:=h.d.VU VS hp nW
     rw [VT] at this
     exact gy.add h2.1 h2.2 this _
    unfold kG
    split;· exact gy.zero
    rename_i bc
    split
    ·exact key r1 r0 (by rw [hr];exact List.Perm.swap _ _ _) (fun k=>bc k.symm)
    split
    ·exact key r0 r1 (by rw [hr]) bc
    ·exact gy.zero
   ·exact gy.zero
 ·rename_i k1 k2 k3 k4 k5 k6
  have hk:=Br hm
  have:=h.d.wy hm (by omega)
  refine ⟨this,?_,?_⟩
  ·unfold wy;split
   ·exact h.g
   ·exact List.Pairwise.nil
  ·unfold wy;split
   ·exact h.n
   ·simp [zS]
theorem gy.go:∀(l:List bW) {s:StateT},gy s→gy (Mq l s).1
 | [],s,h=>h
 | o::r,s,h=>by
  unfold Mq
  split
  ·exact gy.zero
  ·exact gy.go r (h.one o)
theorem gy.apply{s:StateT}(h:gy s)(l:List bW):gy (fC s l).1:=by
 unfold fC
 split
 ·exact gy.zero
 ·exact gy.go l h
theorem gy.try{s:StateT}(h:gy s)(l:List bW):gy (mS s l):=by
 unfold mS
 split
 ·exact h
 ·exact h.apply l
theorem gy.reach:∀(m:Nat) (l:List (List bW)) {s:StateT},gy s→gy (lG m l s)
 | 0,_,s,h=>by simpa [lG] using h
 | m+1,[],s,h=>h
 | m+1,l::r,s,h=>by rw [lG];exact gy.reach m r (h.try _)
theorem gy.KM(l:List (List bW)):gy (Bh l):=gy.reach 30 l gy.zero
end Go.Vs
