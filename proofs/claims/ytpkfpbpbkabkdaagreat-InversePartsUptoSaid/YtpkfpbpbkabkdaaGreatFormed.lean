/- Diagrams that are well formed stay so. -/
import Derived.Test.YtpkfpbpbkabkdaaGreatRings
set_option linter.unusedVariables false
set_option linter.unusedSimpArgs false
namespace Go.Vs
open Go.Proofs
theorem jY(row:List ae):(cw row).Perm row:=by
 unfold cw CT
 exact List.perm_append_comm.trans (List.Perm.of_eq (List.take_append_drop _ _))
theorem NY{row:List ae}(h:0<row.length)(hl:∀j,(hj:j<row.length)→kB row[j] row[0]=false):fG row row 0 0=0:=by
 have hm:=pT row row 0 0 h (by omega)
 have h2:=(uh h).2 0
 by_cases hz:fG row row 0 0=0
 ·exact hz
 ·have:=h2 (by omega) h
  rw[pX hm,hl _ hm]at this;cases this
theorem R6(row:List ae):CT row 0=row:=by unfold CT;simp
theorem sE(row:List ae):cw (cw row)=cw row:=by
 by_cases h0:row.length=0
 ·have:row=[]:=by simpa using h0
  subst this;rfl
 have hp:0<row.length:=by omega
 have hm:=pT row row 0 0 hp (by omega)
 have hp2:0<(cw row).length:=by rw[gr];exact hp
 have h1:(cw row)[0]=row.getD (fG row row 0 0) zD:=by
  have:=L7 (row:=row) (k:=fG row row 0 0) (i:=0) (by omega) hp
  rw[Nat.add_zero,Nat.mod_eq_of_lt hm,List.getElem?_eq_getElem hm]at this
  rw[pX hm]
  exact(List.getElem?_eq_some_iff.1 this).2
 have h2:fG (cw row) (cw row) 0 0=0:=by
  refine NY hp2 (fun j hj=>?_)
  rw[h1]
  have gR:(cw row)[j]∈row:=Ib.1 (List.getElem_mem hj)
  obtain⟨i,hi,he⟩:=List.getElem_of_mem gR
  rw[←he]
  exact(uh hp).1 i hi
 unfold cw at h2 ⊢
 rw[h2,R6]
theorem NZ(row:List ae)(a d:ae):cw (mh row a d)=mh row a d:=by unfold mh;split<;>exact sE _
theorem N0(row:List ae)(d:ae):cw (cC row d)=cC row d:=sE _
theorem Ky(row:List ae)(a d:ae):cw (jF row a d)=jF row a d:=sE _
theorem N1{row:List ae}{d:ae}(a:ae)(h:d∉row):(mh row a d).Perm (d::row):=by
 unfold mh
 rw[if_neg h]
 refine(jY _).trans (List.perm_middle.trans ?_)
 rw[List.take_append_drop]
theorem sF{row:List ae}{d:ae}(h:d∈row)(hn:row.Nodup):row.Perm (d::cC row d):=by
 obtain⟨k,_,h2,_⟩:=fF h
 obtain⟨h3,h4⟩:=List.getElem?_eq_some_iff.1 h2
 unfold cC
 rw[xw hn h2]
 refine List.Perm.trans ?_ (List.Perm.cons d (jY _).symm)
 conv=>lhs;rw[←List.take_append_drop k row,List.drop_eq_getElem_cons h3,h4]
 exact List.perm_middle
theorem Kz{row:List ae}{cT d:ae}(h:cT∈row)(hd:d∉row):(d::row).Perm (cT::jF row cT d):=by
 obtain⟨k,h1,h2,_⟩:=fF h
 obtain⟨h3,h4⟩:=List.getElem?_eq_some_iff.1 h2
 unfold jF
 rw[if_pos ⟨h,hd⟩,h1,Int.toNat_natCast]
 refine List.Perm.trans ?_ (List.Perm.cons cT (jY _).symm)
 rw[List.set_eq_take_append_cons_drop,if_pos h3]
 conv=>lhs;rw[←List.take_append_drop k row,List.drop_eq_getElem_cons h3,h4]
 have p1:(row.take k++cT::row.drop (k+1)).Perm (cT::(row.take k++row.drop (k+1))):=List.perm_middle
 have p2:(row.take k++d::row.drop (k+1)).Perm (d::(row.take k++row.drop (k+1))):=List.perm_middle
 exact(List.Perm.cons d p1).trans ((List.Perm.swap cT d _).trans (List.Perm.cons cT p2.symm))
def au(l:List ah):List ae:=l.flatMap fun v=>v.2.1
def ends(l:List ai):List ae:=l.flatMap fun e=>[(e.1,0),(e.1,1)]
theorem iF(v:ah)(l:List ah):au (v::l)=v.2.1++au l:=List.flatMap_cons
theorem oK(a b:List ah):au (a++b)=au a++au b:=List.flatMap_append
theorem iR(a b:List ah)(v:ah):(au (a++v::b)).Perm (v.2.1++au (a++b)):=by
 rw[oK,iF,oK,←List.append_assoc,←List.append_assoc]
 exact List.Perm.append_right _ List.perm_append_comm
theorem bh{x:ae}{l:List ah}:x∈au l↔∃v∈l,x∈v.2.1:=List.mem_flatMap
theorem jZ(e:ai)(l:List ai):ends (e::l)=(e.1,0)::(e.1,1)::ends l:=by unfold ends;rw[List.flatMap_cons];rfl
theorem cQ{x:ae}{l:List ai}:x∈ends l↔∃e∈l,e.1=x.1∧(x.2=0∨x.2=1):=by
 unfold ends
 rw[List.mem_flatMap]
 constructor
 ·rintro⟨e,he,hx⟩
  rcases List.mem_cons.1 hx with rfl|hx
  ·exact⟨e,he,rfl,.inl rfl⟩
  ·rw[List.mem_singleton]at hx;subst hx;exact⟨e,he,rfl,.inr rfl⟩
 ·rintro⟨e,he,h1,h2⟩
  refine⟨e,he,?_⟩
  obtain⟨x1,x2⟩:=x
  simp only at h1 h2
  subst h1
  rcases h2 with rfl|rfl<;>simp
theorem pY:∀{l:List ai},dk l→(ends l).Nodup
 |[],_=>List.nodup_nil
 |e::r,h=>by
  have br:∀s:Int,(e.1,s)∉ends r:=fun s hs=>by
   obtain⟨f,hf,h1,_⟩:=cQ.1 hs
   have:=List.rel_of_pairwise_cons h hf
   simp only at h1
   rw[h1,cd]at this;cases this
  rw[jZ]
  refine List.nodup_cons.2 ⟨?_,List.nodup_cons.2 ⟨br 1,pY h.of_cons⟩⟩
  rw[List.mem_cons]
  rintro(h1|h1)
  ·cases h1
  ·exact br 0 h1
theorem Eg(e:ai):∀l:List ai,(dw e l).Perm (e::l)
 |[]=>List.Perm.refl _
 |w::r=>by
  unfold dw
  split
  ·exact List.Perm.refl _
  ·exact(List.Perm.cons w (Eg e r)).trans (List.Perm.swap e w r)
theorem Eh(e:ah):∀l:List ah,(eI e l).Perm (e::l)
 |[]=>List.Perm.refl _
 |w::r=>by
  unfold eI
  split
  ·exact List.Perm.refl _
  ·exact(List.Perm.cons w (Eh e r)).trans (List.Perm.swap e w r)
theorem Ei(e:ai)(l:List ai):(ends (dw e l)).Perm ((e.1,0)::(e.1,1)::ends l):=by
 rw[←jZ]
 exact List.Perm.flatMap_right _ (Eg e l)
theorem Cd(v:ah)(l:List ah):(au (eI v l)).Perm (v.2.1++au l):=by
 rw[←iF]
 exact List.Perm.flatMap_right _ (Eh v l)
theorem Ce{l:List ai}{x:ID}(hs:dk l)(h:(aT l x).isSome=true):(ends l).Perm ((x,0)::(x,1)::ends (c6 l x)):=by
 obtain⟨e,he⟩:=Option.isSome_iff_exists.1 h
 obtain⟨h3,h4⟩:=List.getElem?_eq_some_iff.1 (mo hs he)
 rw[xp hs h]
 conv=>lhs;rw[←List.take_append_drop (b5 l x) l,List.drop_eq_getElem_cons h3,h4]
 rw[←rz he,←jZ]
 exact List.Perm.flatMap_right _ List.perm_middle
theorem kI{l:List ah}{v:ah}(hs:bY l)(h:v∈l):ba l v.1=some v:=by
 have hf:(ba l v.1).isSome=true:=by
  unfold ba;rw[List.find?_isSome];exact⟨v,h,by simp⟩
 obtain⟨u,hu⟩:=Option.isSome_iff_exists.1 hf
 have h1:=dg hs hu
 obtain⟨k,hk,he⟩:=List.getElem_of_mem h
 have h2:l[k]? = some v:=by rw[List.getElem?_eq_getElem hk,he]
 rw[jX hs h2 rfl,h1]at h2
 rw[hu];exact h2
theorem rB{l:List ah}{v:ah}(hs:bY l)(h:v∈l):∃a b,l=a++v::b∧(∀u∈a++b,u.1≠v.1)∧dA l v.1=a++b∧∀r,l.map (su v.1 r)=a++(v.1,(r,v.2.2))::b:=by
 obtain⟨a,b,rfl⟩:=List.append_of_mem h
 have hp:=List.pairwise_append.1 hs
 have hb:=List.pairwise_cons.1 hp.2.1
 have br:∀u∈a++b,u.1≠v.1:=fun u hu e=>by
  rcases List.mem_append.1 hu with hu|hu
  ·have:=hp.2.2 u hu v (by simp);rw[e,cd]at this;cases this
  ·have:=hb.1 u hu;rw[e,cd]at this;cases this
 have hm:∀(r:List ae) (c:List ah),(∀u∈c,u.1≠v.1)→c.map (su v.1 r)=c:=fun r c hc=>by
  conv=>rhs;rw[←List.map_id c]
  exact List.map_congr_left fun u hu=>by unfold su;rw[if_neg (hc u hu)];rfl
 have hd:∀c:List ah,(∀u∈c,u.1≠v.1)→dA c v.1=c:=fun c hc=>by
  unfold dA;rw[List.filter_eq_self];intro u hu;simpa using hc u hu
 refine⟨a,b,rfl,br,?_,fun r=>?_⟩
 ·unfold dA
  rw[List.filter_append,List.filter_cons_of_neg (by simp)]
  have h1:=hd a (fun u hu=>br u (List.mem_append_left _ hu))
  have h2:=hd b (fun u hu=>br u (List.mem_append_right _ hu))
  unfold dA at h1 h2
  rw[h1,h2]
 ·rw[List.map_append,List.map_cons,hm r a (fun u hu=>br u (List.mem_append_left _ hu)),hm r b (fun u hu=>br u (List.mem_append_right _ hu))]
  unfold su;rw[if_pos rfl]
structure Rw(l:List ah):Prop where
 s:bY l
 n:(au l).Nodup
theorem Rw.ring{l:List ah}(h:Rw l){v:ah}(hv:v∈l):v.2.1.Nodup:=by
 obtain⟨a,b,rfl,_⟩:=rB h.s hv
 exact(List.nodup_append.1 ((iR a b v).nodup_iff.1 h.n)).1
theorem Rw.one{l:List ah}(h:Rw l){v w:ah}{x:ae}(hv:v∈l)(hw:w∈l)(hx:x∈v.2.1)(hy:x∈w.2.1):w=v:=by
 obtain⟨a,b,rfl,_⟩:=rB h.s hv
 have hn:=List.nodup_append.1 ((iR a b v).nodup_iff.1 h.n)
 have:w∈a++v::b:=hw
 rw[List.mem_append,List.mem_cons]at this
 rcases this with k|k|k
 ·exact absurd rfl (hn.2.2 x hx x (bh.2 ⟨w,List.mem_append_left _ k,hy⟩))
 ·exact k
 ·exact absurd rfl (hn.2.2 x hx x (bh.2 ⟨w,List.mem_append_right _ k,hy⟩))
theorem iG{l:List ah}(h:Rw l){v:ah}{x:ae}(hv:v∈l)(hx:x∈v.2.1):FJ l x=some v.1:=by
 have hf:(l.find? fun u=>decide (x∈u.2.1)).isSome=true:=by rw[List.find?_isSome];exact⟨v,hv,by simpa using hx⟩
 obtain⟨u,hu⟩:=Option.isSome_iff_exists.1 hf
 have h1:=List.mem_of_find?_eq_some hu
 have h2:x∈u.2.1:=by simpa using List.find?_some hu
 unfold FJ
 rw[hu,h.one hv h1 hx h2];rfl
theorem Io{l:List ah}{x:ae}(h:x∉au l):FJ l x=none:=by
 unfold FJ
 have:(l.find? fun u=>decide (x∈u.2.1))=none:=by
  rw[List.find?_eq_none];intro u hu hx
  exact h (bh.2 ⟨u,hu,by simpa using hx⟩)
 rw[this];rfl
theorem iS{d:aj}(h:bY d.1){v:ah}(hv:v∈d.1):aS d v.1=v.2.1:=by
 unfold aS aR;rw[kI h hv];rfl
theorem j0{d:aj}(h:Rw d.1){v:ah}{x:ae}(hv:v∈d.1)(hx:x∈v.2.1):aG d x=cf d v.1 (cC v.2.1 x):=by
 unfold aG bM
 rw[iG h hv hx]
 show cf d v.1 (cC (aS d v.1) x)=_
 rw[iS h.s hv]
theorem Cf{d:aj}(h:Rw d.1){v:ah}{x:ae}(y:ae)(hv:v∈d.1)(hx:x∈v.2.1):aH d x y=cf d v.1 (jF v.2.1 x y):=by
 unfold aH bM
 rw[iG h hv hx]
 show cf d v.1 (jF (aS d v.1) x y)=_
 rw[iS h.s hv]
theorem bY.re{l:List ah}(h:bY l)(x:ID)(r:List ae):bY (l.map (su x r)):=h.map (ry x r)
theorem Cg{l:List ah}{v:ah}(hs:bY l)(hv:v∈l):∃rest,(au l).Perm (v.2.1++rest)∧∀r,(au (l.map (su v.1 r))).Perm (r++rest):=by
 obtain⟨a,b,h1,_,_,h2⟩:=rB hs hv
 refine⟨au (a++b),?_,fun r=>?_⟩
 ·conv=>lhs;rw[h1]
  exact iR a b v
 ·rw[h2 r];exact iR a b (v.1,(r,v.2.2))
theorem fz{d:aj}(h:Rw d.1){x:ae}(hx:x∈au d.1):(au d.1).Perm (x::au (aG d x).1)∧Rw (aG d x).1:=by
 obtain⟨v,hv,jI⟩:=bh.1 hx
 obtain⟨rest,h1,h2⟩:=Cg h.s hv
 rw[j0 h hv jI]
 have p:(au d.1).Perm (x::au (cf d v.1 (cC v.2.1 x)).1) :=
  h1.trans ((List.Perm.append_right rest (sF jI (h.ring hv))).trans (List.Perm.cons x (h2 _).symm))
 exact⟨p,h.s.re _ _,(List.nodup_cons.1 (p.nodup_iff.1 h.n)).2⟩
theorem pZ{d:aj}(h:Rw d.1){x y:ae}(hx:x∈au d.1)(hy:y∉au d.1):(y::au d.1).Perm (x::au (aH d x y).1)∧Rw (aH d x y).1:=by
 obtain⟨v,hv,jI⟩:=bh.1 hx
 obtain⟨rest,h1,h2⟩:=Cg h.s hv
 rw[Cf h y hv jI]
 have TO:y∉v.2.1:=fun k=>hy (bh.2 ⟨v,hv,k⟩)
 have p:(y::au d.1).Perm (x::au (cf d v.1 (jF v.2.1 x y)).1) :=
  (List.Perm.cons y h1).trans ((List.Perm.append_right rest (Kz jI TO)).trans (List.Perm.cons x (h2 _).symm))
 refine⟨p,h.s.re _ _,?_⟩
 exact(List.nodup_cons.1 (p.nodup_iff.1 (List.nodup_cons.2 ⟨hy,h.n⟩))).2
theorem tq{d:aj}(h:Rw d.1){c:nF}{x:ae}{v:ah}(hv:ba d.1 c.1=some v)(hx:x∉au d.1):(au (bQ d c x).1).Perm (x::au d.1)∧Rw (bQ d c x).1:=by
 have UT:=gN hv
 have hvi:=kH hv
 obtain⟨rest,h1,h2⟩:=Cg h.s UT
 have jI:x∉v.2.1:=fun k=>hx (bh.2 ⟨v,UT,k⟩)
 have e:bQ d c x=cf d v.1 (mh v.2.1 c.2 x):=by
  unfold bQ
  rw[←hvi,iS h.s UT]
 rw[e]
 have p:(au (cf d v.1 (mh v.2.1 c.2 x)).1).Perm (x::au d.1) :=
  (h2 _).trans ((List.Perm.append_right rest (N1 c.2 jI)).trans (List.Perm.cons x h1.symm))
 exact⟨p,h.s.re _ _,p.nodup_iff.2 (List.nodup_cons.2 ⟨hx,h.n⟩)⟩
structure GV(v:ah):Prop where
 i:b4 v.1=true
 l:mG v.2.2.1=true
 a:kD v.2.2.2=true
 t:cw v.2.1=v.2.1
structure GE(e:ai):Prop where
 i:b4 e.1=true
 l:mG e.2.1=true
 a:kD e.2.2=true
structure Wf(d:aj):Prop where
 sv:bY d.1
 se:dk d.2
 nv:d.1.length≤24
 ne:d.2.length≤40
 gv:∀v∈d.1,GV v
 ge:∀e∈d.2,GE e
 pd:(au d.1).Perm (ends d.2)
theorem Wf.rw{d:aj}(h:Wf d):Rw d.1:=⟨h.sv,h.pd.nodup_iff.2 (pY h.se)⟩
theorem Wf.zero:Wf zS.1:=⟨List.Pairwise.nil,List.Pairwise.nil,by simp[zS],by simp[zS],by simp[zS],by simp[zS],List.Perm.refl _⟩
theorem GV.re{l:List ah}(h:∀v∈l,GV v)(x:ID){r:List ae}(hr:cw r=r):∀v∈l.map (su x r),GV v:=fun v hv=>by
 obtain⟨w,hw,rfl⟩:=List.mem_map.1 hv
 have g:=h w hw
 unfold su
 split
 ·exact⟨g.i,g.l,g.a,hr⟩
 ·exact g
theorem j4{d:aj}(h:∀v∈d.1,GV v)(x:ae):∀v∈(aG d x).1,GV v:=GV.re h _ (N0 _ _)
theorem ui{d:aj}(h:∀v∈d.1,GV v)(x y:ae):∀v∈(aH d x y).1,GV v:=GV.re h _ (Ky _ _ _)
theorem yP{d:aj}(h:∀v∈d.1,GV v)(c:nF)(y:ae):∀v∈(bQ d c y).1,GV v:=GV.re h _ (NZ _ _ _)
theorem fB(d:aj)(x:ID)(r:List ae):(cf d x r).1.length=d.1.length:=by unfold cf;simp
theorem Ej:b4 zI=false:=by decide
theorem vO{l:List ai}(h:∀e∈l,GE e):c6 l zI=l:=by
 unfold c6;rw[List.filter_eq_self];intro e he
 have:=(h e he).i
 simp;intro k;rw[k,Ej]at this;cases this
theorem vP{l:List ah}(h:∀e∈l,GV e):dA l zI=l:=by
 unfold dA;rw[List.filter_eq_self];intro e he
 have:=(h e he).i
 simp;intro k;rw[k,Ej]at this;cases this
theorem lA:mG e0=true:=by decide
theorem lB:kD 0=true:=by decide
theorem Ch{l:List ai}{x:ID}(h:aT l x=none)(s:Int):(x,s)∉ends l:=fun k=>by
 obtain⟨e,he,h1,_⟩:=cQ.1 k
 unfold aT at h
 rw[List.find?_eq_none]at h
 exact h e he (by simpa using h1)
theorem Ci{l:List ai}{x:ID}(h:(aT l x).isSome=true){s:Int}(hs:s=0∨s=1):(x,s)∈ends l:=by
 obtain⟨e,he⟩:=Option.isSome_iff_exists.1 h
 exact cQ.2 ⟨e,Ed he,rz he,hs⟩
end Go.Vs
namespace Go.Vs
open Go.Proofs
theorem KA{o:aZ}(h:bz o=0):b4 (aK o)=true:=by
 unfold bz at h
 split at h;· cases h
 split at h;· cases h
 split at h;· cases h
 rename_i h3;simpa using h3
theorem oL{o:aZ}(h:bz o=0):1≤o.1∧o.1≤8:=by
 unfold bz at h
 split at h;· cases h
 split at h;· cases h
 omega
theorem xx{o:aZ}(h:bz o=0)(hk:o.1=5):b4 (dM o)=true∧b4 (av o)=true∧0≤oN o∧oN o≤3:=by
 unfold bz at h
 split at h;· cases h
 split at h;· cases h
 split at h;· cases h
 split at h;· cases h
 rw[if_neg (show ¬o.1=3 by omega)]at h
 split at h
 ·assumption
 ·cases h
theorem KB{o:aZ}(h:bz o=0)(hk:o.1=6):b4 (av o)=true:=by
 unfold bz at h
 split at h;· cases h
 split at h;· cases h
 split at h;· cases h
 split at h;· cases h
 rw[if_neg (show ¬o.1=3 by omega),if_neg (show ¬o.1=5 by omega)]at h
 split at h
 ·assumption
 ·cases h
theorem Ip{o:aZ}(h:bz o=0)(hk:o.1=8):kD (oN o)=true:=by
 unfold bz at h
 split at h;· cases h
 split at h;· cases h
 split at h;· cases h
 split at h;· cases h
 rw[if_neg (show ¬o.1=3 by omega),if_neg (show ¬o.1=5 by omega),if_neg (show ¬o.1=6 by omega)]at h
 split at h
 ·assumption
 ·cases h
theorem Ek{o:aZ}(h:bz o=0)(hk:o.1=7):mG (kV o)=true:=by
 unfold bz at h
 split at h;· cases h
 split at h;· cases h
 split at h;· cases h
 split at h;· cases h
 rw[if_neg (show ¬o.1=3 by omega),if_neg (show ¬o.1=5 by omega),if_neg (show ¬o.1=6 by omega),if_neg (show ¬o.1=8 by omega)]at h
 split at h
 ·assumption
 ·cases h
def iU(l:List aA):Prop:=l.Pairwise fun a b=>kB a.1 b.1=true
theorem p4{a b:ae}:mg a b≤0↔a=b∨kB a b=true:=by
 unfold mg
 by_cases h:a=b
 ·subst h;simp
 ·rw[if_neg h];cases kB a b<;>simp[h]
theorem Cj{q g:aA}:∀{l:List aA},q∈lj g l→q=g∨(q∈l∧q.1≠g.1)
 |[],h=>by simp[lj]at h;exact .inl h
 |e::r,h=>by
  unfold lj at h
  split at h
  ·rcases List.mem_cons.1 h with h|h
   ·exact .inl h
   ·unfold nH at h
    rw[List.mem_filter]at h
    exact .inr ⟨h.1,by simpa using h.2⟩
  ·split at h
   ·rename_i br
    rcases List.mem_cons.1 h with rfl|h
    ·exact .inr ⟨List.mem_cons_self ..,br⟩
    ·rcases Cj h with h|⟨h,h2⟩
     ·exact .inl h
     ·exact .inr ⟨List.mem_cons_of_mem _ h,h2⟩
   ·rcases Cj h with h|⟨h,h2⟩
    ·exact .inl h
    ·exact .inr ⟨List.mem_cons_of_mem _ h,h2⟩
theorem iU.add(g:aA):∀{l:List aA},iU l→iU (lj g l)
 |[],_=>List.pairwise_singleton _ _
 |e::r,h=>by
  have hr:∀{q:aA},q∈r→kB e.1 q.1=true:=fun {q} hq=>List.rel_of_pairwise_cons h hq
  unfold lj
  split
  ·rename_i ho
   refine List.Pairwise.cons (fun q hq=>?_) (h.filter _)
   unfold nH at hq
   rw[List.mem_filter]at hq
   have br:q.1≠g.1:=by simpa using hq.2
   have hle:e.1=q.1∨kB e.1 q.1=true:=by
    rcases List.mem_cons.1 hq.1 with rfl|hq
    ·exact .inl rfl
    ·exact .inr (hr hq)
   rcases p4.1 ho with ho|ho
   ·rcases hle with k|k
    ·exact absurd (ho.trans k).symm br
    ·rw[ho];exact k
   ·rcases hle with k|k
    ·rw[←k];exact ho
    ·exact fO ho k
  ·rename_i ho
   have Jo:kB e.1 g.1=true:=by
    have h1:¬(g.1=e.1∨kB g.1 e.1=true):=fun k=>ho (p4.2 k)
    exact xt (by simpa using fun k=>h1 (.inr k)) (fun k=>h1 (.inl k))
   have hs:=iU.add g (List.Pairwise.of_cons h)
   split
   ·refine List.Pairwise.cons (fun q hq=>?_) hs
    rcases Cj hq with rfl|⟨hq,_⟩
    ·exact Jo
    ·exact hr hq
   ·exact hs
theorem p6(e:aA)(r:List aA)(x:ae):gu (e::r) x=if e.1=x then some e.2 else gu r x:=by
 unfold gu
 rw[List.find?_cons]
 by_cases h:e.1=x
 ·simp[h]
 ·simp[h]
theorem sG{g:aA}:∀{l:List aA},(∀q∈l,q.1≠g.1)→nH g l=l:=fun {l} h=>by
 unfold nH;rw[List.filter_eq_self];intro q hq;simpa using h q hq
theorem Iq(g:aA):∀{l:List aA},iU l→(lj g l).length=if(gu l g.1).isSome=true then l.length else l.length+1
 |[],_=>rfl
 |e::r,h=>by
  have hr:∀{q:aA},q∈r→kB e.1 q.1=true:=fun {q} hq=>List.rel_of_pairwise_cons h hq
  have ih:=Iq g (List.Pairwise.of_cons h)
  unfold lj
  split
  ·rename_i ho
   rcases p4.1 ho with ho|ho
   ·have h1:nH g (e::r)=r:=by
     have:nH g (e::r)=nH g r:=by unfold nH;rw[List.filter_cons_of_neg (by simp[ho])]
     rw[this]
     exact sG (fun q hq k=>by have:=hr hq;rw[k,ho,dN]at this;cases this)
    rw[h1,p6,if_pos ho.symm];simp
   ·have h2:∀q∈e::r,q.1≠g.1:=fun q hq k=>by
     have:kB g.1 q.1=true:=by
      rcases List.mem_cons.1 hq with rfl|hq
      ·exact ho
      ·exact fO ho (hr hq)
     rw[k,dN]at this;cases this
    have h3:gu (e::r) g.1=none:=by
     unfold gu
     have:(List.find? (fun q=>decide (q.1=g.1)) (e::r))=none:=by
      rw[List.find?_eq_none];intro q hq;simpa using h2 q hq
     rw[this];rfl
    rw[sG h2,h3];simp
  ·rename_i ho
   have br:e.1≠g.1:=fun k=>ho (p4.2 (.inl k.symm))
   rw[if_pos br,p6,if_neg br]
   simp only[List.length_cons,ih]
   split<;>rfl
theorem j5{l:List aA}(h:iU l)(hn:l.length≤400)(g:aA):iU (bN l g)∧(bN l g).length≤400:=by
 unfold bN
 split
 ·exact⟨h,hn⟩
 ·rename_i hc
  refine⟨iU.add g h,?_⟩
  rw[Iq g h]
  split
  ·exact hn
  ·rename_i h1
   by_cases h2:400≤l.length
   ·exact absurd ⟨by simpa using h1,h2⟩ hc
   ·omega
theorem xy{α:Type}{o:Option α}(h:¬o.isSome=false):o.isSome=true:=by cases o<;>simp_all
structure fH(s:StateT):Prop where
 d:Wf s.1
 g:iU s.2
 n:s.2.length≤400
theorem fH.zero:fH zS:=⟨Wf.zero,List.Pairwise.nil,by simp[zS]⟩
theorem fH.add{l:List aA}(h:iU l)(hn:l.length≤400){d:aj}(hd:Wf d)(g:aA):fH (d,bN l g):=⟨hd,(j5 h hn g).1,(j5 h hn g).2⟩
theorem N2{f:ah→ah}(hf:∀v,(f v).2.1=v.2.1)(l:List ah):au (l.map f)=au l:=by
 unfold au;rw[List.flatMap_map];congr 1;funext v;exact hf v
theorem R7{f:ai→ai}(hf:∀v,(f v).1=v.1)(l:List ai):ends (l.map f)=ends l:=by
 unfold ends;rw[List.flatMap_map];congr 1;funext v;rw[hf]
theorem Mb(o:aZ)(w:ai):(jW o w).1=w.1:=by unfold jW;split<;>(try split)<;>rfl
theorem N3(o:aZ)(w:ah):(jf o w).2.1=w.2.1:=by unfold jf;split<;>(try split)<;>rfl
theorem Wf.zZ{d:aj}(h:Wf d){x:ID}(hx:aT d.2 x=none)(s:Int):(x,s)∉au d.1:=fun k=>Ch hx s (h.pd.mem_iff.1 k)
theorem Wf.kR{d:aj}(h:Wf d){x:ID}(hx:(aT d.2 x).isSome=true){s:Int}(hs:s=0∨s=1):(x,s)∈au d.1:=h.pd.mem_iff.2 (Ci hx hs)
theorem Wf.xi{s:StateT}(h:Wf s.1){o:aZ}(hm:bz o=0)(hk:7≤o.1):Wf (xi s o).1.1:=by
 have hk8:=(oL hm).2
 unfold Vs.xi
 split
 ·refine⟨h.sv.map (L9 o),h.se.map (Mb o),by simp;exact h.nv,by simp;exact h.ne,fun v hv=>?_,fun e he=>?_,?_⟩
  ·obtain⟨w,hw,rfl⟩:=List.mem_map.1 hv
   have g:=h.gv w hw
   unfold jf
   split
   ·split
    ·rename_i h7
     exact⟨g.i,Ek hm h7,g.a,g.t⟩
    ·exact⟨g.i,g.l,Ip hm (by omega),g.t⟩
   ·exact g
  ·obtain⟨w,hw,rfl⟩:=List.mem_map.1 he
   have g:=h.ge w hw
   unfold jW
   split
   ·split
    ·rename_i h7
     exact⟨g.i,Ek hm h7,g.a⟩
    ·exact⟨g.i,g.l,Ip hm (by omega)⟩
   ·exact g
  ·show(au (s.1.1.map (jf o))).Perm (ends (s.1.2.map (jW o)))
   rw[N2 (N3 o),R7 (Mb o)];exact h.pd
 ·exact Wf.zero
theorem p7{s:StateT}{c:nF}(h:(bm s c).2.1=0):(aR s.1 c.1).isSome=true∧(bm s c).1.1=c.1:=by
 unfold bm at h ⊢
 cases hv:aR s.1 c.1 with
 |none=>rw[hv]at h;cases h
 |some v=>exact⟨rfl,rfl⟩
theorem vQ{l:List ah}{x y:ID}(r:List ae)(h:(ba l x).isSome=true):(ba (l.map (su y r)) x).isSome=true:=by
 rw[oI (ry y r)];simpa using h
theorem Wf.link{d:aj}(h:Wf d){x:ID}(hx:b4 x=true)(hn:aT d.2 x=none)(he:¬40≤d.2.length){a b:nF}(ha:(ba d.1 a.1).isSome=true)(hb:(ba d.1 b.1).isSome=true) :
  Wf (bQ (bQ (d.1,dw (x,(e0,0)) d.2) a (x,0)) b (x,1)):=by
 have hrw:Rw ((d.1,dw (x,(e0,0)) d.2):aj).1:=h.rw
 obtain⟨va,hva⟩:=Option.isSome_iff_exists.1 ha
 have h0:=h.zZ hn 0
 have h1:=h.zZ hn 1
 obtain⟨p1,q1⟩:=tq (c:=a) (x:=(x,0)) hrw hva h0
 obtain⟨vb,hvb⟩:=Option.isSome_iff_exists.1 (vQ (x:=b.1) (y:=a.1) (mh (aS (d.1,dw (x,(e0,0)) d.2) a.1) a.2 (x,0)) hb)
 have Tx:(x,1)∉au (bQ (d.1,dw (x,(e0,0)) d.2) a (x,0)).1:=fun k=>by
  rcases List.mem_cons.1 (p1.mem_iff.1 k) with k|k
  ·cases k
  ·exact h1 k
 obtain⟨p2,q2⟩:=tq (c:=b) (x:=(x,1)) q1 hvb Tx
 refine⟨q2.s,xq (x,(e0,0)) h.se hn,?_,?_,yP (yP h.gv _ _) _ _,fun e hem=>?_,?_⟩
 ·unfold bQ;rw[fB,fB];exact h.nv
 ·show(dw (x,(e0,0)) d.2).length≤40
  rw[kF];omega
 ·rcases oF.1 (show e∈dw (x,(e0,0)) d.2 from hem) with rfl|hem
  ·exact⟨hx,lA,lB⟩
  ·exact h.ge e hem
 ·show(au _).Perm (ends (dw (x,(e0,0)) d.2))
  refine(p2.trans (List.Perm.cons _ p1)).trans (List.Perm.trans ?_ (Ei (x,(e0,0)) d.2).symm)
  exact(List.Perm.swap _ _ _).trans (List.Perm.cons _ (List.Perm.cons _ h.pd))
theorem Wf.cut{d:aj}(h:Wf d){x:ID}(hx:(aT d.2 x).isSome=true):Wf (bf (aG (aG d (x,0)) (x,1)) zI x):=by
 have h0:=h.kR hx (s:=0) (.inl rfl)
 have h1:=h.kR hx (s:=1) (.inr rfl)
 obtain⟨p1,q1⟩:=fz h.rw h0
 have Tx:(x,1)∈au (aG d (x,0)).1:=by
  rcases List.mem_cons.1 (p1.mem_iff.1 h1) with k|k
  ·cases k
  ·exact k
 obtain⟨p2,q2⟩:=fz q1 Tx
 have OZ:=j4 (j4 h.gv (x,0)) (x,1)
 have UU:(bf (aG (aG d (x,0)) (x,1)) zI x).1=(aG (aG d (x,0)) (x,1)).1:=vP OZ
 refine⟨by rw[UU];exact q2.s,uf h.se,?_,?_,by rw[UU];exact OZ,fun e he=>h.ge e ?_,?_⟩
 ·rw[UU];unfold aG;rw[fB,fB];exact h.nv
 ·exact Nat.le_trans (List.length_filter_le _ _) h.ne
 ·exact(List.mem_filter.1 (show e∈d.2.filter fun w=>decide (w.1≠x) from he)).1
 ·rw[UU]
  show(au (aG (aG d (x,0)) (x,1)).1).Perm (ends (c6 d.2 x))
  have p3:((x,0)::(x,1)::au (aG (aG d (x,0)) (x,1)).1).Perm ((x,0)::(x,1)::ends (c6 d.2 x)) :=
   ((p1.trans (List.Perm.cons _ p2)).symm.trans h.pd).trans (Ce h.se hx)
  exact p3.cons_inv.cons_inv
theorem iV{x:ae}(h:x.2=0∨x.2=1):(ar x).1=x.1∧((x.2=0∧(ar x).2=1)∨(x.2=1∧(ar x).2=0)):=by
 refine⟨rfl,?_⟩
 unfold ar
 rcases h with h|h
 ·exact .inl ⟨h,by rw[h];rfl⟩
 ·exact .inr ⟨h,by rw[h];rfl⟩
theorem Ir{x:ae}(h:x.2=0∨x.2=1)(l:List ae):(x::ar x::l).Perm ((x.1,0)::(x.1,1)::l):=by
 obtain⟨h1,h2⟩:=iV h
 have e:x=(x.1,x.2):=rfl
 have e2:ar x=(x.1,(ar x).2):=rfl
 rcases h2 with⟨ha,hb⟩|⟨ha,hb⟩
 ·rw[ha]at e;rw[hb]at e2;rw[e2,e]
 ·rw[ha]at e;rw[hb]at e2;rw[e2,e];exact List.Perm.swap _ _ _
theorem Is{n:Int}(h0:0≤n)(h3:n≤3):(IntKind.wrap .i64 (1-Int.tmod n 2)=0∨IntKind.wrap .i64 (1-Int.tmod n 2)=1)∧(IntKind.wrap .i64 (Int.tdiv n 2)=0∨IntKind.wrap .i64 (Int.tdiv n 2)=1):=by
 have:n=0∨n=1∨n=2∨n=3:=by omega
 rcases this with rfl|rfl|rfl|rfl<;>exact⟨by decide,by decide⟩
theorem Wf.split{d:aj}(h:Wf d){m k:ae}{v:ID}(hv:b4 v=true)(hk:b4 k.1=true)(TF:m.2=0∨m.2=1)(oT:k.2=0∨k.2=1)(hm:(aT d.2 m.1).isSome=true)(TY:ba d.1 v=none)(hnk:aT d.2 k.1=none)
  (OX:¬24≤d.1.length) (hle:¬40≤d.2.length):Wf (eI (v,(cw [m,k],(e0,0))) (aH d m (ar k)).1,dw (k.1,(e0,0)) (aH d m (ar k)).2):=by
 have hmd:m∈au d.1:=h.kR hm TF
 have Jn:ar k∉au d.1:=h.zZ hnk _
 obtain⟨p1,q1⟩:=pZ h.rw hmd Jn
 have UW:ba (aH d m (ar k)).1 v=none:=by
  unfold aH Vs.cf
  rw[oI (ry _ _),TY];rfl
 refine⟨oH (v,(cw [m,k],(e0,0))) q1.s UW,xq (k.1,(e0,0)) h.se hnk,?_,?_,fun w hw=>?_,fun e he=>?_,?_⟩
 ·show(eI _ (aH d m (ar k)).1).length≤24
  rw[gy];unfold aH;rw[fB];omega
 ·show(dw _ d.2).length≤40
  rw[kF];omega
 ·rcases mj.1 hw with rfl|hw
  ·exact⟨hv,lA,lB,sE _⟩
  ·exact ui h.gv _ _ w hw
 ·rcases oF.1 (show e∈dw (k.1,(e0,0)) d.2 from he) with rfl|he
  ·exact⟨hk,lA,lB⟩
  ·exact h.ge e he
 ·show(au (eI _ _)).Perm (ends (dw (k.1,(e0,0)) d.2))
  refine(Cd _ _).trans (List.Perm.trans ?_ (Ei (k.1,(e0,0)) d.2).symm)
  refine(List.Perm.append_right _ (jY [m,k])).trans ?_
  show(m::k::au (aH d m (ar k)).1).Perm _
  refine(List.Perm.swap k m _).trans ((List.Perm.cons k p1.symm).trans ?_)
  refine(Ir oT _).trans ?_
  exact List.Perm.cons _ (List.Perm.cons _ h.pd)
theorem Wf.R8{d:aj}(h:Wf d){v:ah}(hv:v∈d.1)(hr:v.2.1=[]):Wf (bf d v.1 zI):=by
 obtain⟨a,b,h1,_,h2,_⟩:=rB h.sv hv
 refine⟨pW h.sv,?_,Nat.le_trans (List.length_filter_le _ _) h.nv,Nat.le_trans (List.length_filter_le _ _) h.ne,fun w hw=>h.gv w ?_,fun e he=>h.ge e ?_,?_⟩
 ·exact uf h.se
 ·exact(List.mem_filter.1 (show w∈d.1.filter fun w=>decide (w.1≠v.1) from hw)).1
 ·exact(List.mem_filter.1 (show e∈d.2.filter fun w=>decide (w.1≠zI) from he)).1
 ·show(au (dA d.1 v.1)).Perm (ends (c6 d.2 zI))
  rw[h2,vO h.ge]
  have p:=iR a b v
  rw[←h1,hr,List.nil_append]at p
  exact p.symm.trans h.pd
theorem Wf.X6{d:aj}(h:Wf d){v:ah}{a b:ae}(hv:v∈d.1)(hr:v.2.1.Perm [a,b])(nO:a.1≠b.1):Wf (bf (aH (bf d v.1 zI) (ar b) a) zI b.1):=by
 obtain⟨p,q,h1,_,h2,_⟩:=rB h.sv hv
 have pd:(au d.1).Perm (a::b::au (p++q)):=by
  have:=(iR p q v).trans (List.Perm.append_right _ hr)
  rw[←h1]at this;exact this
 have N4:bf d v.1 zI=(p++q,d.2):=by unfold bf;rw[h2,vO h.ge]
 have DM:=pd.nodup_iff.1 h.rw.n
 have hbm:b∈ends d.2:=h.pd.mem_iff.1 (pd.mem_iff.2 (by simp))
 obtain⟨e,he,ZM,zr⟩:=cQ.1 hbm
 have zF:(aT d.2 b.1).isSome=true:=by
  unfold aT;rw[List.find?_isSome];exact⟨e,he,by simpa using ZM⟩
 obtain⟨_,ho⟩:=iV zr
 have X7:ar b∈au (p++q):=by
  have h3:ar b∈au d.1:=h.kR (s:=(ar b).2) zF (by rcases ho with⟨_,k⟩|⟨_,k⟩<;>omega)
  rcases List.mem_cons.1 (pd.mem_iff.1 h3) with k|k
  ·exact absurd (congrArg Prod.fst k) (fun k=>nO k.symm)
  rcases List.mem_cons.1 k with k|k
  ·have:=congrArg Prod.snd k;omega
  ·exact k
 have UX:Rw (p++q):=by
  refine⟨?_,(List.nodup_cons.1 (List.nodup_cons.1 DM).2).2⟩
  rw[←h2];exact pW h.sv
 have ha:a∉au (p++q):=fun k=>(List.nodup_cons.1 DM).1 (List.mem_cons_of_mem _ k)
 rw[N4]
 obtain⟨p1,q1⟩:=pZ (d:=(p++q,d.2)) UX X7 ha
 have OZ:∀w∈(aH (p++q,d.2) (ar b) a).1,GV w:=by
  refine ui (d:=(p++q,d.2)) (fun w hw=>h.gv w ?_) _ _
  rw[h1]
  rcases List.mem_append.1 hw with k|k
  ·exact List.mem_append_left _ k
  ·exact List.mem_append_right _ (List.mem_cons_of_mem _ k)
 have UU:(bf (aH (p++q,d.2) (ar b) a) zI b.1).1=(aH (p++q,d.2) (ar b) a).1:=vP OZ
 refine⟨by rw[UU];exact q1.s,uf h.se,?_,Nat.le_trans (List.length_filter_le _ _) h.ne,by rw[UU];exact OZ,fun f hf=>h.ge f ?_,?_⟩
 ·rw[UU];unfold aH;rw[fB]
  have:=h.nv
  rw[h1]at this
  simp at this ⊢;omega
 ·exact(List.mem_filter.1 (show f∈d.2.filter fun w=>decide (w.1≠b.1) from hf)).1
 ·rw[UU]
  show(au (aH (p++q,d.2) (ar b) a).1).Perm (ends (c6 d.2 b.1))
  have p3:(b::ar b::au (aH (p++q,d.2) (ar b) a).1).Perm (b::ar b::ends (c6 d.2 b.1)):=by
   refine List.Perm.trans (List.Perm.cons b p1.symm) ?_
   refine(List.Perm.swap a b _).trans (pd.symm.trans (h.pd.trans ?_))
   exact(Ce h.se zF).trans (Ir zr _).symm
  exact p3.cons_inv.cons_inv
theorem fH.one{s:StateT}(h:fH s)(o:aZ):fH (dX s o).1:=by
 unfold dX
 split
 ·exact fH.zero
 rename_i hm
 have hm:bz o=0:=Classical.byContradiction fun k=>hm k
 have bO:=KA hm
 split
 ·unfold ql
  split;· exact fH.zero
  split;· exact fH.zero
  rename_i h1 h2
  have hn:ba s.1.1 (aK o)=none:=by simpa[aR] using h1
  refine⟨⟨oH _ h.d.sv hn,h.d.se,by show(eI _ s.1.1).length≤24;rw[gy];omega,h.d.ne,fun w hw=>?_,h.d.ge,?_⟩,h.g,h.n⟩
  ·rcases mj.1 hw with rfl|hw
   ·exact⟨bO,lA,lB,rfl⟩
   ·exact h.d.gv w hw
  ·exact(Cd _ _).trans h.d.pd
 split
 ·unfold yN
  cases hv:aR s.1 (aK o) with
  |none=>exact fH.zero
  |some v =>
   simp only
   split
   ·exact fH.zero
   ·rename_i hr
    have:=h.d.R8 (gN hv) (by simpa using hr)
    rw[kH hv]at this
    exact⟨this,h.g,h.n⟩
 split
 ·unfold oG
  split;· exact fH.zero
  split;· exact fH.zero
  split;· exact fH.zero
  split;· exact fH.zero
  split;· exact fH.zero
  rename_i h1 h2 h3 h4 h5
  have hn:aT s.1.2 (aK o)=none:=by simpa[cJ] using h1
  obtain⟨ca,ca2⟩:=p7 (s:=s) (c:=oA o) (Classical.byContradiction fun k=>h3 k)
  obtain⟨cb,cb2⟩:=p7 (s:=s) (c:=oB o) (Classical.byContradiction fun k=>h4 k)
  refine⟨?_,h.g,h.n⟩
  unfold gD
  refine h.d.link bO hn h2 (by rw[ca2];exact ca) ?_
  split
  ·exact cb
  ·rw[cb2];exact cb
 split
 ·unfold Dm
  split;· exact fH.zero
  rename_i h1
  have h2:=j5 h.g h.n ((aK o,0),dm s.1 (aK o,0))
  exact fH.add h2.1 h2.2 (h.d.cut (xy h1)) _
 split
 ·rename_i hk
  unfold ml
  split;· exact fH.zero
  split;· exact fH.zero
  split;· exact fH.zero
  split;· exact fH.zero
  split;· exact fH.zero
  rename_i h1 h2 h3 h4 h5
  obtain⟨m1,m2,m3,m4⟩:=xx hm hk
  obtain⟨s1,s2⟩:=Is m3 m4
  refine⟨?_,h.g,h.n⟩
  exact h.d.split (m:=Jq o) (k:=Gj o) m1 m2 s1 s2 (xy h1) (by simpa[aR] using h2) (by simpa[cJ,Gj] using h3) h4 h5
 split
 ·unfold kc
  split
  ·exact fH.zero
  ·rename_i v hv
   split
   ·rename_i r0 r1 hr
    have UT:=gN hv
    have hvi:=kH hv
    have key:∀a b:ae,v.2.1.Perm [a,b]→a.1≠b.1→fH (Ku s o a b,Ij s.2 a b):=fun a b hp nO=>by
     have h2:=j5 h.g h.n ((b.1,0),qx a b 0)
     have:=h.d.X6 UT hp nO
     rw[hvi]at this
     exact fH.add h2.1 h2.2 this _
    unfold jz
    split;· exact fH.zero
    rename_i br
    split
    ·exact key r1 r0 (by rw[hr];exact List.Perm.swap _ _ _) (fun k=>br k.symm)
    split
    ·exact key r0 r1 (by rw[hr]) br
    ·exact fH.zero
   ·exact fH.zero
 ·rename_i k1 k2 k3 k4 k5 k6
  have hk:=oL hm
  have:=h.d.xi hm (by omega)
  refine⟨this,?_,?_⟩
  ·unfold xi;split
   ·exact h.g
   ·exact List.Pairwise.nil
  ·unfold xi;split
   ·exact h.n
   ·simp[zS]
theorem fH.go:∀(l:List aZ) {s:StateT},fH s→fH (vM l s).1
 |[],s,h=>h
 |o::r,s,h=>by
  unfold vM
  split
  ·exact fH.zero
  ·exact fH.go r (h.one o)
theorem fH.apply{s:StateT}(h:fH s)(l:List aZ):fH (cH s l).1:=by
 unfold cH
 split
 ·exact fH.zero
 ·exact fH.go l h
theorem fH.try{s:StateT}(h:fH s)(l:List aZ):fH (mH s l):=by
 unfold mH
 split
 ·exact h
 ·exact h.apply l
theorem fH.reach:∀(m:Nat) (l:List (List aZ)) {s:StateT},fH s→fH (mn m l s)
 |0,_,s,h=>by simpa[mn] using h
 |m+1,[],s,h=>h
 |m+1,l::r,s,h=>by rw[mn];exact fH.reach m r (h.try _)
theorem fH.L8(l:List (List aZ)):fH (B8 l):=fH.reach 30 l fH.zero
end Go.Vs
