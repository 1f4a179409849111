/- Diagrams that are well formed -/
import Derived.Test.YtpkfpbpbkabkdaaGreatRings
set_option linter.unusedVariables false
set_option linter.unusedSimpArgs false
namespace Go.Vs
open Go.Proofs
theorem j0(row:List ae):(cw row).Perm row:=by unfold cw Dp;exact aeQ.trans (List.Perm.of_eq (List.take_append_drop _ _))
theorem OP{row:List ae}(h:0<row.length)(hl:∀j,(hj:j<row.length)→kF row[j] row[0]=false):fL row row 0 0=0:=by
 have hm:=pZ row row 0 0 h (by omega);have h2:=(uA h).2 0;by_cases hz:fL row row 0 0=0
 ·exact hz
 ·have:=h2 (by omega) h;rw[qb hm,hl _ hm]at this;cases this
theorem SU(row:List ae):Dp row 0=row:=by unfold Dp;simp
theorem sJ(row:List ae):cw (cw row)=cw row:=by
 by_cases h0:row.length=0
 ·have:row=[]:=by simpa using h0
  subst this;rfl
 have hp:0<row.length:=by omega
 have hm:=pZ row row 0 0 hp (by omega);have hp2:0<(cw row).length:=by rw[gx];exact hp
 have h1:(cw row)[0]=row.getD (fL row row 0 0) zD:=by have:=MM (row:=row) (k:=fL row row 0 0) (i:=0) (by omega) hp;rw[Nat.add_zero,Nat.mod_eq_of_lt hm,List.getElem?_eq_getElem hm]at this;rw[qb hm];exact(aci.1 this).2
 have h2:fL (cw row) (cw row) 0 0=0:=by refine OP hp2 (fun j hj=>?_);rw[h1];have gV:(cw row)[j]∈row:=IT.1 (adv hj);obtain⟨i,hi,he⟩:=aeO gV;rw[←he];exact(uA hp).1 i hi
 unfold cw at h2 ⊢;rw[h2,SU]
theorem OQ(row:List ae)(a d:ae):cw (mq row a d)=mq row a d:=by unfold mq;split<;>exact sJ _
theorem OR(row:List ae)(d:ae):cw (cx row d)=cx row d:=sJ _
theorem Ld(row:List ae)(a d:ae):cw (jI row a d)=jI row a d:=sJ _
theorem OT{row:List ae}{d:ae}(a:ae)(h:d∉row):(mq row a d).Perm (d::row):=by unfold mq;rw[if_neg h];refine(j0 _).trans (aeP.trans ?_);rw[List.take_append_drop]
theorem sK{row:List ae}{d:ae}(h:d∈row)(hn:row.Nodup):row.Perm (d::cx row d):=by
 obtain⟨k,_,h2,_⟩:=fK h;obtain⟨h3,h4⟩:=aci.1 h2;unfold cx;rw[xO hn h2];refine List.Perm.trans ?_ (List.Perm.cons d (j0 _).symm)
 conv=>lhs;rw[←List.take_append_drop k row,List.drop_eq_getElem_cons h3,h4]
 exact aeP
theorem Le{row:List ae}{cV d:ae}(h:cV∈row)(hd:d∉row):(d::row).Perm (cV::jI row cV d):=by
 obtain⟨k,h1,h2,_⟩:=fK h;obtain⟨h3,h4⟩:=aci.1 h2;unfold jI;rw[if_pos ⟨h,hd⟩,h1,Int.toNat_natCast];refine List.Perm.trans ?_ (List.Perm.cons cV (j0 _).symm);rw[List.set_eq_take_append_cons_drop,if_pos h3]
 conv=>lhs;rw[←List.take_append_drop k row,List.drop_eq_getElem_cons h3,h4]
 have p1:(row.take k++cV::row.drop (k+1)).Perm (cV::(row.take k++row.drop (k+1))):=aeP;have p2:(row.take k++d::row.drop (k+1)).Perm (d::(row.take k++row.drop (k+1))):=aeP;exact(List.Perm.cons d p1).trans ((List.Perm.swap cV d _).trans (List.Perm.cons cV p2.symm))
def ax(l:List ah):List ae:=l.flatMap fun v=>v.2.1
def ends(l:List ai):List ae:=l.flatMap fun e=>[(e.1,0),(e.1,1)]
theorem iI(v:ah)(l:List ah):ax (v::l)=v.2.1++ax l:=List.flatMap_cons
theorem oR(a b:List ah):ax (a++b)=ax a++ax b:=List.flatMap_append
theorem iS(a b:List ah)(v:ah):(ax (a++v::b)).Perm (v.2.1++ax (a++b)):=by rw[oR,iI,oR,←List.append_assoc,←List.append_assoc];exact aex _ aeQ
theorem bh{x:ae}{l:List ah}:x∈ax l↔∃v∈l,x∈v.2.1:=List.mem_flatMap
theorem j4(e:ai)(l:List ai):ends (e::l)=(e.1,0)::(e.1,1)::ends l:=by unfold ends;rw[List.flatMap_cons];rfl
theorem cG{x:ae}{l:List ai}:x∈ends l↔∃e∈l,e.1=x.1∧(x.2=0∨x.2=1):=by
 unfold ends;rw[List.mem_flatMap];constructor
 ·rintro⟨e,he,hx⟩;rcases acp.1 hx with rfl|hx
  ·exact⟨e,he,rfl,.inl rfl⟩
  ·rw[List.mem_singleton]at hx;subst hx;exact⟨e,he,rfl,.inr rfl⟩
 ·rintro⟨e,he,h1,h2⟩;refine⟨e,he,?_⟩;obtain⟨x1,x2⟩:=x;simp only at h1 h2;subst h1;rcases h2 with rfl|rfl<;>simp
theorem qc:∀{l:List ai},dr l→(ends l).Nodup
 |[],_=>List.nodup_nil
 |e::r,h=>by
  have bw:∀s:Int,(e.1,s)∉ends r:=fun s hs=>by obtain⟨f,hf,h1,_⟩:=cG.1 hs;have:=adF h hf;simp only at h1;rw[h1,ck]at this;cases this
  rw[j4];refine adi.2 ⟨?_,adi.2 ⟨bw 1,qc h.of_cons⟩⟩;rw[List.mem_cons];rintro(h1|h1)
  ·cases h1
  ·exact bw 0 h1
theorem EM(e:ai):∀l:List ai,(dA e l).Perm (e::l)
 |[]=>aeW _
 |w::r=>by
  unfold dA
  split
  ·exact aeW _
  ·exact(List.Perm.cons w (EM e r)).trans (List.Perm.swap e w r)
theorem EN(e:ah):∀l:List ah,(eL e l).Perm (e::l)
 |[]=>aeW _
 |w::r=>by
  unfold eL
  split
  ·exact aeW _
  ·exact(List.Perm.cons w (EN e r)).trans (List.Perm.swap e w r)
theorem EO(e:ai)(l:List ai):(ends (dA e l)).Perm ((e.1,0)::(e.1,1)::ends l):=by rw[←j4];exact List.Perm.flatMap_right _ (EM e l)
theorem CF(v:ah)(l:List ah):(ax (eL v l)).Perm (v.2.1++ax l):=by rw[←iI];exact List.Perm.flatMap_right _ (EN v l)
theorem CG{l:List ai}{x:ID}(hs:dr l)(h:(aX l x).isSome=true):(ends l).Perm ((x,0)::(x,1)::ends (db l x)):=by
 obtain⟨e,he⟩:=adq.1 h;obtain⟨h3,h4⟩:=aci.1 (mz hs he);rw[xK hs h]
 conv=>lhs;rw[←List.take_append_drop (cf l x) l,List.drop_eq_getElem_cons h3,h4]
 rw[←rF he,←j4];exact List.Perm.flatMap_right _ aeP
theorem ij{l:List ah}{v:ah}(hs:b8 l)(h:v∈l):bg l v.1=some v:=by
 have hf:(bg l v.1).isSome=true:=by unfold bg;rw[List.find?_isSome];exact⟨v,h,by simp⟩
 obtain⟨u,hu⟩:=adq.1 hf;have h1:=dn hs hu;obtain⟨k,hk,he⟩:=aeO h;have h2:l[k]? = some v:=by rw[List.getElem?_eq_getElem hk,he]
 rw[jZ hs h2 rfl,h1]at h2;rw[hu];exact h2
theorem rG{l:List ah}{v:ah}(hs:b8 l)(h:v∈l):∃a b,l=a++v::b∧(∀u∈a++b,u.1≠v.1)∧dE l v.1=a++b∧∀r,l.map (sB v.1 r)=a++(v.1,(r,v.2.2))::b:=by
 obtain⟨a,b,rfl⟩:=aeC h;have hp:=List.pairwise_append.1 hs;have hb:=List.pairwise_cons.1 hp.2.1;have bw:∀u∈a++b,u.1≠v.1:=fun u hu e=>by
  rcases ac8.1 hu with hu|hu
  ·have:=hp.2.2 u hu v (by simp);rw[e,ck]at this;cases this
  ·have:=hb.1 u hu;rw[e,ck]at this;cases this
 have hm:∀(r:List ae) (c:List ah),(∀u∈c,u.1≠v.1)→c.map (sB v.1 r)=c:=fun r c hc=>by
  conv=>rhs;rw[←List.map_id c]
  exact ae0 fun u hu=>by unfold sB;rw[if_neg (hc u hu)];rfl
 have hd:∀c:List ah,(∀u∈c,u.1≠v.1)→dE c v.1=c:=fun c hc=>by unfold dE;rw[List.filter_eq_self];intro u hu;simpa using hc u hu
 refine⟨a,b,rfl,bw,?_,fun r=>?_⟩
 ·unfold dE;rw[List.filter_append,List.filter_cons_of_neg (by simp)];have h1:=hd a (fun u hu=>bw u (acq _ hu));have h2:=hd b (fun u hu=>bw u (ac2 _ hu));unfold dE at h1 h2;rw[h1,h2]
 ·rw[List.map_append,List.map_cons,hm r a (fun u hu=>bw u (List.mem_append_left _ hu)),hm r b (fun u hu=>bw u (List.mem_append_right _ hu))];unfold sB;rw[if_pos rfl]
structure Rw(l:List ah):Prop where
 s:b8 l
 n:(ax l).Nodup
theorem Rw.ring{l:List ah}(h:Rw l){v:ah}(hv:v∈l):v.2.1.Nodup:=by obtain⟨a,b,rfl,_⟩:=rG h.s hv;exact(aeA.1 ((iS a b v).nodup_iff.1 h.n)).1
theorem Rw.one{l:List ah}(h:Rw l){v w:ah}{x:ae}(hv:v∈l)(hw:w∈l)(hx:x∈v.2.1)(hy:x∈w.2.1):w=v:=by
 obtain⟨a,b,rfl,_⟩:=rG h.s hv;have hn:=aeA.1 ((iS a b v).nodup_iff.1 h.n);have:w∈a++v::b:=hw;rw[List.mem_append,List.mem_cons]at this;rcases this with k|k|k
 ·exact absurd rfl (hn.2.2 x hx x (bh.2 ⟨w,acq _ k,hy⟩))
 ·exact k
 ·exact absurd rfl (hn.2.2 x hx x (bh.2 ⟨w,ac2 _ k,hy⟩))
theorem iJ{l:List ah}(h:Rw l){v:ah}{x:ae}(hv:v∈l)(hx:x∈v.2.1):Gn l x=some v.1:=by
 have hf:(l.find? fun u=>decide (x∈u.2.1)).isSome=true:=by rw[List.find?_isSome];exact⟨v,hv,by simpa using hx⟩
 obtain⟨u,hu⟩:=adq.1 hf;have h1:=ady hu;have h2:x∈u.2.1:=by simpa using aeE hu
 unfold Gn;rw[hu,h.one hv h1 hx h2];rfl
theorem I3{l:List ah}{x:ae}(h:x∉ax l):Gn l x=none:=by
 unfold Gn;have:(l.find? fun u=>decide (x∈u.2.1))=none:=by rw[List.find?_eq_none];intro u hu hx;exact h (bh.2 ⟨u,hu,by simpa using hx⟩)
 rw[this];rfl
theorem iU{d:aj}(h:b8 d.1){v:ah}(hv:v∈d.1):aW d v.1=v.2.1:=by unfold aW aQ;rw[ij h hv];rfl
theorem j5{d:aj}(h:Rw d.1){v:ah}{x:ae}(hv:v∈d.1)(hx:x∈v.2.1):aJ d x=cm d v.1 (cx v.2.1 x):=by unfold aJ bP;rw[iJ h hv hx];show cm d v.1 (cx (aW d v.1) x)=_;rw[iU h.s hv]
theorem CH{d:aj}(h:Rw d.1){v:ah}{x:ae}(y:ae)(hv:v∈d.1)(hx:x∈v.2.1):aK d x y=cm d v.1 (jI v.2.1 x y):=by unfold aK bP;rw[iJ h hv hx];show cm d v.1 (jI (aW d v.1) x y)=_;rw[iU h.s hv]
theorem b8.re{l:List ah}(h:b8 l)(x:ID)(r:List ae):b8 (l.map (sB x r)):=h.map (rE x r)
theorem CI{l:List ah}{v:ah}(hs:b8 l)(hv:v∈l):∃rest,(ax l).Perm (v.2.1++rest)∧∀r,(ax (l.map (sB v.1 r))).Perm (r++rest):=by
 obtain⟨a,b,h1,_,_,h2⟩:=rG hs hv;refine⟨ax (a++b),?_,fun r=>?_⟩
 ·conv=>lhs;rw[h1]
  exact iS a b v
 ·rw[h2 r];exact iS a b (v.1,(r,v.2.2))
theorem fF{d:aj}(h:Rw d.1){x:ae}(hx:x∈ax d.1):(ax d.1).Perm (x::ax (aJ d x).1)∧Rw (aJ d x).1:=by obtain⟨v,hv,jF⟩:=bh.1 hx;obtain⟨rest,h1,h2⟩:=CI h.s hv;rw[j5 h hv jF];have p:(ax d.1).Perm (x::ax (cm d v.1 (cx v.2.1 x)).1) :=h1.trans ((aex rest (sK jF (h.ring hv))).trans (List.Perm.cons x (h2 _).symm));exact⟨p,h.s.re _ _,(adi.1 (p.nodup_iff.1 h.n)).2⟩
theorem qd{d:aj}(h:Rw d.1){x y:ae}(hx:x∈ax d.1)(hy:y∉ax d.1):(y::ax d.1).Perm (x::ax (aK d x y).1)∧Rw (aK d x y).1:=by obtain⟨v,hv,jF⟩:=bh.1 hx;obtain⟨rest,h1,h2⟩:=CI h.s hv;rw[CH h y hv jF];have Us:y∉v.2.1:=fun k=>hy (bh.2 ⟨v,hv,k⟩);have p:(y::ax d.1).Perm (x::ax (cm d v.1 (jI v.2.1 x y)).1) :=(List.Perm.cons y h1).trans ((aex rest (Le jF Us)).trans (List.Perm.cons x (h2 _).symm));refine⟨p,h.s.re _ _,?_⟩;exact(adi.1 (p.nodup_iff.1 (adi.2 ⟨hy,h.n⟩))).2
theorem tC{d:aj}(h:Rw d.1){c:ng}{x:ae}{v:ah}(hv:bg d.1 c.1=some v)(hx:x∉ax d.1):(ax (bV d c x).1).Perm (x::ax d.1)∧Rw (bV d c x).1:=by
 have SV:=gP hv;have hvi:=kL hv;obtain⟨rest,h1,h2⟩:=CI h.s SV;have jF:x∉v.2.1:=fun k=>hx (bh.2 ⟨v,SV,k⟩);have e:bV d c x=cm d v.1 (mq v.2.1 c.2 x):=by unfold bV;rw[←hvi,iU h.s SV]
 rw[e];have p:(ax (cm d v.1 (mq v.2.1 c.2 x)).1).Perm (x::ax d.1) :=(h2 _).trans ((aex rest (OT c.2 jF)).trans (List.Perm.cons x h1.symm));exact⟨p,h.s.re _ _,p.nodup_iff.2 (adi.2 ⟨hx,h.n⟩)⟩
structure GV(v:ah):Prop where
 i:cd v.1=true
 l:mN v.2.2.1=true
 a:kH v.2.2.2=true
 t:cw v.2.1=v.2.1
structure GE(e:ai):Prop where
 i:cd e.1=true
 l:mN e.2.1=true
 a:kH e.2.2=true
structure Wf(d:aj):Prop where
 sv:b8 d.1
 se:dr d.2
 nv:d.1.length≤24
 ne:d.2.length≤40
 gv:∀v∈d.1,GV v
 ge:∀e∈d.2,GE e
 pd:(ax d.1).Perm (ends d.2)
theorem Wf.rw{d:aj}(h:Wf d):Rw d.1:=⟨h.sv,h.pd.nodup_iff.2 (qc h.se)⟩
theorem Wf.zero:Wf zS.1:=⟨List.Pairwise.nil,List.Pairwise.nil,by simp[zS],by simp[zS],by simp[zS],by simp[zS],aeW _⟩
theorem GV.re{l:List ah}(h:∀v∈l,GV v)(x:ID){r:List ae}(hr:cw r=r):∀v∈l.map (sB x r),GV v:=fun v hv=>by
 obtain⟨w,hw,rfl⟩:=adE.1 hv;have g:=h w hw;unfold sB
 split
 ·exact⟨g.i,g.l,g.a,hr⟩
 ·exact g
theorem j6{d:aj}(h:∀v∈d.1,GV v)(x:ae):∀v∈(aJ d x).1,GV v:=GV.re h _ (OR _ _)
theorem uB{d:aj}(h:∀v∈d.1,GV v)(x y:ae):∀v∈(aK d x y).1,GV v:=GV.re h _ (Ld _ _ _)
theorem zj{d:aj}(h:∀v∈d.1,GV v)(c:ng)(y:ae):∀v∈(bV d c y).1,GV v:=GV.re h _ (OQ _ _ _)
theorem fG(d:aj)(x:ID)(r:List ae):(cm d x r).1.length=d.1.length:=by unfold cm;simp
theorem EP:cd zI=false:=by decide
theorem wb{l:List ai}(h:∀e∈l,GE e):db l zI=l:=by unfold db;rw[List.filter_eq_self];intro e he;have:=(h e he).i;simp;intro k;rw[k,EP]at this;cases this
theorem wc{l:List ah}(h:∀e∈l,GV e):dE l zI=l:=by unfold dE;rw[List.filter_eq_self];intro e he;have:=(h e he).i;simp;intro k;rw[k,EP]at this;cases this
theorem lE:mN e0=true:=by decide
theorem lF:kH 0=true:=by decide
theorem CJ{l:List ai}{x:ID}(h:aX l x=none)(s:Int):(x,s)∉ends l:=fun k=>by obtain⟨e,he,h1,_⟩:=cG.1 k;unfold aX at h;rw[List.find?_eq_none]at h;exact h e he (by simpa using h1)
theorem CL{l:List ai}{x:ID}(h:(aX l x).isSome=true){s:Int}(hs:s=0∨s=1):(x,s)∈ends l:=by obtain⟨e,he⟩:=adq.1 h;exact cG.2 ⟨e,EJ he,rF he,hs⟩
theorem Lf{o:aR}(h:bB o=0):cd (aH o)=true:=by
 unfold bB at h
 split at h;· cases h
 split at h;· cases h
 split at h;· cases h
 rename_i h3;simpa using h3
theorem mA{o:aR}(h:bB o=0):1≤o.1∧o.1≤8:=by
 unfold bB at h
 split at h;· cases h
 split at h;· cases h
 omega
theorem xQ{o:aR}(h:bB o=0)(hk:o.1=5):cd (dQ o)=true∧cd (an o)=true∧0≤oN o∧oN o≤3:=by
 unfold bB at h
 split at h;· cases h
 split at h;· cases h
 split at h;· cases h
 split at h;· cases h
 rw[if_neg (show ¬o.1=3 by omega)]at h
 split at h
 ·assumption
 ·cases h
theorem Lg{o:aR}(h:bB o=0)(hk:o.1=6):cd (an o)=true:=by
 unfold bB at h
 split at h;· cases h
 split at h;· cases h
 split at h;· cases h
 split at h;· cases h
 rw[if_neg (show ¬o.1=3 by omega),if_neg (show ¬o.1=5 by omega)]at h
 split at h
 ·assumption
 ·cases h
theorem I4{o:aR}(h:bB o=0)(hk:o.1=8):kH (oN o)=true:=by
 unfold bB at h
 split at h;· cases h
 split at h;· cases h
 split at h;· cases h
 split at h;· cases h
 rw[if_neg (show ¬o.1=3 by omega),if_neg (show ¬o.1=5 by omega),if_neg (show ¬o.1=6 by omega)]at h
 split at h
 ·assumption
 ·cases h
theorem ER{o:aR}(h:bB o=0)(hk:o.1=7):mN (k0 o)=true:=by
 unfold bB at h
 split at h;· cases h
 split at h;· cases h
 split at h;· cases h
 split at h;· cases h
 rw[if_neg (show ¬o.1=3 by omega),if_neg (show ¬o.1=5 by omega),if_neg (show ¬o.1=6 by omega),if_neg (show ¬o.1=8 by omega)]at h
 split at h
 ·assumption
 ·cases h
def iV(l:List aB):Prop:=l.Pairwise fun a b=>kF a.1 b.1=true
theorem qe{a b:ae}:mo a b≤0↔a=b∨kF a b=true:=by
 unfold mo;by_cases h:a=b
 ·subst h;simp
 ·rw[if_neg h];cases kF a b<;>simp[h]
theorem CM{q g:aB}:∀{l:List aB},q∈lp g l→q=g∨(q∈l∧q.1≠g.1)
 |[],h=>by simp[lp]at h;exact .inl h
 |e::r,h=>by
  unfold lp at h
  split at h
  ·rcases acp.1 h with h|h
   ·exact .inl h
   ·unfold nP at h;rw[List.mem_filter]at h;exact .inr ⟨h.1,by simpa using h.2⟩
  ·split at h
   ·rename_i bw;rcases acp.1 h with rfl|h
    ·exact .inr ⟨ac4 ..,bw⟩
    ·rcases CM h with h|⟨h,h2⟩
     ·exact .inl h
     ·exact .inr ⟨acm _ h,h2⟩
   ·rcases CM h with h|⟨h,h2⟩
    ·exact .inl h
    ·exact .inr ⟨acm _ h,h2⟩
theorem iV.add(g:aB):∀{l:List aB},iV l→iV (lp g l)
 |[],_=>List.pairwise_singleton _ _
 |e::r,h=>by
  have hr:∀{q:aB},q∈r→kF e.1 q.1=true:=fun {q} hq=>adF h hq;unfold lp
  split
  ·rename_i ho;refine List.Pairwise.cons (fun q hq=>?_) (h.filter _);unfold nP at hq;rw[List.mem_filter]at hq;have bw:q.1≠g.1:=by simpa using hq.2
   have hle:e.1=q.1∨kF e.1 q.1=true:=by
    rcases acp.1 hq.1 with rfl|hq
    ·exact .inl rfl
    ·exact .inr (hr hq)
   rcases qe.1 ho with ho|ho
   ·rcases hle with k|k
    ·exact absurd (ho.trans k).symm bw
    ·rw[ho];exact k
   ·rcases hle with k|k
    ·rw[←k];exact ho
    ·exact fS ho k
  ·rename_i ho;have J1:kF e.1 g.1=true:=by have h1:¬(g.1=e.1∨kF g.1 e.1=true):=fun k=>ho (qe.2 k);exact xM (by simpa using fun k=>h1 (.inr k)) (fun k=>h1 (.inl k))
   have hs:=iV.add g (aeX h)
   split
   ·refine List.Pairwise.cons (fun q hq=>?_) hs;rcases CM hq with rfl|⟨hq,_⟩
    ·exact J1
    ·exact hr hq
   ·exact hs
theorem qf(e:aB)(r:List aB)(x:ae):gy (e::r) x=if e.1=x then some e.2 else gy r x:=by
 unfold gy;rw[List.find?_cons];by_cases h:e.1=x
 ·simp[h]
 ·simp[h]
theorem sL{g:aB}:∀{l:List aB},(∀q∈l,q.1≠g.1)→nP g l=l:=fun {l} h=>by unfold nP;rw[List.filter_eq_self];intro q hq;simpa using h q hq
theorem I5(g:aB):∀{l:List aB},iV l→(lp g l).length=if(gy l g.1).isSome=true then l.length else l.length+1
 |[],_=>rfl
 |e::r,h=>by
  have hr:∀{q:aB},q∈r→kF e.1 q.1=true:=fun {q} hq=>adF h hq;have ih:=I5 g (aeX h);unfold lp
  split
  ·rename_i ho;rcases qe.1 ho with ho|ho
   ·have h1:nP g (e::r)=r:=by
     have:nP g (e::r)=nP g r:=by unfold nP;rw[List.filter_cons_of_neg (by simp[ho])]
     rw[this];exact sL (fun q hq k=>by have:=hr hq;rw[k,ho,dR]at this;cases this)
    rw[h1,qf,if_pos ho.symm];simp
   ·have h2:∀q∈e::r,q.1≠g.1:=fun q hq k=>by
     have:kF g.1 q.1=true:=by
      rcases acp.1 hq with rfl|hq
      ·exact ho
      ·exact fS ho (hr hq)
     rw[k,dR]at this;cases this
    have h3:gy (e::r) g.1=none:=by
     unfold gy;have:(List.find? (fun q=>decide (q.1=g.1)) (e::r))=none:=by rw[List.find?_eq_none];intro q hq;simpa using h2 q hq
     rw[this];rfl
    rw[sL h2,h3];simp
  ·rename_i ho;have bw:e.1≠g.1:=fun k=>ho (qe.2 (.inl k.symm));rw[if_pos bw,qf,if_neg bw];simp only[List.length_cons,ih]
   split<;>rfl
theorem j7{l:List aB}(h:iV l)(hn:l.length≤400)(g:aB):iV (bQ l g)∧(bQ l g).length≤400:=by
 unfold bQ
 split
 ·exact⟨h,hn⟩
 ·rename_i hc;refine⟨iV.add g h,?_⟩;rw[I5 g h]
  split
  ·exact hn
  ·rename_i h1;by_cases h2:400≤l.length
   ·exact absurd ⟨by simpa using h1,h2⟩ hc
   ·omega
theorem xR{α:Type}{o:Option α}(h:¬o.isSome=false):o.isSome=true:=by cases o<;>simp_all
structure eO(s:StateT):Prop where
 d:Wf s.1
 g:iV s.2
 n:s.2.length≤400
theorem eO.zero:eO zS:=⟨Wf.zero,List.Pairwise.nil,by simp[zS]⟩
theorem eO.add{l:List aB}(h:iV l)(hn:l.length≤400){d:aj}(hd:Wf d)(g:aB):eO (d,bQ l g):=⟨hd,(j7 h hn g).1,(j7 h hn g).2⟩
theorem OU{f:ah→ah}(hf:∀v,(f v).2.1=v.2.1)(l:List ah):ax (l.map f)=ax l:=by unfold ax;rw[List.flatMap_map];congr 1;funext v;exact hf v
theorem SW{f:ai→ai}(hf:∀v,(f v).1=v.1)(l:List ai):ends (l.map f)=ends l:=by unfold ends;rw[List.flatMap_map];congr 1;funext v;rw[hf]
theorem MQ(o:aR)(w:ai):(jY o w).1=w.1:=by unfold jY;split<;>(try split)<;>rfl
theorem OV(o:aR)(w:ah):(je o w).2.1=w.2.1:=by unfold je;split<;>(try split)<;>rfl
theorem Wf.Ar{d:aj}(h:Wf d){x:ID}(hx:aX d.2 x=none)(s:Int):(x,s)∉ax d.1:=fun k=>CJ hx s (h.pd.mem_iff.1 k)
theorem Wf.jA{d:aj}(h:Wf d){x:ID}(hx:(aX d.2 x).isSome=true){s:Int}(hs:s=0∨s=1):(x,s)∈ax d.1:=h.pd.mem_iff.2 (CL hx hs)
theorem Wf.xD{s:StateT}(h:Wf s.1){o:aR}(hm:bB o=0)(hk:7≤o.1):Wf (xD s o).1.1:=by
 have hk8:=(mA hm).2;unfold Vs.xD
 split
 ·refine⟨h.sv.map (MO o),h.se.map (MQ o),by simp;exact h.nv,by simp;exact h.ne,fun v hv=>?_,fun e he=>?_,?_⟩
  ·obtain⟨w,hw,rfl⟩:=adE.1 hv;have g:=h.gv w hw;unfold je
   split
   ·split
    ·rename_i h7;exact⟨g.i,ER hm h7,g.a,g.t⟩
    ·exact⟨g.i,g.l,I4 hm (by omega),g.t⟩
   ·exact g
  ·obtain⟨w,hw,rfl⟩:=adE.1 he;have g:=h.ge w hw;unfold jY
   split
   ·split
    ·rename_i h7;exact⟨g.i,ER hm h7,g.a⟩
    ·exact⟨g.i,g.l,I4 hm (by omega)⟩
   ·exact g
  ·show(ax (s.1.1.map (je o))).Perm (ends (s.1.2.map (jY o)));rw[OU (OV o),SW (MQ o)];exact h.pd
 ·exact Wf.zero
theorem qg{s:StateT}{c:ng}(h:(bq s c).2.1=0):(aQ s.1 c.1).isSome=true∧(bq s c).1.1=c.1:=by
 unfold bq at h ⊢
 cases hv:aQ s.1 c.1 with
 |none=>rw[hv]at h;cases h
 |some v=>exact⟨rfl,rfl⟩
theorem we{l:List ah}{x y:ID}(r:List ae)(h:(bg l x).isSome=true):(bg (l.map (sB y r)) x).isSome=true:=by rw[oP (rE y r)];simpa using h
theorem Wf.link{d:aj}(h:Wf d){x:ID}(hx:cd x=true)(hn:aX d.2 x=none)(he:¬40≤d.2.length){a b:ng}(ha:(bg d.1 a.1).isSome=true)(hb:(bg d.1 b.1).isSome=true) :
  Wf (bV (bV (d.1,dA (x,(e0,0)) d.2) a (x,0)) b (x,1)):=by
 have hrw:Rw ((d.1,dA (x,(e0,0)) d.2):aj).1:=h.rw;obtain⟨va,hva⟩:=adq.1 ha;have h0:=h.Ar hn 0;have h1:=h.Ar hn 1;obtain⟨p1,q1⟩:=tC (c:=a) (x:=(x,0)) hrw hva h0;obtain⟨vb,hvb⟩:=adq.1 (we (x:=b.1) (y:=a.1) (mq (aW (d.1,dA (x,(e0,0)) d.2) a.1) a.2 (x,0)) hb);have Uc:(x,1)∉ax (bV (d.1,dA (x,(e0,0)) d.2) a (x,0)).1:=fun k=>by
  rcases acp.1 (p1.mem_iff.1 k) with k|k
  ·cases k
  ·exact h1 k
 obtain⟨p2,q2⟩:=tC (c:=b) (x:=(x,1)) q1 hvb Uc;refine⟨q2.s,xL (x,(e0,0)) h.se hn,?_,?_,zj (zj h.gv _ _) _ _,fun e hem=>?_,?_⟩
 ·unfold bV;rw[fG,fG];exact h.nv
 ·show(dA (x,(e0,0)) d.2).length≤40;rw[kJ];omega
 ·rcases oL.1 (show e∈dA (x,(e0,0)) d.2 from hem) with rfl|hem
  ·exact⟨hx,lE,lF⟩
  ·exact h.ge e hem
 ·show(ax _).Perm (ends (dA (x,(e0,0)) d.2));refine(p2.trans (List.Perm.cons _ p1)).trans (List.Perm.trans ?_ (EO (x,(e0,0)) d.2).symm);exact(List.Perm.swap _ _ _).trans (List.Perm.cons _ (List.Perm.cons _ h.pd))
theorem Wf.cut{d:aj}(h:Wf d){x:ID}(hx:(aX d.2 x).isSome=true):Wf (bj (aJ (aJ d (x,0)) (x,1)) zI x):=by
 have h0:=h.jA hx (s:=0) (.inl rfl);have h1:=h.jA hx (s:=1) (.inr rfl);obtain⟨p1,q1⟩:=fF h.rw h0;have Uc:(x,1)∈ax (aJ d (x,0)).1:=by
  rcases acp.1 (p1.mem_iff.1 h1) with k|k
  ·cases k
  ·exact k
 obtain⟨p2,q2⟩:=fF q1 Uc;have PM:=j6 (j6 h.gv (x,0)) (x,1);have VF:(bj (aJ (aJ d (x,0)) (x,1)) zI x).1=(aJ (aJ d (x,0)) (x,1)).1:=wc PM;refine⟨by rw[VF];exact q2.s,uy h.se,?_,?_,by rw[VF];exact PM,fun e he=>h.ge e ?_,?_⟩
 ·rw[VF];unfold aJ;rw[fG,fG];exact h.nv
 ·exact adC (aew _ _) h.ne
 ·exact(aeK.1 (show e∈d.2.filter fun w=>decide (w.1≠x) from he)).1
 ·rw[VF];show(ax (aJ (aJ d (x,0)) (x,1)).1).Perm (ends (db d.2 x));have p3:((x,0)::(x,1)::ax (aJ (aJ d (x,0)) (x,1)).1).Perm ((x,0)::(x,1)::ends (db d.2 x)) :=((p1.trans (List.Perm.cons _ p2)).symm.trans h.pd).trans (CG h.se hx);exact p3.cons_inv.cons_inv
theorem iW{x:ae}(h:x.2=0∨x.2=1):(au x).1=x.1∧((x.2=0∧(au x).2=1)∨(x.2=1∧(au x).2=0)):=by
 refine⟨rfl,?_⟩;unfold au;rcases h with h|h
 ·exact .inl ⟨h,by rw[h];rfl⟩
 ·exact .inr ⟨h,by rw[h];rfl⟩
theorem I6{x:ae}(h:x.2=0∨x.2=1)(l:List ae):(x::au x::l).Perm ((x.1,0)::(x.1,1)::l):=by
 obtain⟨h1,h2⟩:=iW h;have e:x=(x.1,x.2):=rfl;have e2:au x=(x.1,(au x).2):=rfl;rcases h2 with⟨ha,hb⟩|⟨ha,hb⟩
 ·rw[ha]at e;rw[hb]at e2;rw[e2,e]
 ·rw[ha]at e;rw[hb]at e2;rw[e2,e];exact List.Perm.swap _ _ _
theorem I7{n:Int}(h0:0≤n)(h3:n≤3):(IntKind.wrap .i64 (1-Int.tmod n 2)=0∨IntKind.wrap .i64 (1-Int.tmod n 2)=1)∧(IntKind.wrap .i64 (Int.tdiv n 2)=0∨IntKind.wrap .i64 (Int.tdiv n 2)=1):=by
 have:n=0∨n=1∨n=2∨n=3:=by omega
 rcases this with rfl|rfl|rfl|rfl<;>exact⟨by decide,by decide⟩
theorem Wf.split{d:aj}(h:Wf d){m k:ae}{v:ID}(hv:cd v=true)(hk:cd k.1=true)(Uk:m.2=0∨m.2=1)(oZ:k.2=0∨k.2=1)(hm:(aX d.2 m.1).isSome=true)(UC:bg d.1 v=none)(hnk:aX d.2 k.1=none) (PJ:¬24≤d.1.length) (hle:¬40≤d.2.length):Wf (eL (v,(cw [m,k],(e0,0))) (aK d m (au k)).1,dA (k.1,(e0,0)) (aK d m (au k)).2):=by
 have hmd:m∈ax d.1:=h.jA hm Uk;have J0:au k∉ax d.1:=h.Ar hnk _;obtain⟨p1,q1⟩:=qd h.rw hmd J0;have VG:bg (aK d m (au k)).1 v=none:=by unfold aK Vs.cm;rw[oP (rE _ _),UC];rfl
 refine⟨oO (v,(cw [m,k],(e0,0))) q1.s VG,xL (k.1,(e0,0)) h.se hnk,?_,?_,fun w hw=>?_,fun e he=>?_,?_⟩
 ·show(eL _ (aK d m (au k)).1).length≤24;rw[gD];unfold aK;rw[fG];omega
 ·show(dA _ d.2).length≤40;rw[kJ];omega
 ·rcases mu.1 hw with rfl|hw
  ·exact⟨hv,lE,lF,sJ _⟩
  ·exact uB h.gv _ _ w hw
 ·rcases oL.1 (show e∈dA (k.1,(e0,0)) d.2 from he) with rfl|he
  ·exact⟨hk,lE,lF⟩
  ·exact h.ge e he
 ·show(ax (eL _ _)).Perm (ends (dA (k.1,(e0,0)) d.2));refine(CF _ _).trans (List.Perm.trans ?_ (EO (k.1,(e0,0)) d.2).symm);refine(aex _ (j0 [m,k])).trans ?_;show(m::k::ax (aK d m (au k)).1).Perm _;refine(List.Perm.swap k m _).trans ((List.Perm.cons k p1.symm).trans ?_);refine(I6 oZ _).trans ?_;exact List.Perm.cons _ (List.Perm.cons _ h.pd)
theorem Wf.SX{d:aj}(h:Wf d){v:ah}(hv:v∈d.1)(hr:v.2.1=[]):Wf (bj d v.1 zI):=by
 obtain⟨a,b,h1,_,h2,_⟩:=rG h.sv hv;refine⟨qa h.sv,?_,adC (aew _ _) h.nv,adC (aew _ _) h.ne,fun w hw=>h.gv w ?_,fun e he=>h.ge e ?_,?_⟩
 ·exact uy h.se
 ·exact(aeK.1 (show w∈d.1.filter fun w=>decide (w.1≠v.1) from hw)).1
 ·exact(aeK.1 (show e∈d.2.filter fun w=>decide (w.1≠zI) from he)).1
 ·show(ax (dE d.1 v.1)).Perm (ends (db d.2 zI));rw[h2,wb h.ge];have p:=iS a b v;rw[←h1,hr,List.nil_append]at p;exact p.symm.trans h.pd
theorem Wf.YP{d:aj}(h:Wf d){v:ah}{a b:ae}(hv:v∈d.1)(hr:v.2.1.Perm [a,b])(mH:a.1≠b.1):Wf (bj (aK (bj d v.1 zI) (au b) a) zI b.1):=by
 obtain⟨p,q,h1,_,h2,_⟩:=rG h.sv hv;have pd:(ax d.1).Perm (a::b::ax (p++q)):=by have:=(iS p q v).trans (aex _ hr);rw[←h1]at this;exact this
 have OX:bj d v.1 zI=(p++q,d.2):=by unfold bj;rw[h2,wb h.ge]
 have Ec:=pd.nodup_iff.1 h.rw.n;have hbm:b∈ends d.2:=h.pd.mem_iff.1 (pd.mem_iff.2 (by simp));obtain⟨e,he,WJ,zR⟩:=cG.1 hbm;have z7:(aX d.2 b.1).isSome=true:=by unfold aX;rw[List.find?_isSome];exact⟨e,he,by simpa using WJ⟩
 obtain⟨_,ho⟩:=iW zR;have YQ:au b∈ax (p++q):=by
  have h3:au b∈ax d.1:=h.jA (s:=(au b).2) z7 (by rcases ho with⟨_,k⟩|⟨_,k⟩<;>omega);rcases acp.1 (pd.mem_iff.1 h3) with k|k
  ·exact absurd (congrArg Prod.fst k) (fun k=>mH k.symm)
  rcases acp.1 k with k|k
  ·have:=congrArg Prod.snd k;omega
  ·exact k
 have VH:Rw (p++q):=by refine⟨?_,(adi.1 (adi.1 Ec).2).2⟩;rw[←h2];exact qa h.sv
 have ha:a∉ax (p++q):=fun k=>(adi.1 Ec).1 (acm _ k);rw[OX];obtain⟨p1,q1⟩:=qd (d:=(p++q,d.2)) VH YQ ha;have PM:∀w∈(aK (p++q,d.2) (au b) a).1,GV w:=by
  refine uB (d:=(p++q,d.2)) (fun w hw=>h.gv w ?_) _ _;rw[h1];rcases ac8.1 hw with k|k
  ·exact acq _ k
  ·exact ac2 _ (acm _ k)
 have VF:(bj (aK (p++q,d.2) (au b) a) zI b.1).1=(aK (p++q,d.2) (au b) a).1:=wc PM;refine⟨by rw[VF];exact q1.s,uy h.se,?_,adC (aew _ _) h.ne,by rw[VF];exact PM,fun f hf=>h.ge f ?_,?_⟩
 ·rw[VF];unfold aK;rw[fG];have:=h.nv;rw[h1]at this;simp at this ⊢;omega
 ·exact(aeK.1 (show f∈d.2.filter fun w=>decide (w.1≠b.1) from hf)).1
 ·rw[VF];show(ax (aK (p++q,d.2) (au b) a).1).Perm (ends (db d.2 b.1));have p3:(b::au b::ax (aK (p++q,d.2) (au b) a).1).Perm (b::au b::ends (db d.2 b.1)):=by refine List.Perm.trans (List.Perm.cons b p1.symm) ?_;refine(List.Perm.swap a b _).trans (pd.symm.trans (h.pd.trans ?_));exact(CG h.se z7).trans (I6 zR _).symm
  exact p3.cons_inv.cons_inv
theorem eO.one{s:StateT}(h:eO s)(o:aR):eO (c7 s o).1:=by
 unfold c7
 split
 ·exact eO.zero
 rename_i hm;have hm:bB o=0:=Classical.byContradiction fun k=>hm k;have bS:=Lf hm
 split
 ·unfold qt
  split;· exact eO.zero
  split;· exact eO.zero
  rename_i h1 h2;have hn:bg s.1.1 (aH o)=none:=by simpa[aQ] using h1
  refine⟨⟨oO _ h.d.sv hn,h.d.se,by show(eL _ s.1.1).length≤24;rw[gD];omega,h.d.ne,fun w hw=>?_,h.d.ge,?_⟩,h.g,h.n⟩
  ·rcases mu.1 hw with rfl|hw
   ·exact⟨bS,lE,lF,rfl⟩
   ·exact h.d.gv w hw
  ·exact(CF _ _).trans h.d.pd
 split
 ·unfold zh
  cases hv:aQ s.1 (aH o) with
  |none=>exact eO.zero
  |some v =>
   simp only
   split
   ·exact eO.zero
   ·rename_i hr;have:=h.d.SX (gP hv) (by simpa using hr);rw[kL hv]at this;exact⟨this,h.g,h.n⟩
 split
 ·unfold oM
  split;· exact eO.zero
  split;· exact eO.zero
  split;· exact eO.zero
  split;· exact eO.zero
  split;· exact eO.zero
  rename_i h1 h2 h3 h4 h5;have hn:aX s.1.2 (aH o)=none:=by simpa[bZ] using h1
  obtain⟨ca,ca2⟩:=qg (s:=s) (c:=oA o) (Classical.byContradiction fun k=>h3 k);obtain⟨cb,cb2⟩:=qg (s:=s) (c:=oB o) (Classical.byContradiction fun k=>h4 k);refine⟨?_,h.g,h.n⟩;unfold gE;refine h.d.link bS hn h2 (by rw[ca2];exact ca) ?_
  split
  ·exact cb
  ·rw[cb2];exact cb
 split
 ·unfold DQ
  split;· exact eO.zero
  rename_i h1;have h2:=j7 h.g h.n ((aH o,0),dt s.1 (aH o,0));exact eO.add h2.1 h2.2 (h.d.cut (xR h1)) _
 split
 ·rename_i hk;unfold mw
  split;· exact eO.zero
  split;· exact eO.zero
  split;· exact eO.zero
  split;· exact eO.zero
  split;· exact eO.zero
  rename_i h1 h2 h3 h4 h5;obtain⟨m1,m2,m3,m4⟩:=xQ hm hk;obtain⟨s1,s2⟩:=I7 m3 m4;refine⟨?_,h.g,h.n⟩;exact h.d.split (m:=J4 o) (k:=G2 o) m1 m2 s1 s2 (xR h1) (by simpa[aQ] using h2) (by simpa[bZ,G2] using h3) h4 h5
 split
 ·unfold kh
  split
  ·exact eO.zero
  ·rename_i v hv
   split
   ·rename_i r0 r1 hr;have SV:=gP hv;have hvi:=kL hv;have key:∀a b:ae,v.2.1.Perm [a,b]→a.1≠b.1→eO (K9 s o a b,IY s.2 a b):=fun a b hp mH=>by have h2:=j7 h.g h.n ((b.1,0),qA a b 0);have:=h.d.YP SV hp mH;rw[hvi]at this;exact eO.add h2.1 h2.2 this _
    unfold jz
    split;· exact eO.zero
    rename_i bw
    split
    ·exact key r1 r0 (by rw[hr];exact List.Perm.swap _ _ _) (fun k=>bw k.symm)
    split
    ·exact key r0 r1 (by rw[hr]) bw
    ·exact eO.zero
   ·exact eO.zero
 ·rename_i k1 k2 k3 k4 k5 k6;have hk:=mA hm;have:=h.d.xD hm (by omega);refine⟨this,?_,?_⟩
  ·unfold xD;split
   ·exact h.g
   ·exact List.Pairwise.nil
  ·unfold xD;split
   ·exact h.n
   ·simp[zS]
theorem eO.go:∀(l:List aR) {s:StateT},eO s→eO (p7 l s).1
 |[],s,h=>h
 |o::r,s,h=>by
  unfold p7
  split
  ·exact eO.zero
  ·exact eO.go r (h.one o)
theorem eO.apply{s:StateT}(h:eO s)(l:List aR):eO (c6 s l).1:=by
 unfold c6
 split
 ·exact eO.zero
 ·exact eO.go l h
theorem eO.try{s:StateT}(h:eO s)(l:List aR):eO (mO s l):=by
 unfold mO
 split
 ·exact h
 ·exact h.apply l
theorem eO.reach:∀(m:Nat) (l:List (List aR)) {s:StateT},eO s→eO (my m l s)
 |0,_,s,h=>by simpa[my] using h
 |m+1,[],s,h=>h
 |m+1,l::r,s,h=>by rw[my];exact eO.reach m r (h.try _)
theorem eO.MN(l:List (List aR)):eO (CA l):=eO.reach 30 l eO.zero
end Go.Vs
