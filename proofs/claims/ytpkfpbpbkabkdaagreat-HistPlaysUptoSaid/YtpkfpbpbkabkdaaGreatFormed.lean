/- Diagrams that are well formed -/
import Derived.Test.YtpkfpbpbkabkdaaGreatRings
set_option linter.unusedVariables false
set_option linter.unusedSimpArgs false
namespace Go.Vs
open Go.Proofs
theorem nT(row:List ab):(cI row).Perm row:=by unfold cI Cr;exact adP.trans (List.Perm.of_eq (List.take_append_drop _ _))
theorem Np{row:List ab}(h:0<row.length)(hl:∀j,(hj:j<row.length)→kF row[j] row[0]=false):fi row row 0 0=0:=by
 have hm:=oS row row 0 0 h (by omega);have h2:=(tE h).2 0;by_cases hz:fi row row 0 0=0
 ·exact hz
 ·have:=h2 (by omega) h;rw[oV hm,hl _ hm]at this;cases this
theorem Rj(row:List ab):Cr row 0=row:=by unfold Cr;simp
theorem rL(row:List ab):cI (cI row)=cI row:=by
 by_cases h0:row.length=0
 ·have:row=[]:=by simpa using h0
  subst this;rfl
 have hp:0<row.length:=by omega
 have hm:=oS row row 0 0 hp (by omega);have hp2:0<(cI row).length:=by rw[fU];exact hp
 have h1:(cI row)[0]=row.getD (fi row row 0 0) zD:=by have:=Lu (row:=row) (k:=fi row row 0 0) (i:=0) (by omega) hp;rw[Nat.add_zero,Nat.mod_eq_of_lt hm,List.getElem?_eq_getElem hm]at this;rw[oV hm];exact(ack.1 this).2
 have h2:fi (cI row) (cI row) 0 0=0:=by refine Np hp2 (fun j hj=>?_);rw[h1];have iU:(cI row)[j]∈row:=HI.1 (adr hj);obtain⟨i,hi,he⟩:=adM iU;rw[←he];exact(tE hp).1 i hi
 unfold cI at h2 ⊢;rw[h2,Rj]
theorem Nq(row:List ab)(a d:ab):cI (lS row a d)=lS row a d:=by unfold lS;split<;>exact rL _
theorem Nr(row:List ab)(d:ab):cI (gS row d)=gS row d:=rL _
theorem J8(row:List ab)(a d:ab):cI (jo row a d)=jo row a d:=rL _
theorem Ns{row:List ab}{d:ab}(a:ab)(h:d∉row):(lS row a d).Perm (d::row):=by unfold lS;rw[if_neg h];refine(nT _).trans (adO.trans ?_);rw[List.take_append_drop]
theorem rM{row:List ab}{d:ab}(h:d∈row)(hn:row.Nodup):row.Perm (d::gS row d):=by
 obtain⟨k,_,h2,_⟩:=fh h;obtain⟨h3,h4⟩:=ack.1 h2;unfold gS;rw[wS hn h2];refine List.Perm.trans ?_ (List.Perm.cons d (nT _).symm)
 conv=>lhs;rw[←List.take_append_drop k row,List.drop_eq_getElem_cons h3,h4]
 exact adO
theorem J9{row:List ab}{cK d:ab}(h:cK∈row)(hd:d∉row):(d::row).Perm (cK::jo row cK d):=by
 obtain⟨k,h1,h2,_⟩:=fh h;obtain⟨h3,h4⟩:=ack.1 h2;unfold jo;rw[if_pos ⟨h,hd⟩,h1,Int.toNat_natCast];refine List.Perm.trans ?_ (List.Perm.cons cK (nT _).symm);rw[List.set_eq_take_append_cons_drop,if_pos h3]
 conv=>lhs;rw[←List.take_append_drop k row,List.drop_eq_getElem_cons h3,h4]
 have p1:(row.take k++cK::row.drop (k+1)).Perm (cK::(row.take k++row.drop (k+1))):=adO;have p2:(row.take k++d::row.drop (k+1)).Perm (d::(row.take k++row.drop (k+1))):=adO;exact(List.Perm.cons d p1).trans ((List.Perm.swap cK d _).trans (List.Perm.cons cK p2.symm))
def ar(l:List ag):List ab:=l.flatMap fun v=>v.2.1
def ends(l:List ah):List ab:=l.flatMap fun e=>[(e.1,0),(e.1,1)]
theorem jG(v:ag)(l:List ag):ar (v::l)=v.2.1++ar l:=List.flatMap_cons
theorem nV(a b:List ag):ar (a++b)=ar a++ar b:=List.flatMap_append
theorem iB(a b:List ag)(v:ag):(ar (a++v::b)).Perm (v.2.1++ar (a++b)):=by rw[nV,jG,nV,←List.append_assoc,←List.append_assoc];exact adx _ adP
theorem br{x:ab}{l:List ag}:x∈ar l↔∃v∈l,x∈v.2.1:=List.mem_flatMap
theorem jH(e:ah)(l:List ah):ends (e::l)=(e.1,0)::(e.1,1)::ends l:=by unfold ends;rw[List.flatMap_cons];rfl
theorem eJ{x:ab}{l:List ah}:x∈ends l↔∃e∈l,e.1=x.1∧(x.2=0∨x.2=1):=by
 unfold ends;rw[List.mem_flatMap];constructor
 ·rintro⟨e,he,hx⟩;rcases acn.1 hx with rfl|hx
  ·exact⟨e,he,rfl,.inl rfl⟩
  ·rw[List.mem_singleton]at hx;subst hx;exact⟨e,he,rfl,.inr rfl⟩
 ·rintro⟨e,he,h1,h2⟩;refine⟨e,he,?_⟩;obtain⟨x1,x2⟩:=x;simp only at h1 h2;subst h1;rcases h2 with rfl|rfl<;>simp
theorem BH:∀{l:List ah},dh l→(ends l).Nodup
 |[],_=>List.nodup_nil
 |e::r,h=>by
  have bq:∀s:Int,(e.1,s)∉ends r:=fun s hs=>by obtain⟨f,hf,h1,_⟩:=eJ.1 hs;have:=adn h hf;simp only at h1;rw[h1,b7]at this;cases this
  rw[jH];refine adf.2 ⟨?_,adf.2 ⟨bq 1,BH h.of_cons⟩⟩;rw[List.mem_cons];rintro(h1|h1)
  ·cases h1
  ·exact bq 0 h1
theorem DP(e:ah):∀l:List ah,(dq e l).Perm (e::l)
 |[]=>adW _
 |w::r=>by
  unfold dq
  split
  ·exact adW _
  ·exact(List.Perm.cons w (DP e r)).trans (List.Perm.swap e w r)
theorem DQ(e:ag):∀l:List ag,(dW e l).Perm (e::l)
 |[]=>adW _
 |w::r=>by
  unfold dW
  split
  ·exact adW _
  ·exact(List.Perm.cons w (DQ e r)).trans (List.Perm.swap e w r)
theorem DR(e:ah)(l:List ah):(ends (dq e l)).Perm ((e.1,0)::(e.1,1)::ends l):=by rw[←jH];exact List.Perm.flatMap_right _ (DP e l)
theorem BI(v:ag)(l:List ag):(ar (dW v l)).Perm (v.2.1++ar l):=by rw[←jG];exact List.Perm.flatMap_right _ (DQ v l)
theorem BJ{l:List ah}{x:ID}(hs:dh l)(h:(aV l x).isSome=true):(ends l).Perm ((x,0)::(x,1)::ends (cS l x)):=by
 obtain⟨e,he⟩:=adi.1 h;obtain⟨h3,h4⟩:=ack.1 (lX hs he);rw[wO hs h]
 conv=>lhs;rw[←List.take_append_drop (bZ l x) l,List.drop_eq_getElem_cons h3,h4]
 rw[←vn he,←jH];exact List.Perm.flatMap_right _ adO
theorem ki{l:List ag}{v:ag}(hs:bY l)(h:v∈l):aR l v.1=some v:=by
 have hf:(aR l v.1).isSome=true:=by unfold aR;rw[List.find?_isSome];exact⟨v,h,by simp⟩
 obtain⟨u,hu⟩:=adi.1 hf;have h1:=cZ hs hu;obtain⟨k,hk,he⟩:=adM h;have h2:l[k]? = some v:=by rw[List.getElem?_eq_getElem hk,he]
 rw[jF hs h2 rfl,h1]at h2;rw[hu];exact h2
theorem qN{l:List ag}{v:ag}(hs:bY l)(h:v∈l):∃a b,l=a++v::b∧(∀u∈a++b,u.1≠v.1)∧dv l v.1=a++b∧∀r,l.map (rG v.1 r)=a++(v.1,(r,v.2.2))::b:=by
 obtain⟨a,b,rfl⟩:=adA h;have hp:=List.pairwise_append.1 hs;have hb:=List.pairwise_cons.1 hp.2.1;have bq:∀u∈a++b,u.1≠v.1:=fun u hu e=>by
  rcases adb.1 hu with hu|hu
  ·have:=hp.2.2 u hu v (by simp);rw[e,b7]at this;cases this
  ·have:=hb.1 u hu;rw[e,b7]at this;cases this
 have hm:∀(r:List ab) (c:List ag),(∀u∈c,u.1≠v.1)→c.map (rG v.1 r)=c:=fun r c hc=>by
  conv=>rhs;rw[←List.map_id c]
  exact ad1 fun u hu=>by unfold rG;rw[if_neg (hc u hu)];rfl
 have hd:∀c:List ag,(∀u∈c,u.1≠v.1)→dv c v.1=c:=fun c hc=>by unfold dv;rw[List.filter_eq_self];intro u hu;simpa using hc u hu
 refine⟨a,b,rfl,bq,?_,fun r=>?_⟩
 ·unfold dv;rw[List.filter_append,List.filter_cons_of_neg (by simp)];have h1:=hd a (fun u hu=>bq u (acr _ hu));have h2:=hd b (fun u hu=>bq u (acW _ hu));unfold dv at h1 h2;rw[h1,h2]
 ·rw[List.map_append,List.map_cons,hm r a (fun u hu=>bq u (List.mem_append_left _ hu)),hm r b (fun u hu=>bq u (List.mem_append_right _ hu))];unfold rG;rw[if_pos rfl]
structure Rw(l:List ag):Prop where
 s:bY l
 n:(ar l).Nodup
theorem Rw.ring{l:List ag}(h:Rw l){v:ag}(hv:v∈l):v.2.1.Nodup:=by obtain⟨a,b,rfl,_⟩:=qN h.s hv;exact(adz.1 ((iB a b v).nodup_iff.1 h.n)).1
theorem Rw.one{l:List ag}(h:Rw l){v w:ag}{x:ab}(hv:v∈l)(hw:w∈l)(hx:x∈v.2.1)(hy:x∈w.2.1):w=v:=by
 obtain⟨a,b,rfl,_⟩:=qN h.s hv;have hn:=adz.1 ((iB a b v).nodup_iff.1 h.n);have:w∈a++v::b:=hw;rw[List.mem_append,List.mem_cons]at this;rcases this with k|k|k
 ·exact absurd rfl (hn.2.2 x hx x (br.2 ⟨w,acr _ k,hy⟩))
 ·exact k
 ·exact absurd rfl (hn.2.2 x hx x (br.2 ⟨w,acW _ k,hy⟩))
theorem jg{l:List ag}(h:Rw l){v:ag}{x:ab}(hv:v∈l)(hx:x∈v.2.1):Fb l x=some v.1:=by
 have hf:(l.find? fun u=>decide (x∈u.2.1)).isSome=true:=by rw[List.find?_isSome];exact⟨v,hv,by simpa using hx⟩
 obtain⟨u,hu⟩:=adi.1 hf;have h1:=adt hu;have h2:x∈u.2.1:=by simpa using adC hu
 unfold Fb;rw[hu,h.one hv h1 hx h2];rfl
theorem HU{l:List ag}{x:ab}(h:x∉ar l):Fb l x=none:=by
 unfold Fb;have:(l.find? fun u=>decide (x∈u.2.1))=none:=by rw[List.find?_eq_none];intro u hu hx;exact h (br.2 ⟨u,hu,by simpa using hx⟩)
 rw[this];rfl
theorem jI{d:aj}(h:bY d.1){v:ag}(hv:v∈d.1):bJ d v.1=v.2.1:=by unfold bJ bp;rw[ki h hv];rfl
theorem jJ{d:aj}(h:Rw d.1){v:ag}{x:ab}(hv:v∈d.1)(hx:x∈v.2.1):aB d x=b8 d v.1 (gS v.2.1 x):=by unfold aB cm;rw[jg h hv hx];show b8 d v.1 (gS (bJ d v.1) x)=_;rw[jI h.s hv]
theorem BL{d:aj}(h:Rw d.1){v:ag}{x:ab}(y:ab)(hv:v∈d.1)(hx:x∈v.2.1):aC d x y=b8 d v.1 (jo v.2.1 x y):=by unfold aC cm;rw[jg h hv hx];show b8 d v.1 (jo (bJ d v.1) x y)=_;rw[jI h.s hv]
theorem bY.re{l:List ag}(h:bY l)(x:ID)(r:List ab):bY (l.map (rG x r)):=h.map (qM x r)
theorem BM{l:List ag}{v:ag}(hs:bY l)(hv:v∈l):∃rest,(ar l).Perm (v.2.1++rest)∧∀r,(ar (l.map (rG v.1 r))).Perm (r++rest):=by
 obtain⟨a,b,h1,_,_,h2⟩:=qN hs hv;refine⟨ar (a++b),?_,fun r=>?_⟩
 ·conv=>lhs;rw[h1]
  exact iB a b v
 ·rw[h2 r];exact iB a b (v.1,(r,v.2.2))
theorem eY{d:aj}(h:Rw d.1){x:ab}(hx:x∈ar d.1):(ar d.1).Perm (x::ar (aB d x).1)∧Rw (aB d x).1:=by obtain⟨v,hv,kA⟩:=br.1 hx;obtain⟨rest,h1,h2⟩:=BM h.s hv;rw[jJ h hv kA];have p:(ar d.1).Perm (x::ar (b8 d v.1 (gS v.2.1 x)).1) :=h1.trans ((adx rest (rM kA (h.ring hv))).trans (List.Perm.cons x (h2 _).symm));exact⟨p,h.s.re _ _,(adf.1 (p.nodup_iff.1 h.n)).2⟩
theorem oW{d:aj}(h:Rw d.1){x y:ab}(hx:x∈ar d.1)(hy:y∉ar d.1):(y::ar d.1).Perm (x::ar (aC d x y).1)∧Rw (aC d x y).1:=by obtain⟨v,hv,kA⟩:=br.1 hx;obtain⟨rest,h1,h2⟩:=BM h.s hv;rw[BL h y hv kA];have SO:y∉v.2.1:=fun k=>hy (br.2 ⟨v,hv,k⟩);have p:(y::ar d.1).Perm (x::ar (b8 d v.1 (jo v.2.1 x y)).1) :=(List.Perm.cons y h1).trans ((adx rest (J9 kA SO)).trans (List.Perm.cons x (h2 _).symm));refine⟨p,h.s.re _ _,?_⟩;exact(adf.1 (p.nodup_iff.1 (adf.2 ⟨hy,h.n⟩))).2
theorem sN{d:aj}(h:Rw d.1){c:pq}{x:ab}{v:ag}(hv:aR d.1 c.1=some v)(hx:x∉ar d.1):(ar (bN d c x).1).Perm (x::ar d.1)∧Rw (bN d c x).1:=by
 have hvm:=gm hv;have hvi:=kh hv;obtain⟨rest,h1,h2⟩:=BM h.s hvm;have kA:x∉v.2.1:=fun k=>hx (br.2 ⟨v,hvm,k⟩);have e:bN d c x=b8 d v.1 (lS v.2.1 c.2 x):=by unfold bN;rw[←hvi,jI h.s hvm]
 rw[e];have p:(ar (b8 d v.1 (lS v.2.1 c.2 x)).1).Perm (x::ar d.1) :=(h2 _).trans ((adx rest (Ns c.2 kA)).trans (List.Perm.cons x h1.symm));exact⟨p,h.s.re _ _,p.nodup_iff.2 (adf.2 ⟨hx,h.n⟩)⟩
structure GV(v:ag):Prop where
 i:cW v.1=true
 l:yw v.2.2.1=true
 a:rZ v.2.2.2=true
 t:cI v.2.1=v.2.1
structure GE(e:ah):Prop where
 i:cW e.1=true
 l:yw e.2.1=true
 a:rZ e.2.2=true
structure Wf(d:aj):Prop where
 sv:bY d.1
 se:dh d.2
 nv:d.1.length≤24
 ne:d.2.length≤40
 gv:∀v∈d.1,GV v
 ge:∀e∈d.2,GE e
 pd:(ar d.1).Perm (ends d.2)
theorem Wf.rw{d:aj}(h:Wf d):Rw d.1:=⟨h.sv,h.pd.nodup_iff.2 (BH h.se)⟩
theorem Wf.zero:Wf zS.1:=⟨List.Pairwise.nil,List.Pairwise.nil,by simp[zS],by simp[zS],by simp[zS],by simp[zS],adW _⟩
theorem GV.re{l:List ag}(h:∀v∈l,GV v)(x:ID){r:List ab}(hr:cI r=r):∀v∈l.map (rG x r),GV v:=fun v hv=>by
 obtain⟨w,hw,rfl⟩:=adq.1 hv;have g:=h w hw;unfold rG
 split
 ·exact⟨g.i,g.l,g.a,hr⟩
 ·exact g
theorem jK{d:aj}(h:∀v∈d.1,GV v)(x:ab):∀v∈(aB d x).1,GV v:=GV.re h _ (Nr _ _)
theorem tF{d:aj}(h:∀v∈d.1,GV v)(x y:ab):∀v∈(aC d x y).1,GV v:=GV.re h _ (J8 _ _ _)
theorem yd{d:aj}(h:∀v∈d.1,GV v)(c:pq)(y:ab):∀v∈(bN d c y).1,GV v:=GV.re h _ (Nq _ _ _)
theorem eZ(d:aj)(x:ID)(r:List ab):(b8 d x r).1.length=d.1.length:=by unfold b8;simp
theorem DS:cW zI=false:=by decide
theorem vp{l:List ah}(h:∀e∈l,GE e):cS l zI=l:=by unfold cS;rw[List.filter_eq_self];intro e he;have:=(h e he).i;simp;intro k;rw[k,DS]at this;cases this
theorem vq{l:List ag}(h:∀e∈l,GV e):dv l zI=l:=by unfold dv;rw[List.filter_eq_self];intro e he;have:=(h e he).i;simp;intro k;rw[k,DS]at this;cases this
theorem rN:yw e0=true:=by decide
theorem rO:rZ 0=true:=by decide
theorem BN{l:List ah}{x:ID}(h:aV l x=none)(s:Int):(x,s)∉ends l:=fun k=>by obtain⟨e,he,h1,_⟩:=eJ.1 k;unfold aV at h;rw[List.find?_eq_none]at h;exact h e he (by simpa using h1)
theorem BO{l:List ah}{x:ID}(h:(aV l x).isSome=true){s:Int}(hs:s=0∨s=1):(x,s)∈ends l:=by obtain⟨e,he⟩:=adi.1 h;exact eJ.2 ⟨e,Nn he,vn he,hs⟩
theorem Rk{o:aY}(h:cj o=0):cW (aW o)=true:=by
 unfold cj at h
 split at h;· cases h
 split at h;· cases h
 split at h;· cases h
 rename_i h3;simpa using h3
theorem BP{o:aY}(h:cj o=0):1≤o.1∧o.1≤8:=by
 unfold cj at h
 split at h;· cases h
 split at h;· cases h
 omega
theorem DT{o:aY}(h:cj o=0)(hk:o.1=5):cW (eL o)=true∧cW (ba o)=true∧0≤oN o∧oN o≤3:=by
 unfold cj at h
 split at h;· cases h
 split at h;· cases h
 split at h;· cases h
 split at h;· cases h
 rw[if_neg (show ¬o.1=3 by omega)]at h
 split at h
 ·assumption
 ·cases h
theorem HV{o:aY}(h:cj o=0)(hk:o.1=8):rZ (oN o)=true:=by
 unfold cj at h
 split at h;· cases h
 split at h;· cases h
 split at h;· cases h
 split at h;· cases h
 rw[if_neg (show ¬o.1=3 by omega),if_neg (show ¬o.1=5 by omega),if_neg (show ¬o.1=6 by omega)]at h
 split at h
 ·assumption
 ·cases h
theorem DU{o:aY}(h:cj o=0)(hk:o.1=7):yw (nO o)=true:=by
 unfold cj at h
 split at h;· cases h
 split at h;· cases h
 split at h;· cases h
 split at h;· cases h
 rw[if_neg (show ¬o.1=3 by omega),if_neg (show ¬o.1=5 by omega),if_neg (show ¬o.1=6 by omega),if_neg (show ¬o.1=8 by omega)]at h
 split at h
 ·assumption
 ·cases h
def iC(l:List aw):Prop:=l.Pairwise fun a b=>kF a.1 b.1=true
theorem oX{a b:ab}:mT a b≤0↔a=b∨kF a b=true:=by
 unfold mT;by_cases h:a=b
 ·subst h;simp
 ·rw[if_neg h];cases kF a b<;>simp[h]
theorem BQ{q g:aw}:∀{l:List aw},q∈kR g l→q=g∨(q∈l∧q.1≠g.1)
 |[],h=>by simp[kR]at h;exact .inl h
 |e::r,h=>by
  unfold kR at h
  split at h
  ·rcases acn.1 h with h|h
   ·exact .inl h
   ·unfold mU at h;rw[List.mem_filter]at h;exact .inr ⟨h.1,by simpa using h.2⟩
  ·split at h
   ·rename_i bq;rcases acn.1 h with rfl|h
    ·exact .inr ⟨ac9 ..,bq⟩
    ·rcases BQ h with h|⟨h,h2⟩
     ·exact .inl h
     ·exact .inr ⟨acm _ h,h2⟩
   ·rcases BQ h with h|⟨h,h2⟩
    ·exact .inl h
    ·exact .inr ⟨acm _ h,h2⟩
theorem iC.add(g:aw):∀{l:List aw},iC l→iC (kR g l)
 |[],_=>List.pairwise_singleton _ _
 |e::r,h=>by
  have hr:∀{q:aw},q∈r→kF e.1 q.1=true:=fun {q} hq=>adn h hq;unfold kR
  split
  ·rename_i ho;refine List.Pairwise.cons (fun q hq=>?_) (h.filter _);unfold mU at hq;rw[List.mem_filter]at hq;have bq:q.1≠g.1:=by simpa using hq.2
   have hle:e.1=q.1∨kF e.1 q.1=true:=by
    rcases acn.1 hq.1 with rfl|hq
    ·exact .inl rfl
    ·exact .inr (hr hq)
   rcases oX.1 ho with ho|ho
   ·rcases hle with k|k
    ·exact absurd (ho.trans k).symm bq
    ·rw[ho];exact k
   ·rcases hle with k|k
    ·rw[←k];exact ho
    ·exact gq ho k
  ·rename_i ho;have IU:kF e.1 g.1=true:=by have h1:¬(g.1=e.1∨kF g.1 e.1=true):=fun k=>ho (oX.2 k);exact wQ (by simpa using fun k=>h1 (.inr k)) (fun k=>h1 (.inl k))
   have hs:=iC.add g (adX h)
   split
   ·refine List.Pairwise.cons (fun q hq=>?_) hs;rcases BQ hq with rfl|⟨hq,_⟩
    ·exact IU
    ·exact hr hq
   ·exact hs
theorem oY(e:aw)(r:List aw)(x:ab):fV (e::r) x=if e.1=x then some e.2 else fV r x:=by
 unfold fV;rw[List.find?_cons];by_cases h:e.1=x
 ·simp[h]
 ·simp[h]
theorem rP{g:aw}:∀{l:List aw},(∀q∈l,q.1≠g.1)→mU g l=l:=fun {l} h=>by unfold mU;rw[List.filter_eq_self];intro q hq;simpa using h q hq
theorem HW(g:aw):∀{l:List aw},iC l→(kR g l).length=if(fV l g.1).isSome=true then l.length else l.length+1
 |[],_=>rfl
 |e::r,h=>by
  have hr:∀{q:aw},q∈r→kF e.1 q.1=true:=fun {q} hq=>adn h hq;have ih:=HW g (adX h);unfold kR
  split
  ·rename_i ho;rcases oX.1 ho with ho|ho
   ·have h1:mU g (e::r)=r:=by
     have:mU g (e::r)=mU g r:=by unfold mU;rw[List.filter_cons_of_neg (by simp[ho])]
     rw[this];exact rP (fun q hq k=>by have:=hr hq;rw[k,ho,dG]at this;cases this)
    rw[h1,oY,if_pos ho.symm];simp
   ·have h2:∀q∈e::r,q.1≠g.1:=fun q hq k=>by
     have:kF g.1 q.1=true:=by
      rcases acn.1 hq with rfl|hq
      ·exact ho
      ·exact gq ho (hr hq)
     rw[k,dG]at this;cases this
    have h3:fV (e::r) g.1=none:=by
     unfold fV;have:(List.find? (fun q=>decide (q.1=g.1)) (e::r))=none:=by rw[List.find?_eq_none];intro q hq;simpa using h2 q hq
     rw[this];rfl
    rw[rP h2,h3];simp
  ·rename_i ho;have bq:e.1≠g.1:=fun k=>ho (oX.2 (.inl k.symm));rw[if_pos bq,oY,if_neg bq];simp only[List.length_cons,ih]
   split<;>rfl
theorem jL{l:List aw}(h:iC l)(hn:l.length≤400)(g:aw):iC (bK l g)∧(bK l g).length≤400:=by
 unfold bK
 split
 ·exact⟨h,hn⟩
 ·rename_i hc;refine⟨iC.add g h,?_⟩;rw[HW g h]
  split
  ·exact hn
  ·rename_i h1;by_cases h2:400≤l.length
   ·exact absurd ⟨by simpa using h1,h2⟩ hc
   ·omega
theorem DV{α:Type}{o:Option α}(h:¬o.isSome=false):o.isSome=true:=by cases o<;>simp_all
structure fb(s:StateT):Prop where
 d:Wf s.1
 g:iC s.2
 n:s.2.length≤400
theorem fb.zero:fb zS:=⟨Wf.zero,List.Pairwise.nil,by simp[zS]⟩
theorem fb.add{l:List aw}(h:iC l)(hn:l.length≤400){d:aj}(hd:Wf d)(g:aw):fb (d,bK l g):=⟨hd,(jL h hn g).1,(jL h hn g).2⟩
theorem Nt{f:ag→ag}(hf:∀v,(f v).2.1=v.2.1)(l:List ag):ar (l.map f)=ar l:=by unfold ar;rw[List.flatMap_map];congr 1;funext v;exact hf v
theorem Rl{f:ah→ah}(hf:∀v,(f v).1=v.1)(l:List ah):ends (l.map f)=ends l:=by unfold ends;rw[List.flatMap_map];congr 1;funext v;rw[hf]
theorem Ly(o:aY)(w:ah):(jE o w).1=w.1:=by unfold jE;split<;>(try split)<;>rfl
theorem Nu(o:aY)(w:ag):(iH o w).2.1=w.2.1:=by unfold iH;split<;>(try split)<;>rfl
theorem Wf.zi{d:aj}(h:Wf d){x:ID}(hx:aV d.2 x=none)(s:Int):(x,s)∉ar d.1:=fun k=>BN hx s (h.pd.mem_iff.1 k)
theorem Wf.mW{d:aj}(h:Wf d){x:ID}(hx:(aV d.2 x).isSome=true){s:Int}(hs:s=0∨s=1):(x,s)∈ar d.1:=h.pd.mem_iff.2 (BO hx hs)
theorem Wf.wH{s:StateT}(h:Wf s.1){o:aY}(hm:cj o=0)(hk:7≤o.1):Wf (wH s o).1.1:=by
 have hk8:=(BP hm).2;unfold Vs.wH
 split
 ·refine⟨h.sv.map (Lw o),h.se.map (Ly o),by simp;exact h.nv,by simp;exact h.ne,fun v hv=>?_,fun e he=>?_,?_⟩
  ·obtain⟨w,hw,rfl⟩:=adq.1 hv;have g:=h.gv w hw;unfold iH
   split
   ·split
    ·rename_i h7;exact⟨g.i,DU hm h7,g.a,g.t⟩
    ·exact⟨g.i,g.l,HV hm (by omega),g.t⟩
   ·exact g
  ·obtain⟨w,hw,rfl⟩:=adq.1 he;have g:=h.ge w hw;unfold jE
   split
   ·split
    ·rename_i h7;exact⟨g.i,DU hm h7,g.a⟩
    ·exact⟨g.i,g.l,HV hm (by omega)⟩
   ·exact g
  ·show(ar (s.1.1.map (iH o))).Perm (ends (s.1.2.map (jE o)));rw[Nt (Nu o),Rl (Ly o)];exact h.pd
 ·exact Wf.zero
theorem oZ{s:StateT}{c:pq}(h:(aZ s c).2.1=0):(bp s.1 c.1).isSome=true∧(aZ s c).1.1=c.1:=by
 unfold aZ at h ⊢
 cases hv:bp s.1 c.1 with
 |none=>rw[hv]at h;cases h
 |some v=>exact⟨rfl,rfl⟩
theorem vt{l:List ag}{x y:ID}(r:List ab)(h:(aR l x).isSome=true):(aR (l.map (rG y r)) x).isSome=true:=by rw[nR (qM y r)];simpa using h
theorem Wf.link{d:aj}(h:Wf d){x:ID}(hx:cW x=true)(hn:aV d.2 x=none)(he:¬40≤d.2.length){a b:pq}(ha:(aR d.1 a.1).isSome=true)(hb:(aR d.1 b.1).isSome=true) :
  Wf (bN (bN (d.1,dq (x,(e0,0)) d.2) a (x,0)) b (x,1)):=by
 have hrw:Rw ((d.1,dq (x,(e0,0)) d.2):aj).1:=h.rw;obtain⟨va,hva⟩:=adi.1 ha;have h0:=h.zi hn 0;have h1:=h.zi hn 1;obtain⟨p1,q1⟩:=sN (c:=a) (x:=(x,0)) hrw hva h0;obtain⟨vb,hvb⟩:=adi.1 (vt (x:=b.1) (y:=a.1) (lS (bJ (d.1,dq (x,(e0,0)) d.2) a.1) a.2 (x,0)) hb);have Su:(x,1)∉ar (bN (d.1,dq (x,(e0,0)) d.2) a (x,0)).1:=fun k=>by
  rcases acn.1 (p1.mem_iff.1 k) with k|k
  ·cases k
  ·exact h1 k
 obtain⟨p2,q2⟩:=sN (c:=b) (x:=(x,1)) q1 hvb Su;refine⟨q2.s,wP (x,(e0,0)) h.se hn,?_,?_,yd (yd h.gv _ _) _ _,fun e hem=>?_,?_⟩
 ·unfold bN;rw[eZ,eZ];exact h.nv
 ·show(dq (x,(e0,0)) d.2).length≤40;rw[kf];omega
 ·rcases nP.1 (show e∈dq (x,(e0,0)) d.2 from hem) with rfl|hem
  ·exact⟨hx,rN,rO⟩
  ·exact h.ge e hem
 ·show(ar _).Perm (ends (dq (x,(e0,0)) d.2));refine(p2.trans (List.Perm.cons _ p1)).trans (List.Perm.trans ?_ (DR (x,(e0,0)) d.2).symm);exact(List.Perm.swap _ _ _).trans (List.Perm.cons _ (List.Perm.cons _ h.pd))
theorem Wf.cut{d:aj}(h:Wf d){x:ID}(hx:(aV d.2 x).isSome=true):Wf (aS (aB (aB d (x,0)) (x,1)) zI x):=by
 have h0:=h.mW hx (s:=0) (.inl rfl);have h1:=h.mW hx (s:=1) (.inr rfl);obtain⟨p1,q1⟩:=eY h.rw h0;have Su:(x,1)∈ar (aB d (x,0)).1:=by
  rcases acn.1 (p1.mem_iff.1 h1) with k|k
  ·cases k
  ·exact k
 obtain⟨p2,q2⟩:=eY q1 Su;have N9:=jK (jK h.gv (x,0)) (x,1);have T9:(aS (aB (aB d (x,0)) (x,1)) zI x).1=(aB (aB d (x,0)) (x,1)).1:=vq N9;refine⟨by rw[T9];exact q2.s,tC h.se,?_,?_,by rw[T9];exact N9,fun e he=>h.ge e ?_,?_⟩
 ·rw[T9];unfold aB;rw[eZ,eZ];exact h.nv
 ·exact adk (adv _ _) h.ne
 ·exact(adR.1 (show e∈d.2.filter fun w=>decide (w.1≠x) from he)).1
 ·rw[T9];show(ar (aB (aB d (x,0)) (x,1)).1).Perm (ends (cS d.2 x));have p3:((x,0)::(x,1)::ar (aB (aB d (x,0)) (x,1)).1).Perm ((x,0)::(x,1)::ends (cS d.2 x)) :=((p1.trans (List.Perm.cons _ p2)).symm.trans h.pd).trans (BJ h.se hx);exact p3.cons_inv.cons_inv
theorem iD{x:ab}(h:x.2=0∨x.2=1):(ao x).1=x.1∧((x.2=0∧(ao x).2=1)∨(x.2=1∧(ao x).2=0)):=by
 refine⟨rfl,?_⟩;unfold ao;rcases h with h|h
 ·exact .inl ⟨h,by rw[h];rfl⟩
 ·exact .inr ⟨h,by rw[h];rfl⟩
theorem HX{x:ab}(h:x.2=0∨x.2=1)(l:List ab):(x::ao x::l).Perm ((x.1,0)::(x.1,1)::l):=by
 obtain⟨h1,h2⟩:=iD h;have e:x=(x.1,x.2):=rfl;have e2:ao x=(x.1,(ao x).2):=rfl;rcases h2 with⟨ha,hb⟩|⟨ha,hb⟩
 ·rw[ha]at e;rw[hb]at e2;rw[e2,e]
 ·rw[ha]at e;rw[hb]at e2;rw[e2,e];exact List.Perm.swap _ _ _
theorem HY{n:Int}(h0:0≤n)(h3:n≤3):(IntKind.wrap .i64 (1-Int.tmod n 2)=0∨IntKind.wrap .i64 (1-Int.tmod n 2)=1)∧(IntKind.wrap .i64 (Int.tdiv n 2)=0∨IntKind.wrap .i64 (Int.tdiv n 2)=1):=by
 have:n=0∨n=1∨n=2∨n=3:=by omega
 rcases this with rfl|rfl|rfl|rfl<;>exact⟨by decide,by decide⟩
theorem Wf.split{d:aj}(h:Wf d){m k:ab}{v:ID}(hv:cW v=true)(hk:cW k.1=true)(WB:m.2=0∨m.2=1)(mY:k.2=0∨k.2=1)(hm:(aV d.2 m.1).isSome=true)(SY:aR d.1 v=none)(hnk:aV d.2 k.1=none) (VG:¬24≤d.1.length) (hle:¬40≤d.2.length):Wf (dW (v,(cI [m,k],(e0,0))) (aC d m (ao k)).1,dq (k.1,(e0,0)) (aC d m (ao k)).2):=by
 have hmd:m∈ar d.1:=h.mW hm WB;have IT:ao k∉ar d.1:=h.zi hnk _;obtain⟨p1,q1⟩:=oW h.rw hmd IT;have Ua:aR (aC d m (ao k)).1 v=none:=by unfold aC Vs.b8;rw[nR (qM _ _),SY];rfl
 refine⟨nQ (v,(cI [m,k],(e0,0))) q1.s Ua,wP (k.1,(e0,0)) h.se hnk,?_,?_,fun w hw=>?_,fun e he=>?_,?_⟩
 ·show(dW _ (aC d m (ao k)).1).length≤24;rw[fW];unfold aC;rw[eZ];omega
 ·show(dq _ d.2).length≤40;rw[kf];omega
 ·rcases lU.1 hw with rfl|hw
  ·exact⟨hv,rN,rO,rL _⟩
  ·exact tF h.gv _ _ w hw
 ·rcases nP.1 (show e∈dq (k.1,(e0,0)) d.2 from he) with rfl|he
  ·exact⟨hk,rN,rO⟩
  ·exact h.ge e he
 ·show(ar (dW _ _)).Perm (ends (dq (k.1,(e0,0)) d.2));refine(BI _ _).trans (List.Perm.trans ?_ (DR (k.1,(e0,0)) d.2).symm);refine(adx _ (nT [m,k])).trans ?_;show(m::k::ar (aC d m (ao k)).1).Perm _;refine(List.Perm.swap k m _).trans ((List.Perm.cons k p1.symm).trans ?_);refine(HX mY _).trans ?_;exact List.Perm.cons _ (List.Perm.cons _ h.pd)
theorem Wf.Rm{d:aj}(h:Wf d){v:ag}(hv:v∈d.1)(hr:v.2.1=[]):Wf (aS d v.1 zI):=by
 obtain⟨a,b,h1,_,h2,_⟩:=qN h.sv hv;refine⟨oU h.sv,?_,adk (adv _ _) h.nv,adk (adv _ _) h.ne,fun w hw=>h.gv w ?_,fun e he=>h.ge e ?_,?_⟩
 ·exact tC h.se
 ·exact(adR.1 (show w∈d.1.filter fun w=>decide (w.1≠v.1) from hw)).1
 ·exact(adR.1 (show e∈d.2.filter fun w=>decide (w.1≠zI) from he)).1
 ·show(ar (dv d.1 v.1)).Perm (ends (cS d.2 zI));rw[h2,vp h.ge];have p:=iB a b v;rw[←h1,hr,List.nil_append]at p;exact p.symm.trans h.pd
theorem Wf.Xr{d:aj}(h:Wf d){v:ag}{a b:ab}(hv:v∈d.1)(hr:v.2.1.Perm [a,b])(Cq:a.1≠b.1):Wf (aS (aC (aS d v.1 zI) (ao b) a) zI b.1):=by
 obtain⟨p,q,h1,_,h2,_⟩:=qN h.sv hv;have pd:(ar d.1).Perm (a::b::ar (p++q)):=by have:=(iB p q v).trans (adx _ hr);rw[←h1]at this;exact this
 have Nv:aS d v.1 zI=(p++q,d.2):=by unfold aS;rw[h2,vp h.ge]
 have FI:=pd.nodup_iff.1 h.rw.n;have hbm:b∈ends d.2:=h.pd.mem_iff.1 (pd.mem_iff.2 (by simp));obtain⟨e,he,Y8,Cx⟩:=eJ.1 hbm;have EE:(aV d.2 b.1).isSome=true:=by unfold aV;rw[List.find?_isSome];exact⟨e,he,by simpa using Y8⟩
 obtain⟨_,ho⟩:=iD Cx;have Xs:ao b∈ar (p++q):=by
  have h3:ao b∈ar d.1:=h.mW (s:=(ao b).2) EE (by rcases ho with⟨_,k⟩|⟨_,k⟩<;>omega);rcases acn.1 (pd.mem_iff.1 h3) with k|k
  ·exact absurd (congrArg Prod.fst k) (fun k=>Cq k.symm)
  rcases acn.1 k with k|k
  ·have:=congrArg Prod.snd k;omega
  ·exact k
 have Ub:Rw (p++q):=by refine⟨?_,(adf.1 (adf.1 FI).2).2⟩;rw[←h2];exact oU h.sv
 have ha:a∉ar (p++q):=fun k=>(adf.1 FI).1 (acm _ k);rw[Nv];obtain⟨p1,q1⟩:=oW (d:=(p++q,d.2)) Ub Xs ha;have N9:∀w∈(aC (p++q,d.2) (ao b) a).1,GV w:=by
  refine tF (d:=(p++q,d.2)) (fun w hw=>h.gv w ?_) _ _;rw[h1];rcases adb.1 hw with k|k
  ·exact acr _ k
  ·exact acW _ (acm _ k)
 have T9:(aS (aC (p++q,d.2) (ao b) a) zI b.1).1=(aC (p++q,d.2) (ao b) a).1:=vq N9;refine⟨by rw[T9];exact q1.s,tC h.se,?_,adk (adv _ _) h.ne,by rw[T9];exact N9,fun f hf=>h.ge f ?_,?_⟩
 ·rw[T9];unfold aC;rw[eZ];have:=h.nv;rw[h1]at this;simp at this ⊢;omega
 ·exact(adR.1 (show f∈d.2.filter fun w=>decide (w.1≠b.1) from hf)).1
 ·rw[T9];show(ar (aC (p++q,d.2) (ao b) a).1).Perm (ends (cS d.2 b.1));have p3:(b::ao b::ar (aC (p++q,d.2) (ao b) a).1).Perm (b::ao b::ends (cS d.2 b.1)):=by refine List.Perm.trans (List.Perm.cons b p1.symm) ?_;refine(List.Perm.swap a b _).trans (pd.symm.trans (h.pd.trans ?_));exact(BJ h.se EE).trans (HX Cx _).symm
  exact p3.cons_inv.cons_inv
theorem fb.one{s:StateT}(h:fb s)(o:aY):fb (kT s o).1:=by
 unfold kT
 split
 ·exact fb.zero
 rename_i hm;have hm:cj o=0:=Classical.byContradiction fun k=>hm k;have bL:=Rk hm
 split
 ·unfold pG
  split;· exact fb.zero
  split;· exact fb.zero
  rename_i h1 h2;have hn:aR s.1.1 (aW o)=none:=by simpa[bp] using h1
  refine⟨⟨nQ _ h.d.sv hn,h.d.se,by show(dW _ s.1.1).length≤24;rw[fW];omega,h.d.ne,fun w hw=>?_,h.d.ge,?_⟩,h.g,h.n⟩
  ·rcases lU.1 hw with rfl|hw
   ·exact⟨bL,rN,rO,rfl⟩
   ·exact h.d.gv w hw
  ·exact(BI _ _).trans h.d.pd
 split
 ·unfold ya
  cases hv:bp s.1 (aW o) with
  |none=>exact fb.zero
  |some v =>
   simp only
   split
   ·exact fb.zero
   ·rename_i hr;have:=h.d.Rm (gm hv) (by simpa using hr);rw[kh hv]at this;exact⟨this,h.g,h.n⟩
 split
 ·unfold pC
  split;· exact fb.zero
  split;· exact fb.zero
  split;· exact fb.zero
  split;· exact fb.zero
  split;· exact fb.zero
  rename_i h1 h2 h3 h4 h5;have hn:aV s.1.2 (aW o)=none:=by simpa[gE] using h1
  obtain⟨ca,ca2⟩:=oZ (s:=s) (c:=oA o) (Classical.byContradiction fun k=>h3 k);obtain⟨cb,cb2⟩:=oZ (s:=s) (c:=oB o) (Classical.byContradiction fun k=>h4 k);refine⟨?_,h.g,h.n⟩;unfold fX;refine h.d.link bL hn h2 (by rw[ca2];exact ca) ?_
  split
  ·exact cb
  ·rw[cb2];exact cb
 split
 ·unfold Fi
  split;· exact fb.zero
  rename_i h1;have h2:=jL h.g h.n ((aW o,0),da s.1 (aW o,0));exact fb.add h2.1 h2.2 (h.d.cut (DV h1)) _
 split
 ·rename_i hk;unfold lV
  split;· exact fb.zero
  split;· exact fb.zero
  split;· exact fb.zero
  split;· exact fb.zero
  split;· exact fb.zero
  rename_i h1 h2 h3 h4 h5;obtain⟨m1,m2,m3,m4⟩:=DT hm hk;obtain⟨s1,s2⟩:=HY m3 m4;refine⟨?_,h.g,h.n⟩;exact h.d.split (m:=IX o) (k:=FK o) m1 m2 s1 s2 (DV h1) (by simpa[bp] using h2) (by simpa[gE,FK] using h3) h4 h5
 split
 ·unfold kS
  split
  ·exact fb.zero
  ·rename_i v hv
   split
   ·rename_i r0 r1 hr;have hvm:=gm hv;have hvi:=kh hv;have key:∀a b:ab,v.2.1.Perm [a,b]→a.1≠b.1→fb (J4 s o a b,HQ s.2 a b):=fun a b hp Cq=>by have h2:=jL h.g h.n ((b.1,0),pS a b 0);have:=h.d.Xr hvm hp Cq;rw[hvi]at this;exact fb.add h2.1 h2.2 this _
    unfold jT
    split;· exact fb.zero
    rename_i bq
    split
    ·exact key r1 r0 (by rw[hr];exact List.Perm.swap _ _ _) (fun k=>bq k.symm)
    split
    ·exact key r0 r1 (by rw[hr]) bq
    ·exact fb.zero
   ·exact fb.zero
 ·rename_i k1 k2 k3 k4 k5 k6;have hk:=BP hm;have:=h.d.wH hm (by omega);refine⟨this,?_,?_⟩
  ·unfold wH;split
   ·exact h.g
   ·exact List.Pairwise.nil
  ·unfold wH;split
   ·exact h.n
   ·simp[zS]
theorem fb.go:∀(l:List aY) {s:StateT},fb s→fb (Fj l s).1
 |[],s,h=>h
 |o::r,s,h=>by
  unfold Fj
  split
  ·exact fb.zero
  ·exact fb.go r (h.one o)
theorem fb.apply{s:StateT}(h:fb s)(l:List aY):fb (cP s l).1:=by
 unfold cP
 split
 ·exact fb.zero
 ·exact fb.go l h
theorem fb.try{s:StateT}(h:fb s)(l:List aY):fb (je s l):=by
 unfold je
 split
 ·exact h
 ·exact h.apply l
theorem fb.reach:∀(m:Nat) (l:List (List aY)) {s:StateT},fb s→fb (lW m l s)
 |0,_,s,h=>by simpa[lW] using h
 |m+1,[],s,h=>h
 |m+1,l::r,s,h=>by rw[lW];exact fb.reach m r (h.try _)
theorem fb.Lv(l:List (List aY)):fb (BC l):=fb.reach 30 l fb.zero
end Go.Vs
