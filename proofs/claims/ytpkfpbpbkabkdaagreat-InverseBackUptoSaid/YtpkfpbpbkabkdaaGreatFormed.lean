/- Diagrams that are well formed -/
import Derived.Test.YtpkfpbpbkabkdaaGreatRings
set_option linter.unusedVariables false
set_option linter.unusedSimpArgs false
namespace Go.Vs
open Go.Proofs
theorem fw(row:List ae):(bB row).Perm row:=by unfold bB kD;exact adg.trans (List.Perm.of_eq (List.take_append_drop _ _))
theorem RP{row:List ae}(h:0<row.length)(hl:∀j,(hj:j<row.length)→lz row[j] row[0]=false):fP row row 0 0=0:=by
 have hm:=lA row row 0 0 h (by omega);have h2:=(od h).2 0;by_cases hz:fP row row 0 0=0
 ·exact hz
 ·have:=h2 (by omega) h;rw[mO hm,hl _ hm]at this;cases this
theorem VS(row:List ae):kD row 0=row:=by unfold kD;simp
theorem uO(row:List ae):bB (bB row)=bB row:=by
 by_cases h0:row.length=0
 ·have:row=[]:=by simpa using h0
  subst this;rfl
 have hp:0<row.length:=by omega
 have hm:=lA row row 0 0 hp (by omega);have hp2:0<(bB row).length:=by rw[iv];exact hp
 have h1:(bB row)[0]=row.getD (fP row row 0 0) zD:=by have:=mL (row:=row) (k:=fP row row 0 0) (i:=0) (by omega) hp;rw[Nat.add_zero,Nat.mod_eq_of_lt hm,List.getElem?_eq_getElem hm]at this;rw[mO hm];exact(aa9.1 this).2
 have h2:fP (bB row) (bB row) 0 0=0:=by refine RP hp2 (fun j hj=>?_);rw[h1];have gI:(bB row)[j]∈row:=kl.1 (acy hj);obtain⟨i,hi,he⟩:=adk gI;rw[←he];exact(od hp).1 i hi
 unfold bB at h2 ⊢;rw[h2,VS]
theorem RQ(row:List ae)(a d:ae):bB (gN row a d)=gN row a d:=by unfold gN;split<;>exact uO _
theorem uP(row:List ae)(d:ae):bB (bz row d)=bz row d:=uO _
theorem NZ(row:List ae)(a d:ae):bB (dJ row a d)=dJ row a d:=uO _
theorem Hr{row:List ae}{d:ae}(a:ae)(h:d∉row):(gN row a d).Perm (d::row):=by unfold gN;rw[if_neg h];refine(fw _).trans (adf.trans ?_);rw[List.take_append_drop]
theorem qD{row:List ae}{d:ae}(h:d∈row)(hn:row.Nodup):row.Perm (d::bz row d):=by
 obtain⟨k,_,h2,_⟩:=eU h;obtain⟨h3,h4⟩:=aa9.1 h2;unfold bz;rw[As hn h2];refine List.Perm.trans ?_ (List.Perm.cons d (fw _).symm)
 conv=>lhs;rw[←List.take_append_drop k row,List.drop_eq_getElem_cons h3,h4]
 exact adf
theorem EW{row:List ae}{dq d:ae}(h:dq∈row)(hd:d∉row):(d::row).Perm (dq::dJ row dq d):=by
 obtain⟨k,h1,h2,_⟩:=eU h;obtain⟨h3,h4⟩:=aa9.1 h2;unfold dJ;rw[if_pos ⟨h,hd⟩,h1,Int.toNat_natCast];refine List.Perm.trans ?_ (List.Perm.cons dq (fw _).symm);rw[List.set_eq_take_append_cons_drop,if_pos h3]
 conv=>lhs;rw[←List.take_append_drop k row,List.drop_eq_getElem_cons h3,h4]
 have p1:(row.take k++dq::row.drop (k+1)).Perm (dq::(row.take k++row.drop (k+1))):=adf;have p2:(row.take k++d::row.drop (k+1)).Perm (d::(row.take k++row.drop (k+1))):=adf;exact(List.Perm.cons d p1).trans ((List.Perm.swap dq d _).trans (List.Perm.cons dq p2.symm))
def aq(l:List ai):List ae:=l.flatMap fun v=>v.2.1
def ends(l:List an):List ae:=l.flatMap fun e=>[(e.1,0),(e.1,1)]
theorem jJ(v:ai)(l:List ai):aq (v::l)=v.2.1++aq l:=List.flatMap_cons
theorem qE(a b:List ai):aq (a++b)=aq a++aq b:=List.flatMap_append
theorem gY(a b:List ai)(v:ai):(aq (a++v::b)).Perm (v.2.1++aq (a++b)):=by rw[qE,jJ,qE,←List.append_assoc,←List.append_assoc];exact ac3 _ adg
theorem aM{x:ae}{l:List ai}:x∈aq l↔∃v∈l,x∈v.2.1:=List.mem_flatMap
theorem k9(e:an)(l:List an):ends (e::l)=(e.1,0)::(e.1,1)::ends l:=by unfold ends;rw[List.flatMap_cons];rfl
theorem cO{x:ae}{l:List an}:x∈ends l↔∃e∈l,e.1=x.1∧(x.2=0∨x.2=1):=by
 unfold ends;rw[List.mem_flatMap];constructor
 ·rintro⟨e,he,hx⟩;rcases abi.1 hx with rfl|hx
  ·exact⟨e,he,rfl,.inl rfl⟩
  ·rw[List.mem_singleton]at hx;subst hx;exact⟨e,he,rfl,.inr rfl⟩
 ·rintro⟨e,he,h1,h2⟩;refine⟨e,he,?_⟩;obtain⟨x1,x2⟩:=x;simp only at h1 h2;subst h1;rcases h2 with rfl|rfl<;>simp
theorem rI:∀{l:List an},dw l→(ends l).Nodup
 |[],_=>List.nodup_nil
 |e::r,h=>by
  have bq:∀s:Int,(e.1,s)∉ends r:=fun s hs=>by obtain⟨f,hf,h1,_⟩:=cO.1 hs;have:=acV h hf;simp only at h1;rw[h1,ct]at this;cases this
  rw[k9];refine abv.2 ⟨?_,abv.2 ⟨bq 1,rI h.of_cons⟩⟩;rw[List.mem_cons];rintro(h1|h1)
  ·cases h1
  ·exact bq 0 h1
theorem Hs(e:an):∀l:List an,(bR e l).Perm (e::l)
 |[]=>adO _
 |w::r=>by
  unfold bR
  split
  ·exact adO _
  ·exact(List.Perm.cons w (Hs e r)).trans (List.Perm.swap e w r)
theorem Ht(e:ai):∀l:List ai,(cr e l).Perm (e::l)
 |[]=>adO _
 |w::r=>by
  unfold cr
  split
  ·exact adO _
  ·exact(List.Perm.cons w (Ht e r)).trans (List.Perm.swap e w r)
theorem Hu(e:an)(l:List an):(ends (bR e l)).Perm ((e.1,0)::(e.1,1)::ends l):=by rw[←k9];exact List.Perm.flatMap_right _ (Hs e l)
theorem wN(v:ai)(l:List ai):(aq (cr v l)).Perm (v.2.1++aq l):=by rw[←jJ];exact List.Perm.flatMap_right _ (Ht v l)
theorem EX{l:List an}{x:ID}(hs:dw l)(h:(aL l x).isSome=true):(ends l).Perm ((x,0)::(x,1)::ends (bF l x)):=by
 obtain⟨e,he⟩:=ab3.1 h;obtain⟨h3,h4⟩:=aa9.1 (ma hs he);rw[Ao hs h]
 conv=>lhs;rw[←List.take_append_drop (cE l x) l,List.drop_eq_getElem_cons h3,h4]
 rw[←jm he,←k9];exact List.Perm.flatMap_right _ adf
theorem eW{l:List ai}{v:ai}(hs:cd l)(h:v∈l):aN l v.1=some v:=by
 have hf:(aN l v.1).isSome=true:=by unfold aN;rw[List.find?_isSome];exact⟨v,h,by simp⟩
 obtain⟨u,hu⟩:=ab3.1 hf;have h1:=dK hs hu;obtain⟨k,hk,he⟩:=adk h;have h2:l[k]? = some v:=by rw[List.getElem?_eq_getElem hk,he]
 rw[kY hs h2 rfl,h1]at h2;rw[hu];exact h2
theorem mu{l:List ai}{v:ai}(hs:cd l)(h:v∈l):∃a b,l=a++v::b∧(∀u∈a++b,u.1≠v.1)∧bE l v.1=a++b∧∀r,l.map (iM v.1 r)=a++(v.1,(r,v.2.2))::b:=by
 obtain⟨a,b,rfl⟩:=ac6 h;have hp:=List.pairwise_append.1 hs;have hb:=List.pairwise_cons.1 hp.2.1;have bq:∀u∈a++b,u.1≠v.1:=fun u hu e=>by
  rcases abG.1 hu with hu|hu
  ·have:=hp.2.2 u hu v (by simp);rw[e,ct]at this;cases this
  ·have:=hb.1 u hu;rw[e,ct]at this;cases this
 have hm:∀(r:List ae) (c:List ai),(∀u∈c,u.1≠v.1)→c.map (iM v.1 r)=c:=fun r c hc=>by
  conv=>rhs;rw[←List.map_id c]
  exact acY fun u hu=>by unfold iM;rw[if_neg (hc u hu)];rfl
 have hd:∀c:List ai,(∀u∈c,u.1≠v.1)→bE c v.1=c:=fun c hc=>by unfold bE;rw[List.filter_eq_self];intro u hu;simpa using hc u hu
 refine⟨a,b,rfl,bq,?_,fun r=>?_⟩
 ·unfold bE;rw[List.filter_append,List.filter_cons_of_neg (by simp)];have h1:=hd a (fun u hu=>bq u (abn _ hu));have h2:=hd b (fun u hu=>bq u (abj _ hu));unfold bE at h1 h2;rw[h1,h2]
 ·rw[List.map_append,List.map_cons,hm r a (fun u hu=>bq u (List.mem_append_left _ hu)),hm r b (fun u hu=>bq u (List.mem_append_right _ hu))];unfold iM;rw[if_pos rfl]
structure Rw(l:List ai):Prop where
 s:cd l
 n:(aq l).Nodup
theorem Rw.ring{l:List ai}(h:Rw l){v:ai}(hv:v∈l):v.2.1.Nodup:=by obtain⟨a,b,rfl,_⟩:=mu h.s hv;exact(ac2.1 ((gY a b v).nodup_iff.1 h.n)).1
theorem Rw.one{l:List ai}(h:Rw l){v w:ai}{x:ae}(hv:v∈l)(hw:w∈l)(hx:x∈v.2.1)(hy:x∈w.2.1):w=v:=by
 obtain⟨a,b,rfl,_⟩:=mu h.s hv;have hn:=ac2.1 ((gY a b v).nodup_iff.1 h.n);have:w∈a++v::b:=hw;rw[List.mem_append,List.mem_cons]at this;rcases this with k|k|k
 ·exact absurd rfl (hn.2.2 x hx x (aM.2 ⟨w,abn _ k,hy⟩))
 ·exact k
 ·exact absurd rfl (hn.2.2 x hx x (aM.2 ⟨w,abj _ k,hy⟩))
theorem dp{l:List ai}(h:Rw l){v:ai}{x:ae}(hv:v∈l)(hx:x∈v.2.1):EM l x=some v.1:=by
 have hf:(l.find? fun u=>decide (x∈u.2.1)).isSome=true:=by rw[List.find?_isSome];exact⟨v,hv,by simpa using hx⟩
 obtain⟨u,hu⟩:=ab3.1 hf;have h1:=acG hu;have h2:x∈u.2.1:=by simpa using adi hu
 unfold EM;rw[hu,h.one hv h1 hx h2];rfl
theorem LK{l:List ai}{x:ae}(h:x∉aq l):EM l x=none:=by
 unfold EM;have:(l.find? fun u=>decide (x∈u.2.1))=none:=by rw[List.find?_eq_none];intro u hu hx;exact h (aM.2 ⟨u,hu,by simpa using hx⟩)
 rw[this];rfl
theorem gk{d:ak}(h:cd d.1){v:ai}(hv:v∈d.1):aV d v.1=v.2.1:=by unfold aV aO;rw[eW h hv];rfl
theorem c9{d:ak}(h:Rw d.1){v:ai}{x:ae}(hv:v∈d.1)(hx:x∈v.2.1):av d x=b8 d v.1 (bz v.2.1 x):=by unfold av bJ;rw[dp h hv hx];show b8 d v.1 (bz (aV d v.1) x)=_;rw[gk h.s hv]
theorem la{d:ak}(h:Rw d.1){v:ai}{x:ae}(y:ae)(hv:v∈d.1)(hx:x∈v.2.1):az d x y=b8 d v.1 (dJ v.2.1 x y):=by unfold az bJ;rw[dp h hv hx];show b8 d v.1 (dJ (aV d v.1) x y)=_;rw[gk h.s hv]
theorem cd.re{l:List ai}(h:cd l)(x:ID)(r:List ae):cd (l.map (iM x r)):=h.map (pP x r)
theorem EY{l:List ai}{v:ai}(hs:cd l)(hv:v∈l):∃rest,(aq l).Perm (v.2.1++rest)∧∀r,(aq (l.map (iM v.1 r))).Perm (r++rest):=by
 obtain⟨a,b,h1,_,_,h2⟩:=mu hs hv;refine⟨aq (a++b),?_,fun r=>?_⟩
 ·conv=>lhs;rw[h1]
  exact gY a b v
 ·rw[h2 r];exact gY a b (v.1,(r,v.2.2))
theorem cZ{d:ak}(h:Rw d.1){x:ae}(hx:x∈aq d.1):(aq d.1).Perm (x::aq (av d x).1)∧Rw (av d x).1:=by obtain⟨v,hv,j4⟩:=aM.1 hx;obtain⟨rest,h1,h2⟩:=EY h.s hv;rw[c9 h hv j4];have p:(aq d.1).Perm (x::aq (b8 d v.1 (bz v.2.1 x)).1) :=h1.trans ((ac3 rest (qD j4 (h.ring hv))).trans (List.Perm.cons x (h2 _).symm));exact⟨p,h.s.re _ _,(abv.1 (p.nodup_iff.1 h.n)).2⟩
theorem iI{d:ak}(h:Rw d.1){x y:ae}(hx:x∈aq d.1)(hy:y∉aq d.1):(y::aq d.1).Perm (x::aq (az d x y).1)∧Rw (az d x y).1:=by obtain⟨v,hv,j4⟩:=aM.1 hx;obtain⟨rest,h1,h2⟩:=EY h.s hv;rw[la h y hv j4];have XJ:y∉v.2.1:=fun k=>hy (aM.2 ⟨v,hv,k⟩);have p:(y::aq d.1).Perm (x::aq (b8 d v.1 (dJ v.2.1 x y)).1) :=(List.Perm.cons y h1).trans ((ac3 rest (EW j4 XJ)).trans (List.Perm.cons x (h2 _).symm));refine⟨p,h.s.re _ _,?_⟩;exact(abv.1 (p.nodup_iff.1 (abv.2 ⟨hy,h.n⟩))).2
theorem lD{d:ak}(h:Rw d.1){c:ml}{x:ae}{v:ai}(hv:aN d.1 c.1=some v)(hx:x∉aq d.1):(aq (br d c x).1).Perm (x::aq d.1)∧Rw (br d c x).1:=by
 have EZ:=dr hv;have LL:=gj hv;obtain⟨rest,h1,h2⟩:=EY h.s EZ;have j4:x∉v.2.1:=fun k=>hx (aM.2 ⟨v,EZ,k⟩);have e:br d c x=b8 d v.1 (gN v.2.1 c.2 x):=by unfold br;rw[←LL,gk h.s EZ]
 rw[e];have p:(aq (b8 d v.1 (gN v.2.1 c.2 x)).1).Perm (x::aq d.1) :=(h2 _).trans ((ac3 rest (Hr c.2 j4)).trans (List.Perm.cons x h1.symm));exact⟨p,h.s.re _ _,p.nodup_iff.2 (abv.2 ⟨hx,h.n⟩)⟩
structure GV(v:ai):Prop where
 i:cz v.1=true
 l:lY v.2.2.1=true
 a:jZ v.2.2.2=true
 t:bB v.2.1=v.2.1
structure GE(e:an):Prop where
 i:cz e.1=true
 l:lY e.2.1=true
 a:jZ e.2.2=true
structure Wf(d:ak):Prop where
 sv:cd d.1
 se:dw d.2
 nv:d.1.length≤24
 ne:d.2.length≤40
 gv:∀v∈d.1,GV v
 ge:∀e∈d.2,GE e
 pd:(aq d.1).Perm (ends d.2)
theorem Wf.rw{d:ak}(h:Wf d):Rw d.1:=⟨h.sv,h.pd.nodup_iff.2 (rI h.se)⟩
theorem Wf.zero:Wf zS.1:=⟨List.Pairwise.nil,List.Pairwise.nil,by simp[zS],by simp[zS],by simp[zS],by simp[zS],adO _⟩
theorem GV.re{l:List ai}(h:∀v∈l,GV v)(x:ID){r:List ae}(hr:bB r=r):∀v∈l.map (iM x r),GV v:=fun v hv=>by
 obtain⟨w,hw,rfl⟩:=ace.1 hv;have g:=h w hw;unfold iM
 split
 ·exact⟨g.i,g.l,g.a,hr⟩
 ·exact g
theorem iz{d:ak}(h:∀v∈d.1,GV v)(x:ae):∀v∈(av d x).1,GV v:=GV.re h _ (uP _ _)
theorem og{d:ak}(h:∀v∈d.1,GV v)(x y:ae):∀v∈(az d x y).1,GV v:=GV.re h _ (NZ _ _ _)
theorem tH{d:ak}(h:∀v∈d.1,GV v)(c:ml)(y:ae):∀v∈(br d c y).1,GV v:=GV.re h _ (RQ _ _ _)
theorem fK(d:ak)(x:ID)(r:List ae):(b8 d x r).1.length=d.1.length:=by unfold b8;simp
theorem Hv:cz zI=false:=by decide
theorem kx{l:List an}(h:∀e∈l,GE e):bF l zI=l:=by unfold bF;rw[List.filter_eq_self];intro e he;have:=(h e he).i;simp;intro k;rw[k,Hv]at this;cases this
theorem lE{l:List ai}(h:∀e∈l,GV e):bE l zI=l:=by unfold bE;rw[List.filter_eq_self];intro e he;have:=(h e he).i;simp;intro k;rw[k,Hv]at this;cases this
theorem lf:lY e0=true:=by decide
theorem lg:jZ 0=true:=by decide
theorem E0{l:List an}{x:ID}(h:aL l x=none)(s:Int):(x,s)∉ends l:=fun k=>by obtain⟨e,he,h1,_⟩:=cO.1 k;unfold aL at h;rw[List.find?_eq_none]at h;exact h e he (by simpa using h1)
theorem E1{l:List an}{x:ID}(h:(aL l x).isSome=true){s:Int}(hs:s=0∨s=1):(x,s)∈ends l:=by obtain⟨e,he⟩:=ab3.1 h;exact cO.2 ⟨e,kZ he,jm he,hs⟩
theorem rJ{o:aW}(h:bm o=0):cz (au o)=true:=by
 unfold bm at h
 split at h;· cases h
 split at h;· cases h
 split at h;· cases h
 rename_i h3;simpa using h3
theorem ky{o:aW}(h:bm o=0):1≤o.1∧o.1≤8:=by
 unfold bm at h
 split at h;· cases h
 split at h;· cases h
 omega
theorem mZ{o:aW}(h:bm o=0)(hk:o.1=5):cz (b6 o)=true∧cz (aj o)=true∧0≤oN o∧oN o≤3:=by
 unfold bm at h
 split at h;· cases h
 split at h;· cases h
 split at h;· cases h
 split at h;· cases h
 rw[if_neg (show ¬o.1=3 by omega)]at h
 split at h
 ·assumption
 ·cases h
theorem E2{o:aW}(h:bm o=0)(hk:o.1=6):cz (aj o)=true:=by
 unfold bm at h
 split at h;· cases h
 split at h;· cases h
 split at h;· cases h
 split at h;· cases h
 rw[if_neg (show ¬o.1=3 by omega),if_neg (show ¬o.1=5 by omega)]at h
 split at h
 ·assumption
 ·cases h
theorem E3{o:aW}(h:bm o=0)(hk:o.1=8):jZ (oN o)=true:=by
 unfold bm at h
 split at h;· cases h
 split at h;· cases h
 split at h;· cases h
 split at h;· cases h
 rw[if_neg (show ¬o.1=3 by omega),if_neg (show ¬o.1=5 by omega),if_neg (show ¬o.1=6 by omega)]at h
 split at h
 ·assumption
 ·cases h
theorem Au{o:aW}(h:bm o=0)(hk:o.1=7):lY (gO o)=true:=by
 unfold bm at h
 split at h;· cases h
 split at h;· cases h
 split at h;· cases h
 split at h;· cases h
 rw[if_neg (show ¬o.1=3 by omega),if_neg (show ¬o.1=5 by omega),if_neg (show ¬o.1=6 by omega),if_neg (show ¬o.1=8 by omega)]at h
 split at h
 ·assumption
 ·cases h
def jS(l:List aE):Prop:=l.Pairwise fun a b=>lz a.1 b.1=true
theorem rK{a b:ae}:n8 a b≤0↔a=b∨lz a b=true:=by
 unfold n8;by_cases h:a=b
 ·subst h;simp
 ·rw[if_neg h];cases lz a b<;>simp[h]
theorem E4{q g:aE}:∀{l:List aE},q∈mM g l→q=g∨(q∈l∧q.1≠g.1)
 |[],h=>by simp[mM]at h;exact .inl h
 |e::r,h=>by
  unfold mM at h
  split at h
  ·rcases abi.1 h with h|h
   ·exact .inl h
   ·unfold pN at h;rw[List.mem_filter]at h;exact .inr ⟨h.1,by simpa using h.2⟩
  ·split at h
   ·rename_i bq;rcases abi.1 h with rfl|h
    ·exact .inr ⟨abo ..,bq⟩
    ·rcases E4 h with h|⟨h,h2⟩
     ·exact .inl h
     ·exact .inr ⟨aa6 _ h,h2⟩
   ·rcases E4 h with h|⟨h,h2⟩
    ·exact .inl h
    ·exact .inr ⟨aa6 _ h,h2⟩
theorem jS.add(g:aE):∀{l:List aE},jS l→jS (mM g l)
 |[],_=>List.pairwise_singleton _ _
 |e::r,h=>by
  have hr:∀{q:aE},q∈r→lz e.1 q.1=true:=fun {q} hq=>acV h hq;unfold mM
  split
  ·rename_i ho;refine List.Pairwise.cons (fun q hq=>?_) (h.filter _);unfold pN at hq;rw[List.mem_filter]at hq;have bq:q.1≠g.1:=by simpa using hq.2
   have hle:e.1=q.1∨lz e.1 q.1=true:=by
    rcases abi.1 hq.1 with rfl|hq
    ·exact .inl rfl
    ·exact .inr (hr hq)
   rcases rK.1 ho with ho|ho
   ·rcases hle with k|k
    ·exact absurd (ho.trans k).symm bq
    ·rw[ho];exact k
   ·rcases hle with k|k
    ·rw[←k];exact ho
    ·exact gX ho k
  ·rename_i ho;have MO:lz e.1 g.1=true:=by have h1:¬(g.1=e.1∨lz g.1 e.1=true):=fun k=>ho (rK.2 k);exact uL (by simpa using fun k=>h1 (.inr k)) (fun k=>h1 (.inl k))
   have hs:=jS.add g (adS h)
   split
   ·refine List.Pairwise.cons (fun q hq=>?_) hs;rcases E4 hq with rfl|⟨hq,_⟩
    ·exact MO
    ·exact hr hq
   ·exact hs
theorem rL(e:aE)(r:List aE)(x:ae):iw (e::r) x=if e.1=x then some e.2 else iw r x:=by
 unfold iw;rw[List.find?_cons];by_cases h:e.1=x
 ·simp[h]
 ·simp[h]
theorem uQ{g:aE}:∀{l:List aE},(∀q∈l,q.1≠g.1)→pN g l=l:=fun {l} h=>by unfold pN;rw[List.filter_eq_self];intro q hq;simpa using h q hq
theorem LM(g:aE):∀{l:List aE},jS l→(mM g l).length=if(iw l g.1).isSome=true then l.length else l.length+1
 |[],_=>rfl
 |e::r,h=>by
  have hr:∀{q:aE},q∈r→lz e.1 q.1=true:=fun {q} hq=>acV h hq;have ih:=LM g (adS h);unfold mM
  split
  ·rename_i ho;rcases rK.1 ho with ho|ho
   ·have h1:pN g (e::r)=r:=by
     have:pN g (e::r)=pN g r:=by unfold pN;rw[List.filter_cons_of_neg (by simp[ho])]
     rw[this];exact uQ (fun q hq k=>by have:=hr hq;rw[k,ho,eV]at this;cases this)
    rw[h1,rL,if_pos ho.symm];simp
   ·have h2:∀q∈e::r,q.1≠g.1:=fun q hq k=>by
     have:lz g.1 q.1=true:=by
      rcases abi.1 hq with rfl|hq
      ·exact ho
      ·exact gX ho (hr hq)
     rw[k,eV]at this;cases this
    have h3:iw (e::r) g.1=none:=by
     unfold iw;have:(List.find? (fun q=>decide (q.1=g.1)) (e::r))=none:=by rw[List.find?_eq_none];intro q hq;simpa using h2 q hq
     rw[this];rfl
    rw[uQ h2,h3];simp
  ·rename_i ho;have bq:e.1≠g.1:=fun k=>ho (rK.2 (.inl k.symm));rw[if_pos bq,rL,if_neg bq];simp only[List.length_cons,ih]
   split<;>rfl
theorem lh{l:List aE}(h:jS l)(hn:l.length≤400)(g:aE):jS (bM l g)∧(bM l g).length≤400:=by
 unfold bM
 split
 ·exact⟨h,hn⟩
 ·rename_i hc;refine⟨jS.add g h,?_⟩;rw[LM g h]
  split
  ·exact hn
  ·rename_i h1;by_cases h2:400≤l.length
   ·exact absurd ⟨by simpa using h1,h2⟩ hc
   ·omega
theorem nc{α:Type}{o:Option α}(h:¬o.isSome=false):o.isSome=true:=by cases o<;>simp_all
structure dU(s:StateT):Prop where
 d:Wf s.1
 g:jS s.2
 n:s.2.length≤400
theorem dU.zero:dU zS:=⟨Wf.zero,List.Pairwise.nil,by simp[zS]⟩
theorem dU.add{l:List aE}(h:jS l)(hn:l.length≤400){d:ak}(hd:Wf d)(g:aE):dU (d,bM l g):=⟨hd,(lh h hn g).1,(lh h hn g).2⟩
theorem RR{f:ai→ai}(hf:∀v,(f v).2.1=v.2.1)(l:List ai):aq (l.map f)=aq l:=by unfold aq;rw[List.flatMap_map];congr 1;funext v;exact hf v
theorem VT{f:an→an}(hf:∀v,(f v).1=v.1)(l:List an):ends (l.map f)=ends l:=by unfold ends;rw[List.flatMap_map];congr 1;funext v;rw[hf]
theorem Jq(o:aW)(w:an):(gL o w).1=w.1:=by unfold gL;split<;>(try split)<;>rfl
theorem RS(o:aW)(w:ai):(fJ o w).2.1=w.2.1:=by unfold fJ;split<;>(try split)<;>rfl
theorem Wf.mP{d:ak}(h:Wf d){x:ID}(hx:aL d.2 x=none)(s:Int):(x,s)∉aq d.1:=fun k=>E0 hx s (h.pd.mem_iff.1 k)
theorem Wf.g9{d:ak}(h:Wf d){x:ID}(hx:(aL d.2 x).isSome=true){s:Int}(hs:s=0∨s=1):(x,s)∈aq d.1:=h.pd.mem_iff.2 (E1 hx hs)
theorem Wf.qz{s:StateT}(h:Wf s.1){o:aW}(hm:bm o=0)(hk:7≤o.1):Wf (qz s o).1.1:=by
 have hk8:=(ky hm).2;unfold Vs.qz
 split
 ·refine⟨h.sv.map (PH o),h.se.map (Jq o),by simp;exact h.nv,by simp;exact h.ne,fun v hv=>?_,fun e he=>?_,?_⟩
  ·obtain⟨w,hw,rfl⟩:=ace.1 hv;have g:=h.gv w hw;unfold fJ
   split
   ·split
    ·rename_i h7;exact⟨g.i,Au hm h7,g.a,g.t⟩
    ·exact⟨g.i,g.l,E3 hm (by omega),g.t⟩
   ·exact g
  ·obtain⟨w,hw,rfl⟩:=ace.1 he;have g:=h.ge w hw;unfold gL
   split
   ·split
    ·rename_i h7;exact⟨g.i,Au hm h7,g.a⟩
    ·exact⟨g.i,g.l,E3 hm (by omega)⟩
   ·exact g
  ·show(aq (s.1.1.map (fJ o))).Perm (ends (s.1.2.map (gL o)));rw[RR (RS o),VT (Jq o)];exact h.pd
 ·exact Wf.zero
theorem lj{s:StateT}{c:ml}(h:(aR s c).2.1=0):(aO s.1 c.1).isSome=true∧(aR s c).1.1=c.1:=by
 unfold aR at h ⊢
 cases hv:aO s.1 c.1 with
 |none=>rw[hv]at h;cases h
 |some v=>exact⟨rfl,rfl⟩
theorem tI{l:List ai}{x y:ID}(r:List ae)(h:(aN l x).isSome=true):(aN (l.map (iM y r)) x).isSome=true:=by rw[iH (pP y r)];simpa using h
theorem Wf.link{d:ak}(h:Wf d){x:ID}(hx:cz x=true)(hn:aL d.2 x=none)(he:¬40≤d.2.length){a b:ml}(ha:(aN d.1 a.1).isSome=true)(hb:(aN d.1 b.1).isSome=true) :
  Wf (br (br (d.1,bR (x,(e0,0)) d.2) a (x,0)) b (x,1)):=by
 have RT:Rw ((d.1,bR (x,(e0,0)) d.2):ak).1:=h.rw;obtain⟨va,hva⟩:=ab3.1 ha;have h0:=h.mP hn 0;have h1:=h.mP hn 1;obtain⟨p1,q1⟩:=lD (c:=a) (x:=(x,0)) RT hva h0;obtain⟨vb,hvb⟩:=ab3.1 (tI (x:=b.1) (y:=a.1) (gN (aV (d.1,bR (x,(e0,0)) d.2) a.1) a.2 (x,0)) hb);have Xs:(x,1)∉aq (br (d.1,bR (x,(e0,0)) d.2) a (x,0)).1:=fun k=>by
  rcases abi.1 (p1.mem_iff.1 k) with k|k
  ·cases k
  ·exact h1 k
 obtain⟨p2,q2⟩:=lD (c:=b) (x:=(x,1)) q1 hvb Xs;refine⟨q2.s,Ap (x,(e0,0)) h.se hn,?_,?_,tH (tH h.gv _ _) _ _,fun e hem=>?_,?_⟩
 ·unfold br;rw[fK,fK];exact h.nv
 ·show(bR (x,(e0,0)) d.2).length≤40;rw[l6];omega
 ·rcases ku.1 (show e∈bR (x,(e0,0)) d.2 from hem) with rfl|hem
  ·exact⟨hx,lf,lg⟩
  ·exact h.ge e hem
 ·show(aq _).Perm (ends (bR (x,(e0,0)) d.2));refine(p2.trans (List.Perm.cons _ p1)).trans (List.Perm.trans ?_ (Hu (x,(e0,0)) d.2).symm);exact(List.Perm.swap _ _ _).trans (List.Perm.cons _ (List.Perm.cons _ h.pd))
theorem Wf.cut{d:ak}(h:Wf d){x:ID}(hx:(aL d.2 x).isSome=true):Wf (aF (av (av d (x,0)) (x,1)) zI x):=by
 have h0:=h.g9 hx (s:=0) (.inl rfl);have h1:=h.g9 hx (s:=1) (.inr rfl);obtain⟨p1,q1⟩:=cZ h.rw h0;have Xs:(x,1)∈aq (av d (x,0)).1:=by
  rcases abi.1 (p1.mem_iff.1 h1) with k|k
  ·cases k
  ·exact k
 obtain⟨p2,q2⟩:=cZ q1 Xs;have PJ:=iz (iz h.gv (x,0)) (x,1);have PL:(aF (av (av d (x,0)) (x,1)) zI x).1=(av (av d (x,0)) (x,1)).1:=lE PJ;refine⟨by rw[PL];exact q2.s,rH h.se,?_,?_,by rw[PL];exact PJ,fun e he=>h.ge e ?_,?_⟩
 ·rw[PL];unfold av;rw[fK,fK];exact h.nv
 ·exact acX (ac5 _ _) h.ne
 ·exact(ada.1 (show e∈d.2.filter fun w=>decide (w.1≠x) from he)).1
 ·rw[PL];show(aq (av (av d (x,0)) (x,1)).1).Perm (ends (bF d.2 x));have p3:((x,0)::(x,1)::aq (av (av d (x,0)) (x,1)).1).Perm ((x,0)::(x,1)::ends (bF d.2 x)) :=((p1.trans (List.Perm.cons _ p2)).symm.trans h.pd).trans (EX h.se hx);exact p3.cons_inv.cons_inv
theorem iJ{x:ae}(h:x.2=0∨x.2=1):(ah x).1=x.1∧((x.2=0∧(ah x).2=1)∨(x.2=1∧(ah x).2=0)):=by
 refine⟨rfl,?_⟩;unfold ah;rcases h with h|h
 ·exact .inl ⟨h,by rw[h];rfl⟩
 ·exact .inr ⟨h,by rw[h];rfl⟩
theorem LN{x:ae}(h:x.2=0∨x.2=1)(l:List ae):(x::ah x::l).Perm ((x.1,0)::(x.1,1)::l):=by
 obtain⟨h1,h2⟩:=iJ h;have e:x=(x.1,x.2):=rfl;have e2:ah x=(x.1,(ah x).2):=rfl;rcases h2 with⟨ha,hb⟩|⟨ha,hb⟩
 ·rw[ha]at e;rw[hb]at e2;rw[e2,e]
 ·rw[ha]at e;rw[hb]at e2;rw[e2,e];exact List.Perm.swap _ _ _
theorem yy{n:Int}(h0:0≤n)(h3:n≤3):(IntKind.wrap .i64 (1-Int.tmod n 2)=0∨IntKind.wrap .i64 (1-Int.tmod n 2)=1)∧(IntKind.wrap .i64 (Int.tdiv n 2)=0∨IntKind.wrap .i64 (Int.tdiv n 2)=1):=by
 have:n=0∨n=1∨n=2∨n=3:=by omega
 rcases this with rfl|rfl|rfl|rfl<;>exact⟨by decide,by decide⟩
theorem Wf.split{d:ak}(h:Wf d){m k:ae}{v:ID}(hv:cz v=true)(hk:cz k.1=true)(zB:m.2=0∨m.2=1)(pH:k.2=0∨k.2=1)(hm:(aL d.2 m.1).isSome=true)(Qv:aN d.1 v=none)(hnk:aL d.2 k.1=none) (SS:¬24≤d.1.length) (hle:¬40≤d.2.length):Wf (cr (v,(bB [m,k],(e0,0))) (az d m (ah k)).1,bR (k.1,(e0,0)) (az d m (ah k)).2):=by
 have LO:m∈aq d.1:=h.g9 hm zB;have GR:ah k∉aq d.1:=h.mP hnk _;obtain⟨p1,q1⟩:=iI h.rw LO GR;have YL:aN (az d m (ah k)).1 v=none:=by unfold az Vs.b8;rw[iH (pP _ _),Qv];rfl
 refine⟨qB (v,(bB [m,k],(e0,0))) q1.s YL,Ap (k.1,(e0,0)) h.se hnk,?_,?_,fun w hw=>?_,fun e he=>?_,?_⟩
 ·show(cr _ (az d m (ah k)).1).length≤24;rw[gu];unfold az;rw[fK];omega
 ·show(bR _ d.2).length≤40;rw[l6];omega
 ·rcases kr.1 hw with rfl|hw
  ·exact⟨hv,lf,lg,uO _⟩
  ·exact og h.gv _ _ w hw
 ·rcases ku.1 (show e∈bR (k.1,(e0,0)) d.2 from he) with rfl|he
  ·exact⟨hk,lf,lg⟩
  ·exact h.ge e he
 ·show(aq (cr _ _)).Perm (ends (bR (k.1,(e0,0)) d.2));refine(wN _ _).trans (List.Perm.trans ?_ (Hu (k.1,(e0,0)) d.2).symm);refine(ac3 _ (fw [m,k])).trans ?_;show(m::k::aq (az d m (ah k)).1).Perm _;refine(List.Perm.swap k m _).trans ((List.Perm.cons k p1.symm).trans ?_);refine(LN pH _).trans ?_;exact List.Perm.cons _ (List.Perm.cons _ h.pd)
theorem Wf.VU{d:ak}(h:Wf d){v:ai}(hv:v∈d.1)(hr:v.2.1=[]):Wf (aF d v.1 zI):=by
 obtain⟨a,b,h1,_,h2,_⟩:=mu h.sv hv;refine⟨kX h.sv,?_,acX (ac5 _ _) h.nv,acX (ac5 _ _) h.ne,fun w hw=>h.gv w ?_,fun e he=>h.ge e ?_,?_⟩
 ·exact rH h.se
 ·exact(ada.1 (show w∈d.1.filter fun w=>decide (w.1≠v.1) from hw)).1
 ·exact(ada.1 (show e∈d.2.filter fun w=>decide (w.1≠zI) from he)).1
 ·show(aq (bE d.1 v.1)).Perm (ends (bF d.2 zI));rw[h2,kx h.ge];have p:=gY a b v;rw[←h1,hr,List.nil_append]at p;exact p.symm.trans h.pd
theorem Wf.abW{d:ak}(h:Wf d){v:ai}{a b:ae}(hv:v∈d.1)(hr:v.2.1.Perm [a,b])(mI:a.1≠b.1):Wf (aF (az (aF d v.1 zI) (ah b) a) zI b.1):=by
 obtain⟨p,q,h1,_,h2,_⟩:=mu h.sv hv;have pd:(aq d.1).Perm (a::b::aq (p++q)):=by have:=(gY p q v).trans (ac3 _ hr);rw[←h1]at this;exact this
 have N0:aF d v.1 zI=(p++q,d.2):=by unfold aF;rw[h2,kx h.ge]
 have Ck:=pd.nodup_iff.1 h.rw.n;have hbm:b∈ends d.2:=h.pd.mem_iff.1 (pd.mem_iff.2 (by simp));obtain⟨e,he,he1,zp⟩:=cO.1 hbm;have u4:(aL d.2 b.1).isSome=true:=by unfold aL;rw[List.find?_isSome];exact⟨e,he,by simpa using he1⟩
 obtain⟨_,ho⟩:=iJ zp;have RU:ah b∈aq (p++q):=by
  have h3:ah b∈aq d.1:=h.g9 (s:=(ah b).2) u4 (by rcases ho with⟨_,k⟩|⟨_,k⟩<;>omega);rcases abi.1 (pd.mem_iff.1 h3) with k|k
  ·exact absurd (congrArg Prod.fst k) (fun k=>mI k.symm)
  rcases abi.1 k with k|k
  ·have:=congrArg Prod.snd k;omega
  ·exact k
 have Js:Rw (p++q):=by refine⟨?_,(abv.1 (abv.1 Ck).2).2⟩;rw[←h2];exact kX h.sv
 have ha:a∉aq (p++q):=fun k=>(abv.1 Ck).1 (aa6 _ k);rw[N0];obtain⟨p1,q1⟩:=iI (d:=(p++q,d.2)) Js RU ha;have PJ:∀w∈(az (p++q,d.2) (ah b) a).1,GV w:=by
  refine og (d:=(p++q,d.2)) (fun w hw=>h.gv w ?_) _ _;rw[h1];rcases abG.1 hw with k|k
  ·exact abn _ k
  ·exact abj _ (aa6 _ k)
 have PL:(aF (az (p++q,d.2) (ah b) a) zI b.1).1=(az (p++q,d.2) (ah b) a).1:=lE PJ;refine⟨by rw[PL];exact q1.s,rH h.se,?_,acX (ac5 _ _) h.ne,by rw[PL];exact PJ,fun f hf=>h.ge f ?_,?_⟩
 ·rw[PL];unfold az;rw[fK];have:=h.nv;rw[h1]at this;simp at this ⊢;omega
 ·exact(ada.1 (show f∈d.2.filter fun w=>decide (w.1≠b.1) from hf)).1
 ·rw[PL];show(aq (az (p++q,d.2) (ah b) a).1).Perm (ends (bF d.2 b.1));have p3:(b::ah b::aq (az (p++q,d.2) (ah b) a).1).Perm (b::ah b::ends (bF d.2 b.1)):=by refine List.Perm.trans (List.Perm.cons b p1.symm) ?_;refine(List.Perm.swap a b _).trans (pd.symm.trans (h.pd.trans ?_));exact(EX h.se u4).trans (LN zp _).symm
  exact p3.cons_inv.cons_inv
theorem dU.one{s:StateT}(h:dU s)(o:aW):dU (bZ s o).1:=by
 unfold bZ
 split
 ·exact dU.zero
 rename_i hm;have hm:bm o=0:=Classical.byContradiction fun k=>hm k;have bQ:=rJ hm
 split
 ·unfold l8
  split;· exact dU.zero
  split;· exact dU.zero
  rename_i h1 h2;have hn:aN s.1.1 (au o)=none:=by simpa[aO] using h1
  refine⟨⟨qB _ h.d.sv hn,h.d.se,by show(cr _ s.1.1).length≤24;rw[gu];omega,h.d.ne,fun w hw=>?_,h.d.ge,?_⟩,h.g,h.n⟩
  ·rcases kr.1 hw with rfl|hw
   ·exact⟨bQ,lf,lg,rfl⟩
   ·exact h.d.gv w hw
  ·exact(wN _ _).trans h.d.pd
 split
 ·unfold qA
  cases hv:aO s.1 (au o) with
  |none=>exact dU.zero
  |some v =>
   simp only
   split
   ·exact dU.zero
   ·rename_i hr;have:=h.d.VU (dr hv) (by simpa using hr);rw[gj hv]at this;exact⟨this,h.g,h.n⟩
 split
 ·unfold kJ
  split;· exact dU.zero
  split;· exact dU.zero
  split;· exact dU.zero
  split;· exact dU.zero
  split;· exact dU.zero
  rename_i h1 h2 h3 h4 h5;have hn:aL s.1.2 (au o)=none:=by simpa[cH] using h1
  obtain⟨ca,ca2⟩:=lj (s:=s) (c:=oA o) (Classical.byContradiction fun k=>h3 k);obtain⟨cb,cb2⟩:=lj (s:=s) (c:=oB o) (Classical.byContradiction fun k=>h4 k);refine⟨?_,h.g,h.n⟩;unfold gP;refine h.d.link bQ hn h2 (by rw[ca2];exact ca) ?_
  split
  ·exact cb
  ·rw[cb2];exact cb
 split
 ·unfold wK
  split;· exact dU.zero
  rename_i h1;have h2:=lh h.g h.n ((au o,0),dy s.1 (au o,0));exact dU.add h2.1 h2.2 (h.d.cut (nc h1)) _
 split
 ·rename_i hk;unfold iS
  split;· exact dU.zero
  split;· exact dU.zero
  split;· exact dU.zero
  split;· exact dU.zero
  split;· exact dU.zero
  rename_i h1 h2 h3 h4 h5;obtain⟨m1,m2,m3,m4⟩:=mZ hm hk;obtain⟨s1,s2⟩:=yy m3 m4;refine⟨?_,h.g,h.n⟩;exact h.d.split (m:=Jj o) (k:=FQ o) m1 m2 s1 s2 (nc h1) (by simpa[aO] using h2) (by simpa[cH,FQ] using h3) h4 h5
 split
 ·unfold fU
  split
  ·exact dU.zero
  ·rename_i v hv
   split
   ·rename_i r0 r1 hr;have EZ:=dr hv;have LL:=gj hv;have key:∀a b:ae,v.2.1.Perm [a,b]→a.1≠b.1→dU (Gq s o a b,Hk s.2 a b):=fun a b hp mI=>by have h2:=lh h.g h.n ((b.1,0),sB a b 0);have:=h.d.abW EZ hp mI;rw[LL]at this;exact dU.add h2.1 h2.2 this _
    unfold dG
    split;· exact dU.zero
    rename_i bq
    split
    ·exact key r1 r0 (by rw[hr];exact List.Perm.swap _ _ _) (fun k=>bq k.symm)
    split
    ·exact key r0 r1 (by rw[hr]) bq
    ·exact dU.zero
   ·exact dU.zero
 ·rename_i k1 k2 k3 k4 k5 k6;have hk:=ky hm;have:=h.d.qz hm (by omega);refine⟨this,?_,?_⟩
  ·unfold qz;split
   ·exact h.g
   ·exact List.Pairwise.nil
  ·unfold qz;split
   ·exact h.n
   ·simp[zS]
theorem dU.go:∀(l:List aW) {s:StateT},dU s→dU (lC l s).1
 |[],s,h=>h
 |o::r,s,h=>by
  unfold lC
  split
  ·exact dU.zero
  ·exact dU.go r (h.one o)
theorem dU.apply{s:StateT}(h:dU s)(l:List aW):dU (cS s l).1:=by
 unfold cS
 split
 ·exact dU.zero
 ·exact dU.go l h
theorem dU.try{s:StateT}(h:dU s)(l:List aW):dU (oI s l):=by
 unfold oI
 split
 ·exact h
 ·exact h.apply l
theorem dU.reach:∀(m:Nat) (l:List (List aW)) {s:StateT},dU s→dU (oc m l s)
 |0,_,s,h=>by simpa[oc] using h
 |m+1,[],s,h=>h
 |m+1,l::r,s,h=>by rw[oc];exact dU.reach m r (h.try _)
theorem dU.PF(l:List (List aW)):dU (EP l):=dU.reach 30 l dU.zero
end Go.Vs
