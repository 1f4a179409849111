/- Diagrams that are well formed -/
import Derived.Test.YtpkfpbpbkabkdaaGreatRings
set_option linter.unusedVariables false
set_option linter.unusedSimpArgs false
namespace Go.Vs
open Go.Proofs
theorem fw(row:List ae):(bB row).Perm row:=by unfold bB kF;exact adk.trans (List.Perm.of_eq (List.take_append_drop _ _))
theorem R5{row:List ae}(h:0<row.length)(hl:∀j,(hj:j<row.length)→lA row[j] row[0]=false):fP row row 0 0=0:=by
 have hm:=lB row row 0 0 h (by omega);have h2:=(oi h).2 0;by_cases hz:fP row row 0 0=0
 ·exact hz
 ·have:=h2 (by omega) h;rw[mO hm,hl _ hm]at this;cases this
theorem V6(row:List ae):kF row 0=row:=by unfold kF;simp
theorem uP(row:List ae):bB (bB row)=bB row:=by
 by_cases h0:row.length=0
 ·have:row=[]:=by simpa using h0
  subst this;rfl
 have hp:0<row.length:=by omega
 have hm:=lB row row 0 0 hp (by omega);have hp2:0<(bB row).length:=by rw[iv];exact hp
 have h1:(bB row)[0]=row.getD (fP row row 0 0) zD:=by have:=mL (row:=row) (k:=fP row row 0 0) (i:=0) (by omega) hp;rw[Nat.add_zero,Nat.mod_eq_of_lt hm,List.getElem?_eq_getElem hm]at this;rw[mO hm];exact(aa2.1 this).2
 have h2:fP (bB row) (bB row) 0 0=0:=by refine R5 hp2 (fun j hj=>?_);rw[h1];have gI:(bB row)[j]∈row:=kq.1 (acm hj);obtain⟨i,hi,he⟩:=ado gI;rw[←he];exact(oi hp).1 i hi
 unfold bB at h2 ⊢;rw[h2,V6]
theorem R6(row:List ae)(a d:ae):bB (gN row a d)=gN row a d:=by unfold gN;split<;>exact uP _
theorem uQ(row:List ae)(d:ae):bB (bz row d)=bz row d:=uP _
theorem N5(row:List ae)(a d:ae):bB (dJ row a d)=dJ row a d:=uP _
theorem Hy{row:List ae}{d:ae}(a:ae)(h:d∉row):(gN row a d).Perm (d::row):=by unfold gN;rw[if_neg h];refine(fw _).trans (adj.trans ?_);rw[List.take_append_drop]
theorem qG{row:List ae}{d:ae}(h:d∈row)(hn:row.Nodup):row.Perm (d::bz row d):=by
 obtain⟨k,_,h2,_⟩:=eU h;obtain⟨h3,h4⟩:=aa2.1 h2;unfold bz;rw[Aw hn h2];refine List.Perm.trans ?_ (List.Perm.cons d (fw _).symm)
 conv=>lhs;rw[←List.take_append_drop k row,List.drop_eq_getElem_cons h3,h4]
 exact adj
theorem E3{row:List ae}{dr d:ae}(h:dr∈row)(hd:d∉row):(d::row).Perm (dr::dJ row dr d):=by
 obtain⟨k,h1,h2,_⟩:=eU h;obtain⟨h3,h4⟩:=aa2.1 h2;unfold dJ;rw[if_pos ⟨h,hd⟩,h1,Int.toNat_natCast];refine List.Perm.trans ?_ (List.Perm.cons dr (fw _).symm);rw[List.set_eq_take_append_cons_drop,if_pos h3]
 conv=>lhs;rw[←List.take_append_drop k row,List.drop_eq_getElem_cons h3,h4]
 have p1:(row.take k++dr::row.drop (k+1)).Perm (dr::(row.take k++row.drop (k+1))):=adj;have p2:(row.take k++d::row.drop (k+1)).Perm (d::(row.take k++row.drop (k+1))):=adj;exact(List.Perm.cons d p1).trans ((List.Perm.swap dr d _).trans (List.Perm.cons dr p2.symm))
def aq(l:List ai):List ae:=l.flatMap fun v=>v.2.1
def ends(l:List an):List ae:=l.flatMap fun e=>[(e.1,0),(e.1,1)]
theorem jJ(v:ai)(l:List ai):aq (v::l)=v.2.1++aq l:=List.flatMap_cons
theorem qH(a b:List ai):aq (a++b)=aq a++aq b:=List.flatMap_append
theorem gY(a b:List ai)(v:ai):(aq (a++v::b)).Perm (v.2.1++aq (a++b)):=by rw[qH,jJ,qH,←List.append_assoc,←List.append_assoc];exact ac7 _ adk
theorem aM{x:ae}{l:List ai}:x∈aq l↔∃v∈l,x∈v.2.1:=List.mem_flatMap
theorem la(e:an)(l:List an):ends (e::l)=(e.1,0)::(e.1,1)::ends l:=by unfold ends;rw[List.flatMap_cons];rfl
theorem cO{x:ae}{l:List an}:x∈ends l↔∃e∈l,e.1=x.1∧(x.2=0∨x.2=1):=by
 unfold ends;rw[List.mem_flatMap];constructor
 ·rintro⟨e,he,hx⟩;rcases abd.1 hx with rfl|hx
  ·exact⟨e,he,rfl,.inl rfl⟩
  ·rw[List.mem_singleton]at hx;subst hx;exact⟨e,he,rfl,.inr rfl⟩
 ·rintro⟨e,he,h1,h2⟩;refine⟨e,he,?_⟩;obtain⟨x1,x2⟩:=x;simp only at h1 h2;subst h1;rcases h2 with rfl|rfl<;>simp
theorem rL:∀{l:List an},dx l→(ends l).Nodup
 |[],_=>List.nodup_nil
 |e::r,h=>by
  have bq:∀s:Int,(e.1,s)∉ends r:=fun s hs=>by obtain⟨f,hf,h1,_⟩:=cO.1 hs;have:=acF h hf;simp only at h1;rw[h1,cv]at this;cases this
  rw[la];refine abv.2 ⟨?_,abv.2 ⟨bq 1,rL h.of_cons⟩⟩;rw[List.mem_cons];rintro(h1|h1)
  ·cases h1
  ·exact bq 0 h1
theorem Hz(e:an):∀l:List an,(bS e l).Perm (e::l)
 |[]=>adE _
 |w::r=>by
  unfold bS
  split
  ·exact adE _
  ·exact(List.Perm.cons w (Hz e r)).trans (List.Perm.swap e w r)
theorem HA(e:ai):∀l:List ai,(ct e l).Perm (e::l)
 |[]=>adE _
 |w::r=>by
  unfold ct
  split
  ·exact adE _
  ·exact(List.Perm.cons w (HA e r)).trans (List.Perm.swap e w r)
theorem HB(e:an)(l:List an):(ends (bS e l)).Perm ((e.1,0)::(e.1,1)::ends l):=by rw[←la];exact List.Perm.flatMap_right _ (Hz e l)
theorem wR(v:ai)(l:List ai):(aq (ct v l)).Perm (v.2.1++aq l):=by rw[←jJ];exact List.Perm.flatMap_right _ (HA v l)
theorem E4{l:List an}{x:ID}(hs:dx l)(h:(aL l x).isSome=true):(ends l).Perm ((x,0)::(x,1)::ends (bF l x)):=by
 obtain⟨e,he⟩:=abC.1 h;obtain⟨h3,h4⟩:=aa2.1 (ma hs he);rw[Ar hs h]
 conv=>lhs;rw[←List.take_append_drop (cE l x) l,List.drop_eq_getElem_cons h3,h4]
 rw[←jm he,←la];exact List.Perm.flatMap_right _ adj
theorem eW{l:List ai}{v:ai}(hs:cd l)(h:v∈l):aN l v.1=some v:=by
 have hf:(aN l v.1).isSome=true:=by unfold aN;rw[List.find?_isSome];exact⟨v,h,by simp⟩
 obtain⟨u,hu⟩:=abC.1 hf;have h1:=dK hs hu;obtain⟨k,hk,he⟩:=ado h;have h2:l[k]? = some v:=by rw[List.getElem?_eq_getElem hk,he]
 rw[kZ hs h2 rfl,h1]at h2;rw[hu];exact h2
theorem mw{l:List ai}{v:ai}(hs:cd l)(h:v∈l):∃a b,l=a++v::b∧(∀u∈a++b,u.1≠v.1)∧bE l v.1=a++b∧∀r,l.map (iM v.1 r)=a++(v.1,(r,v.2.2))::b:=by
 obtain⟨a,b,rfl⟩:=ada h;have hp:=List.pairwise_append.1 hs;have hb:=List.pairwise_cons.1 hp.2.1;have bq:∀u∈a++b,u.1≠v.1:=fun u hu e=>by
  rcases abw.1 hu with hu|hu
  ·have:=hp.2.2 u hu v (by simp);rw[e,cv]at this;cases this
  ·have:=hb.1 u hu;rw[e,cv]at this;cases this
 have hm:∀(r:List ae) (c:List ai),(∀u∈c,u.1≠v.1)→c.map (iM v.1 r)=c:=fun r c hc=>by
  conv=>rhs;rw[←List.map_id c]
  exact ac2 fun u hu=>by unfold iM;rw[if_neg (hc u hu)];rfl
 have hd:∀c:List ai,(∀u∈c,u.1≠v.1)→bE c v.1=c:=fun c hc=>by unfold bE;rw[List.filter_eq_self];intro u hu;simpa using hc u hu
 refine⟨a,b,rfl,bq,?_,fun r=>?_⟩
 ·unfold bE;rw[List.filter_append,List.filter_cons_of_neg (by simp)];have h1:=hd a (fun u hu=>bq u (abi _ hu));have h2:=hd b (fun u hu=>bq u (abg _ hu));unfold bE at h1 h2;rw[h1,h2]
 ·rw[List.map_append,List.map_cons,hm r a (fun u hu=>bq u (List.mem_append_left _ hu)),hm r b (fun u hu=>bq u (List.mem_append_right _ hu))];unfold iM;rw[if_pos rfl]
structure Rw(l:List ai):Prop where
 s:cd l
 n:(aq l).Nodup
theorem Rw.ring{l:List ai}(h:Rw l){v:ai}(hv:v∈l):v.2.1.Nodup:=by obtain⟨a,b,rfl,_⟩:=mw h.s hv;exact(ac6.1 ((gY a b v).nodup_iff.1 h.n)).1
theorem Rw.one{l:List ai}(h:Rw l){v w:ai}{x:ae}(hv:v∈l)(hw:w∈l)(hx:x∈v.2.1)(hy:x∈w.2.1):w=v:=by
 obtain⟨a,b,rfl,_⟩:=mw h.s hv;have hn:=ac6.1 ((gY a b v).nodup_iff.1 h.n);have:w∈a++v::b:=hw;rw[List.mem_append,List.mem_cons]at this;rcases this with k|k|k
 ·exact absurd rfl (hn.2.2 x hx x (aM.2 ⟨w,abi _ k,hy⟩))
 ·exact k
 ·exact absurd rfl (hn.2.2 x hx x (aM.2 ⟨w,abg _ k,hy⟩))
theorem dq{l:List ai}(h:Rw l){v:ai}{x:ae}(hv:v∈l)(hx:x∈v.2.1):EU l x=some v.1:=by
 have hf:(l.find? fun u=>decide (x∈u.2.1)).isSome=true:=by rw[List.find?_isSome];exact⟨v,hv,by simpa using hx⟩
 obtain⟨u,hu⟩:=abC.1 hf;have h1:=acq hu;have h2:x∈u.2.1:=by simpa using adm hu
 unfold EU;rw[hu,h.one hv h1 hx h2];rfl
theorem LO{l:List ai}{x:ae}(h:x∉aq l):EU l x=none:=by
 unfold EU;have:(l.find? fun u=>decide (x∈u.2.1))=none:=by rw[List.find?_eq_none];intro u hu hx;exact h (aM.2 ⟨u,hu,by simpa using hx⟩)
 rw[this];rfl
theorem gk{d:ak}(h:cd d.1){v:ai}(hv:v∈d.1):aV d v.1=v.2.1:=by unfold aV aO;rw[eW h hv];rfl
theorem c9{d:ak}(h:Rw d.1){v:ai}{x:ae}(hv:v∈d.1)(hx:x∈v.2.1):av d x=b8 d v.1 (bz v.2.1 x):=by unfold av bJ;rw[dq h hv hx];show b8 d v.1 (bz (aV d v.1) x)=_;rw[gk h.s hv]
theorem lf{d:ak}(h:Rw d.1){v:ai}{x:ae}(y:ae)(hv:v∈d.1)(hx:x∈v.2.1):az d x y=b8 d v.1 (dJ v.2.1 x y):=by unfold az bJ;rw[dq h hv hx];show b8 d v.1 (dJ (aV d v.1) x y)=_;rw[gk h.s hv]
theorem cd.re{l:List ai}(h:cd l)(x:ID)(r:List ae):cd (l.map (iM x r)):=h.map (pR x r)
theorem E5{l:List ai}{v:ai}(hs:cd l)(hv:v∈l):∃rest,(aq l).Perm (v.2.1++rest)∧∀r,(aq (l.map (iM v.1 r))).Perm (r++rest):=by
 obtain⟨a,b,h1,_,_,h2⟩:=mw hs hv;refine⟨aq (a++b),?_,fun r=>?_⟩
 ·conv=>lhs;rw[h1]
  exact gY a b v
 ·rw[h2 r];exact gY a b (v.1,(r,v.2.2))
theorem cZ{d:ak}(h:Rw d.1){x:ae}(hx:x∈aq d.1):(aq d.1).Perm (x::aq (av d x).1)∧Rw (av d x).1:=by obtain⟨v,hv,j6⟩:=aM.1 hx;obtain⟨rest,h1,h2⟩:=E5 h.s hv;rw[c9 h hv j6];have p:(aq d.1).Perm (x::aq (b8 d v.1 (bz v.2.1 x)).1) :=h1.trans ((ac7 rest (qG j6 (h.ring hv))).trans (List.Perm.cons x (h2 _).symm));exact⟨p,h.s.re _ _,(abv.1 (p.nodup_iff.1 h.n)).2⟩
theorem iI{d:ak}(h:Rw d.1){x y:ae}(hx:x∈aq d.1)(hy:y∉aq d.1):(y::aq d.1).Perm (x::aq (az d x y).1)∧Rw (az d x y).1:=by obtain⟨v,hv,j6⟩:=aM.1 hx;obtain⟨rest,h1,h2⟩:=E5 h.s hv;rw[lf h y hv j6];have XS:y∉v.2.1:=fun k=>hy (aM.2 ⟨v,hv,k⟩);have p:(y::aq d.1).Perm (x::aq (b8 d v.1 (dJ v.2.1 x y)).1) :=(List.Perm.cons y h1).trans ((ac7 rest (E3 j6 XS)).trans (List.Perm.cons x (h2 _).symm));refine⟨p,h.s.re _ _,?_⟩;exact(abv.1 (p.nodup_iff.1 (abv.2 ⟨hy,h.n⟩))).2
theorem lD{d:ak}(h:Rw d.1){c:ml}{x:ae}{v:ai}(hv:aN d.1 c.1=some v)(hx:x∉aq d.1):(aq (br d c x).1).Perm (x::aq d.1)∧Rw (br d c x).1:=by
 have E6:=du hv;have LP:=gj hv;obtain⟨rest,h1,h2⟩:=E5 h.s E6;have j6:x∉v.2.1:=fun k=>hx (aM.2 ⟨v,E6,k⟩);have e:br d c x=b8 d v.1 (gN v.2.1 c.2 x):=by unfold br;rw[←LP,gk h.s E6]
 rw[e];have p:(aq (b8 d v.1 (gN v.2.1 c.2 x)).1).Perm (x::aq d.1) :=(h2 _).trans ((ac7 rest (Hy c.2 j6)).trans (List.Perm.cons x h1.symm));exact⟨p,h.s.re _ _,p.nodup_iff.2 (abv.2 ⟨hx,h.n⟩)⟩
structure GV(v:ai):Prop where
 i:cz v.1=true
 l:lY v.2.2.1=true
 a:jZ v.2.2.2=true
 t:bB v.2.1=v.2.1
structure GE(e:an):Prop where
 i:cz e.1=true
 l:lY e.2.1=true
 a:jZ e.2.2=true
structure Wf(d:ak):Prop where
 sv:cd d.1
 se:dx d.2
 nv:d.1.length≤24
 ne:d.2.length≤40
 gv:∀v∈d.1,GV v
 ge:∀e∈d.2,GE e
 pd:(aq d.1).Perm (ends d.2)
theorem Wf.rw{d:ak}(h:Wf d):Rw d.1:=⟨h.sv,h.pd.nodup_iff.2 (rL h.se)⟩
theorem Wf.zero:Wf zS.1:=⟨List.Pairwise.nil,List.Pairwise.nil,by simp[zS],by simp[zS],by simp[zS],by simp[zS],adE _⟩
theorem GV.re{l:List ai}(h:∀v∈l,GV v)(x:ID){r:List ae}(hr:bB r=r):∀v∈l.map (iM x r),GV v:=fun v hv=>by
 obtain⟨w,hw,rfl⟩:=aca.1 hv;have g:=h w hw;unfold iM
 split
 ·exact⟨g.i,g.l,g.a,hr⟩
 ·exact g
theorem iz{d:ak}(h:∀v∈d.1,GV v)(x:ae):∀v∈(av d x).1,GV v:=GV.re h _ (uQ _ _)
theorem oo{d:ak}(h:∀v∈d.1,GV v)(x y:ae):∀v∈(az d x y).1,GV v:=GV.re h _ (N5 _ _ _)
theorem tJ{d:ak}(h:∀v∈d.1,GV v)(c:ml)(y:ae):∀v∈(br d c y).1,GV v:=GV.re h _ (R6 _ _ _)
theorem fK(d:ak)(x:ID)(r:List ae):(b8 d x r).1.length=d.1.length:=by unfold b8;simp
theorem HC:cz zI=false:=by decide
theorem kz{l:List an}(h:∀e∈l,GE e):bF l zI=l:=by unfold bF;rw[List.filter_eq_self];intro e he;have:=(h e he).i;simp;intro k;rw[k,HC]at this;cases this
theorem lE{l:List ai}(h:∀e∈l,GV e):bE l zI=l:=by unfold bE;rw[List.filter_eq_self];intro e he;have:=(h e he).i;simp;intro k;rw[k,HC]at this;cases this
theorem lg:lY e0=true:=by decide
theorem lh:jZ 0=true:=by decide
theorem E7{l:List an}{x:ID}(h:aL l x=none)(s:Int):(x,s)∉ends l:=fun k=>by obtain⟨e,he,h1,_⟩:=cO.1 k;unfold aL at h;rw[List.find?_eq_none]at h;exact h e he (by simpa using h1)
theorem E8{l:List an}{x:ID}(h:(aL l x).isSome=true){s:Int}(hs:s=0∨s=1):(x,s)∈ends l:=by obtain⟨e,he⟩:=abC.1 h;exact cO.2 ⟨e,k9 he,jm he,hs⟩
theorem rM{o:aW}(h:bm o=0):cz (au o)=true:=by
 unfold bm at h
 split at h;· cases h
 split at h;· cases h
 split at h;· cases h
 rename_i h3;simpa using h3
theorem kC{o:aW}(h:bm o=0):1≤o.1∧o.1≤8:=by
 unfold bm at h
 split at h;· cases h
 split at h;· cases h
 omega
theorem nc{o:aW}(h:bm o=0)(hk:o.1=5):cz (b6 o)=true∧cz (aj o)=true∧0≤oN o∧oN o≤3:=by
 unfold bm at h
 split at h;· cases h
 split at h;· cases h
 split at h;· cases h
 split at h;· cases h
 rw[if_neg (show ¬o.1=3 by omega)]at h
 split at h
 ·assumption
 ·cases h
theorem E9{o:aW}(h:bm o=0)(hk:o.1=6):cz (aj o)=true:=by
 unfold bm at h
 split at h;· cases h
 split at h;· cases h
 split at h;· cases h
 split at h;· cases h
 rw[if_neg (show ¬o.1=3 by omega),if_neg (show ¬o.1=5 by omega)]at h
 split at h
 ·assumption
 ·cases h
theorem Fa{o:aW}(h:bm o=0)(hk:o.1=8):jZ (oN o)=true:=by
 unfold bm at h
 split at h;· cases h
 split at h;· cases h
 split at h;· cases h
 split at h;· cases h
 rw[if_neg (show ¬o.1=3 by omega),if_neg (show ¬o.1=5 by omega),if_neg (show ¬o.1=6 by omega)]at h
 split at h
 ·assumption
 ·cases h
theorem Ax{o:aW}(h:bm o=0)(hk:o.1=7):lY (gO o)=true:=by
 unfold bm at h
 split at h;· cases h
 split at h;· cases h
 split at h;· cases h
 split at h;· cases h
 rw[if_neg (show ¬o.1=3 by omega),if_neg (show ¬o.1=5 by omega),if_neg (show ¬o.1=6 by omega),if_neg (show ¬o.1=8 by omega)]at h
 split at h
 ·assumption
 ·cases h
def jS(l:List aE):Prop:=l.Pairwise fun a b=>lA a.1 b.1=true
theorem rN{a b:ae}:oc a b≤0↔a=b∨lA a b=true:=by
 unfold oc;by_cases h:a=b
 ·subst h;simp
 ·rw[if_neg h];cases lA a b<;>simp[h]
theorem Fb{q g:aE}:∀{l:List aE},q∈mM g l→q=g∨(q∈l∧q.1≠g.1)
 |[],h=>by simp[mM]at h;exact .inl h
 |e::r,h=>by
  unfold mM at h
  split at h
  ·rcases abd.1 h with h|h
   ·exact .inl h
   ·unfold pP at h;rw[List.mem_filter]at h;exact .inr ⟨h.1,by simpa using h.2⟩
  ·split at h
   ·rename_i bq;rcases abd.1 h with rfl|h
    ·exact .inr ⟨abp ..,bq⟩
    ·rcases Fb h with h|⟨h,h2⟩
     ·exact .inl h
     ·exact .inr ⟨aa1 _ h,h2⟩
   ·rcases Fb h with h|⟨h,h2⟩
    ·exact .inl h
    ·exact .inr ⟨aa1 _ h,h2⟩
theorem jS.add(g:aE):∀{l:List aE},jS l→jS (mM g l)
 |[],_=>List.pairwise_singleton _ _
 |e::r,h=>by
  have hr:∀{q:aE},q∈r→lA e.1 q.1=true:=fun {q} hq=>acF h hq;unfold mM
  split
  ·rename_i ho;refine List.Pairwise.cons (fun q hq=>?_) (h.filter _);unfold pP at hq;rw[List.mem_filter]at hq;have bq:q.1≠g.1:=by simpa using hq.2
   have hle:e.1=q.1∨lA e.1 q.1=true:=by
    rcases abd.1 hq.1 with rfl|hq
    ·exact .inl rfl
    ·exact .inr (hr hq)
   rcases rN.1 ho with ho|ho
   ·rcases hle with k|k
    ·exact absurd (ho.trans k).symm bq
    ·rw[ho];exact k
   ·rcases hle with k|k
    ·rw[←k];exact ho
    ·exact gX ho k
  ·rename_i ho;have MT:lA e.1 g.1=true:=by have h1:¬(g.1=e.1∨lA g.1 e.1=true):=fun k=>ho (rN.2 k);exact uM (by simpa using fun k=>h1 (.inr k)) (fun k=>h1 (.inl k))
   have hs:=jS.add g (adI h)
   split
   ·refine List.Pairwise.cons (fun q hq=>?_) hs;rcases Fb hq with rfl|⟨hq,_⟩
    ·exact MT
    ·exact hr hq
   ·exact hs
theorem rO(e:aE)(r:List aE)(x:ae):iw (e::r) x=if e.1=x then some e.2 else iw r x:=by
 unfold iw;rw[List.find?_cons];by_cases h:e.1=x
 ·simp[h]
 ·simp[h]
theorem uR{g:aE}:∀{l:List aE},(∀q∈l,q.1≠g.1)→pP g l=l:=fun {l} h=>by unfold pP;rw[List.filter_eq_self];intro q hq;simpa using h q hq
theorem LQ(g:aE):∀{l:List aE},jS l→(mM g l).length=if(iw l g.1).isSome=true then l.length else l.length+1
 |[],_=>rfl
 |e::r,h=>by
  have hr:∀{q:aE},q∈r→lA e.1 q.1=true:=fun {q} hq=>acF h hq;have ih:=LQ g (adI h);unfold mM
  split
  ·rename_i ho;rcases rN.1 ho with ho|ho
   ·have h1:pP g (e::r)=r:=by
     have:pP g (e::r)=pP g r:=by unfold pP;rw[List.filter_cons_of_neg (by simp[ho])]
     rw[this];exact uR (fun q hq k=>by have:=hr hq;rw[k,ho,eV]at this;cases this)
    rw[h1,rO,if_pos ho.symm];simp
   ·have h2:∀q∈e::r,q.1≠g.1:=fun q hq k=>by
     have:lA g.1 q.1=true:=by
      rcases abd.1 hq with rfl|hq
      ·exact ho
      ·exact gX ho (hr hq)
     rw[k,eV]at this;cases this
    have h3:iw (e::r) g.1=none:=by
     unfold iw;have:(List.find? (fun q=>decide (q.1=g.1)) (e::r))=none:=by rw[List.find?_eq_none];intro q hq;simpa using h2 q hq
     rw[this];rfl
    rw[uR h2,h3];simp
  ·rename_i ho;have bq:e.1≠g.1:=fun k=>ho (rN.2 (.inl k.symm));rw[if_pos bq,rO,if_neg bq];simp only[List.length_cons,ih]
   split<;>rfl
theorem lj{l:List aE}(h:jS l)(hn:l.length≤400)(g:aE):jS (bN l g)∧(bN l g).length≤400:=by
 unfold bN
 split
 ·exact⟨h,hn⟩
 ·rename_i hc;refine⟨jS.add g h,?_⟩;rw[LQ g h]
  split
  ·exact hn
  ·rename_i h1;by_cases h2:400≤l.length
   ·exact absurd ⟨by simpa using h1,h2⟩ hc
   ·omega
theorem ng{α:Type}{o:Option α}(h:¬o.isSome=false):o.isSome=true:=by cases o<;>simp_all
structure dN(s:StateT):Prop where
 d:Wf s.1
 g:jS s.2
 n:s.2.length≤400
theorem dN.zero:dN zS:=⟨Wf.zero,List.Pairwise.nil,by simp[zS]⟩
theorem dN.add{l:List aE}(h:jS l)(hn:l.length≤400){d:ak}(hd:Wf d)(g:aE):dN (d,bN l g):=⟨hd,(lj h hn g).1,(lj h hn g).2⟩
theorem R7{f:ai→ai}(hf:∀v,(f v).2.1=v.2.1)(l:List ai):aq (l.map f)=aq l:=by unfold aq;rw[List.flatMap_map];congr 1;funext v;exact hf v
theorem V7{f:an→an}(hf:∀v,(f v).1=v.1)(l:List an):ends (l.map f)=ends l:=by unfold ends;rw[List.flatMap_map];congr 1;funext v;rw[hf]
theorem Jv(o:aW)(w:an):(gL o w).1=w.1:=by unfold gL;split<;>(try split)<;>rfl
theorem R8(o:aW)(w:ai):(fJ o w).2.1=w.2.1:=by unfold fJ;split<;>(try split)<;>rfl
theorem Wf.mP{d:ak}(h:Wf d){x:ID}(hx:aL d.2 x=none)(s:Int):(x,s)∉aq d.1:=fun k=>E7 hx s (h.pd.mem_iff.1 k)
theorem Wf.g9{d:ak}(h:Wf d){x:ID}(hx:(aL d.2 x).isSome=true){s:Int}(hs:s=0∨s=1):(x,s)∈aq d.1:=h.pd.mem_iff.2 (E8 hx hs)
theorem Wf.qC{s:StateT}(h:Wf s.1){o:aW}(hm:bm o=0)(hk:7≤o.1):Wf (qC s o).1.1:=by
 have hk8:=(kC hm).2;unfold Vs.qC
 split
 ·refine⟨h.sv.map (PT o),h.se.map (Jv o),by simp;exact h.nv,by simp;exact h.ne,fun v hv=>?_,fun e he=>?_,?_⟩
  ·obtain⟨w,hw,rfl⟩:=aca.1 hv;have g:=h.gv w hw;unfold fJ
   split
   ·split
    ·rename_i h7;exact⟨g.i,Ax hm h7,g.a,g.t⟩
    ·exact⟨g.i,g.l,Fa hm (by omega),g.t⟩
   ·exact g
  ·obtain⟨w,hw,rfl⟩:=aca.1 he;have g:=h.ge w hw;unfold gL
   split
   ·split
    ·rename_i h7;exact⟨g.i,Ax hm h7,g.a⟩
    ·exact⟨g.i,g.l,Fa hm (by omega)⟩
   ·exact g
  ·show(aq (s.1.1.map (fJ o))).Perm (ends (s.1.2.map (gL o)));rw[R7 (R8 o),V7 (Jv o)];exact h.pd
 ·exact Wf.zero
theorem lk{s:StateT}{c:ml}(h:(aR s c).2.1=0):(aO s.1 c.1).isSome=true∧(aR s c).1.1=c.1:=by
 unfold aR at h ⊢
 cases hv:aO s.1 c.1 with
 |none=>rw[hv]at h;cases h
 |some v=>exact⟨rfl,rfl⟩
theorem tK{l:List ai}{x y:ID}(r:List ae)(h:(aN l x).isSome=true):(aN (l.map (iM y r)) x).isSome=true:=by rw[iH (pR y r)];simpa using h
theorem Wf.link{d:ak}(h:Wf d){x:ID}(hx:cz x=true)(hn:aL d.2 x=none)(he:¬40≤d.2.length){a b:ml}(ha:(aN d.1 a.1).isSome=true)(hb:(aN d.1 b.1).isSome=true) :
  Wf (br (br (d.1,bS (x,(e0,0)) d.2) a (x,0)) b (x,1)):=by
 have N6:Rw ((d.1,bS (x,(e0,0)) d.2):ak).1:=h.rw;obtain⟨va,hva⟩:=abC.1 ha;have h0:=h.mP hn 0;have h1:=h.mP hn 1;obtain⟨p1,q1⟩:=lD (c:=a) (x:=(x,0)) N6 hva h0;obtain⟨vb,hvb⟩:=abC.1 (tK (x:=b.1) (y:=a.1) (gN (aV (d.1,bS (x,(e0,0)) d.2) a.1) a.2 (x,0)) hb);have XB:(x,1)∉aq (br (d.1,bS (x,(e0,0)) d.2) a (x,0)).1:=fun k=>by
  rcases abd.1 (p1.mem_iff.1 k) with k|k
  ·cases k
  ·exact h1 k
 obtain⟨p2,q2⟩:=lD (c:=b) (x:=(x,1)) q1 hvb XB;refine⟨q2.s,As (x,(e0,0)) h.se hn,?_,?_,tJ (tJ h.gv _ _) _ _,fun e hem=>?_,?_⟩
 ·unfold br;rw[fK,fK];exact h.nv
 ·show(bS (x,(e0,0)) d.2).length≤40;rw[l6];omega
 ·rcases ky.1 (show e∈bS (x,(e0,0)) d.2 from hem) with rfl|hem
  ·exact⟨hx,lg,lh⟩
  ·exact h.ge e hem
 ·show(aq _).Perm (ends (bS (x,(e0,0)) d.2));refine(p2.trans (List.Perm.cons _ p1)).trans (List.Perm.trans ?_ (HB (x,(e0,0)) d.2).symm);exact(List.Perm.swap _ _ _).trans (List.Perm.cons _ (List.Perm.cons _ h.pd))
theorem Wf.cut{d:ak}(h:Wf d){x:ID}(hx:(aL d.2 x).isSome=true):Wf (aF (av (av d (x,0)) (x,1)) zI x):=by
 have h0:=h.g9 hx (s:=0) (.inl rfl);have h1:=h.g9 hx (s:=1) (.inr rfl);obtain⟨p1,q1⟩:=cZ h.rw h0;have XB:(x,1)∈aq (av d (x,0)).1:=by
  rcases abd.1 (p1.mem_iff.1 h1) with k|k
  ·cases k
  ·exact k
 obtain⟨p2,q2⟩:=cZ q1 XB;have PV:=iz (iz h.gv (x,0)) (x,1);have PW:(aF (av (av d (x,0)) (x,1)) zI x).1=(av (av d (x,0)) (x,1)).1:=lE PV;refine⟨by rw[PW];exact q2.s,rK h.se,?_,?_,by rw[PW];exact PV,fun e he=>h.ge e ?_,?_⟩
 ·rw[PW];unfold av;rw[fK,fK];exact h.nv
 ·exact acN (ac9 _ _) h.ne
 ·exact(adg.1 (show e∈d.2.filter fun w=>decide (w.1≠x) from he)).1
 ·rw[PW];show(aq (av (av d (x,0)) (x,1)).1).Perm (ends (bF d.2 x));have p3:((x,0)::(x,1)::aq (av (av d (x,0)) (x,1)).1).Perm ((x,0)::(x,1)::ends (bF d.2 x)) :=((p1.trans (List.Perm.cons _ p2)).symm.trans h.pd).trans (E4 h.se hx);exact p3.cons_inv.cons_inv
theorem iJ{x:ae}(h:x.2=0∨x.2=1):(ah x).1=x.1∧((x.2=0∧(ah x).2=1)∨(x.2=1∧(ah x).2=0)):=by
 refine⟨rfl,?_⟩;unfold ah;rcases h with h|h
 ·exact .inl ⟨h,by rw[h];rfl⟩
 ·exact .inr ⟨h,by rw[h];rfl⟩
theorem LR{x:ae}(h:x.2=0∨x.2=1)(l:List ae):(x::ah x::l).Perm ((x.1,0)::(x.1,1)::l):=by
 obtain⟨h1,h2⟩:=iJ h;have e:x=(x.1,x.2):=rfl;have e2:ah x=(x.1,(ah x).2):=rfl;rcases h2 with⟨ha,hb⟩|⟨ha,hb⟩
 ·rw[ha]at e;rw[hb]at e2;rw[e2,e]
 ·rw[ha]at e;rw[hb]at e2;rw[e2,e];exact List.Perm.swap _ _ _
theorem yG{n:Int}(h0:0≤n)(h3:n≤3):(IntKind.wrap .i64 (1-Int.tmod n 2)=0∨IntKind.wrap .i64 (1-Int.tmod n 2)=1)∧(IntKind.wrap .i64 (Int.tdiv n 2)=0∨IntKind.wrap .i64 (Int.tdiv n 2)=1):=by
 have:n=0∨n=1∨n=2∨n=3:=by omega
 rcases this with rfl|rfl|rfl|rfl<;>exact⟨by decide,by decide⟩
theorem Wf.split{d:ak}(h:Wf d){m k:ae}{v:ID}(hv:cz v=true)(hk:cz k.1=true)(zH:m.2=0∨m.2=1)(pJ:k.2=0∨k.2=1)(hm:(aL d.2 m.1).isSome=true)(QH:aN d.1 v=none)(hnk:aL d.2 k.1=none) (S8:¬24≤d.1.length) (hle:¬40≤d.2.length):Wf (ct (v,(bB [m,k],(e0,0))) (az d m (ah k)).1,bS (k.1,(e0,0)) (az d m (ah k)).2):=by
 have LS:m∈aq d.1:=h.g9 hm zH;have G1:ah k∉aq d.1:=h.mP hnk _;obtain⟨p1,q1⟩:=iI h.rw LS G1;have YU:aN (az d m (ah k)).1 v=none:=by unfold az Vs.b8;rw[iH (pR _ _),QH];rfl
 refine⟨qE (v,(bB [m,k],(e0,0))) q1.s YU,As (k.1,(e0,0)) h.se hnk,?_,?_,fun w hw=>?_,fun e he=>?_,?_⟩
 ·show(ct _ (az d m (ah k)).1).length≤24;rw[gu];unfold az;rw[fK];omega
 ·show(bS _ d.2).length≤40;rw[l6];omega
 ·rcases kx.1 hw with rfl|hw
  ·exact⟨hv,lg,lh,uP _⟩
  ·exact oo h.gv _ _ w hw
 ·rcases ky.1 (show e∈bS (k.1,(e0,0)) d.2 from he) with rfl|he
  ·exact⟨hk,lg,lh⟩
  ·exact h.ge e he
 ·show(aq (ct _ _)).Perm (ends (bS (k.1,(e0,0)) d.2));refine(wR _ _).trans (List.Perm.trans ?_ (HB (k.1,(e0,0)) d.2).symm);refine(ac7 _ (fw [m,k])).trans ?_;show(m::k::aq (az d m (ah k)).1).Perm _;refine(List.Perm.swap k m _).trans ((List.Perm.cons k p1.symm).trans ?_);refine(LR pJ _).trans ?_;exact List.Perm.cons _ (List.Perm.cons _ h.pd)
theorem Wf.V8{d:ak}(h:Wf d){v:ai}(hv:v∈d.1)(hr:v.2.1=[]):Wf (aF d v.1 zI):=by
 obtain⟨a,b,h1,_,h2,_⟩:=mw h.sv hv;refine⟨kY h.sv,?_,acN (ac9 _ _) h.nv,acN (ac9 _ _) h.ne,fun w hw=>h.gv w ?_,fun e he=>h.ge e ?_,?_⟩
 ·exact rK h.se
 ·exact(adg.1 (show w∈d.1.filter fun w=>decide (w.1≠v.1) from hw)).1
 ·exact(adg.1 (show e∈d.2.filter fun w=>decide (w.1≠zI) from he)).1
 ·show(aq (bE d.1 v.1)).Perm (ends (bF d.2 zI));rw[h2,kz h.ge];have p:=gY a b v;rw[←h1,hr,List.nil_append]at p;exact p.symm.trans h.pd
theorem Wf.ab3{d:ak}(h:Wf d){v:ai}{a b:ae}(hv:v∈d.1)(hr:v.2.1.Perm [a,b])(mI:a.1≠b.1):Wf (aF (az (aF d v.1 zI) (ah b) a) zI b.1):=by
 obtain⟨p,q,h1,_,h2,_⟩:=mw h.sv hv;have pd:(aq d.1).Perm (a::b::aq (p++q)):=by have:=(gY p q v).trans (ac7 _ hr);rw[←h1]at this;exact this
 have N7:aF d v.1 zI=(p++q,d.2):=by unfold aF;rw[h2,kz h.ge]
 have Cq:=pd.nodup_iff.1 h.rw.n;have hbm:b∈ends d.2:=h.pd.mem_iff.1 (pd.mem_iff.2 (by simp));obtain⟨e,he,he1,zt⟩:=cO.1 hbm;have u5:(aL d.2 b.1).isSome=true:=by unfold aL;rw[List.find?_isSome];exact⟨e,he,by simpa using he1⟩
 obtain⟨_,ho⟩:=iJ zt;have R9:ah b∈aq (p++q):=by
  have h3:ah b∈aq d.1:=h.g9 (s:=(ah b).2) u5 (by rcases ho with⟨_,k⟩|⟨_,k⟩<;>omega);rcases abd.1 (pd.mem_iff.1 h3) with k|k
  ·exact absurd (congrArg Prod.fst k) (fun k=>mI k.symm)
  rcases abd.1 k with k|k
  ·have:=congrArg Prod.snd k;omega
  ·exact k
 have Jw:Rw (p++q):=by refine⟨?_,(abv.1 (abv.1 Cq).2).2⟩;rw[←h2];exact kY h.sv
 have ha:a∉aq (p++q):=fun k=>(abv.1 Cq).1 (aa1 _ k);rw[N7];obtain⟨p1,q1⟩:=iI (d:=(p++q,d.2)) Jw R9 ha;have PV:∀w∈(az (p++q,d.2) (ah b) a).1,GV w:=by
  refine oo (d:=(p++q,d.2)) (fun w hw=>h.gv w ?_) _ _;rw[h1];rcases abw.1 hw with k|k
  ·exact abi _ k
  ·exact abg _ (aa1 _ k)
 have PW:(aF (az (p++q,d.2) (ah b) a) zI b.1).1=(az (p++q,d.2) (ah b) a).1:=lE PV;refine⟨by rw[PW];exact q1.s,rK h.se,?_,acN (ac9 _ _) h.ne,by rw[PW];exact PV,fun f hf=>h.ge f ?_,?_⟩
 ·rw[PW];unfold az;rw[fK];have:=h.nv;rw[h1]at this;simp at this ⊢;omega
 ·exact(adg.1 (show f∈d.2.filter fun w=>decide (w.1≠b.1) from hf)).1
 ·rw[PW];show(aq (az (p++q,d.2) (ah b) a).1).Perm (ends (bF d.2 b.1));have p3:(b::ah b::aq (az (p++q,d.2) (ah b) a).1).Perm (b::ah b::ends (bF d.2 b.1)):=by refine List.Perm.trans (List.Perm.cons b p1.symm) ?_;refine(List.Perm.swap a b _).trans (pd.symm.trans (h.pd.trans ?_));exact(E4 h.se u5).trans (LR zt _).symm
  exact p3.cons_inv.cons_inv
theorem dN.one{s:StateT}(h:dN s)(o:aW):dN (bT s o).1:=by
 unfold bT
 split
 ·exact dN.zero
 rename_i hm;have hm:bm o=0:=Classical.byContradiction fun k=>hm k;have bR:=rM hm
 split
 ·unfold l8
  split;· exact dN.zero
  split;· exact dN.zero
  rename_i h1 h2;have hn:aN s.1.1 (au o)=none:=by simpa[aO] using h1
  refine⟨⟨qE _ h.d.sv hn,h.d.se,by show(ct _ s.1.1).length≤24;rw[gu];omega,h.d.ne,fun w hw=>?_,h.d.ge,?_⟩,h.g,h.n⟩
  ·rcases kx.1 hw with rfl|hw
   ·exact⟨bR,lg,lh,rfl⟩
   ·exact h.d.gv w hw
  ·exact(wR _ _).trans h.d.pd
 split
 ·unfold qD
  cases hv:aO s.1 (au o) with
  |none=>exact dN.zero
  |some v =>
   simp only
   split
   ·exact dN.zero
   ·rename_i hr;have:=h.d.V8 (du hv) (by simpa using hr);rw[gj hv]at this;exact⟨this,h.g,h.n⟩
 split
 ·unfold kK
  split;· exact dN.zero
  split;· exact dN.zero
  split;· exact dN.zero
  split;· exact dN.zero
  split;· exact dN.zero
  rename_i h1 h2 h3 h4 h5;have hn:aL s.1.2 (au o)=none:=by simpa[cH] using h1
  obtain⟨ca,ca2⟩:=lk (s:=s) (c:=oA o) (Classical.byContradiction fun k=>h3 k);obtain⟨cb,cb2⟩:=lk (s:=s) (c:=oB o) (Classical.byContradiction fun k=>h4 k);refine⟨?_,h.g,h.n⟩;unfold gP;refine h.d.link bR hn h2 (by rw[ca2];exact ca) ?_
  split
  ·exact cb
  ·rw[cb2];exact cb
 split
 ·unfold wM
  split;· exact dN.zero
  rename_i h1;have h2:=lj h.g h.n ((au o,0),dA s.1 (au o,0));exact dN.add h2.1 h2.2 (h.d.cut (ng h1)) _
 split
 ·rename_i hk;unfold iS
  split;· exact dN.zero
  split;· exact dN.zero
  split;· exact dN.zero
  split;· exact dN.zero
  split;· exact dN.zero
  rename_i h1 h2 h3 h4 h5;obtain⟨m1,m2,m3,m4⟩:=nc hm hk;obtain⟨s1,s2⟩:=yG m3 m4;refine⟨?_,h.g,h.n⟩;exact h.d.split (m:=Jn o) (k:=F3 o) m1 m2 s1 s2 (ng h1) (by simpa[aO] using h2) (by simpa[cH,F3] using h3) h4 h5
 split
 ·unfold fU
  split
  ·exact dN.zero
  ·rename_i v hv
   split
   ·rename_i r0 r1 hr;have E6:=du hv;have LP:=gj hv;have key:∀a b:ae,v.2.1.Perm [a,b]→a.1≠b.1→dN (Gz s o a b,Hs s.2 a b):=fun a b hp mI=>by have h2:=lj h.g h.n ((b.1,0),sE a b 0);have:=h.d.ab3 E6 hp mI;rw[LP]at this;exact dN.add h2.1 h2.2 this _
    unfold dG
    split;· exact dN.zero
    rename_i bq
    split
    ·exact key r1 r0 (by rw[hr];exact List.Perm.swap _ _ _) (fun k=>bq k.symm)
    split
    ·exact key r0 r1 (by rw[hr]) bq
    ·exact dN.zero
   ·exact dN.zero
 ·rename_i k1 k2 k3 k4 k5 k6;have hk:=kC hm;have:=h.d.qC hm (by omega);refine⟨this,?_,?_⟩
  ·unfold qC;split
   ·exact h.g
   ·exact List.Pairwise.nil
  ·unfold qC;split
   ·exact h.n
   ·simp[zS]
theorem dN.go:∀(l:List aW) {s:StateT},dN s→dN (j5 l s).1
 |[],s,h=>h
 |o::r,s,h=>by
  unfold j5
  split
  ·exact dN.zero
  ·exact dN.go r (h.one o)
theorem dN.apply{s:StateT}(h:dN s)(l:List aW):dN (cX s l).1:=by
 unfold cX
 split
 ·exact dN.zero
 ·exact dN.go l h
theorem dN.try{s:StateT}(h:dN s)(l:List aW):dN (oK s l):=by
 unfold oK
 split
 ·exact h
 ·exact h.apply l
theorem dN.reach:∀(m:Nat) (l:List (List aW)) {s:StateT},dN s→dN (og m l s)
 |0,_,s,h=>by simpa[og] using h
 |m+1,[],s,h=>h
 |m+1,l::r,s,h=>by rw[og];exact dN.reach m r (h.try _)
theorem dN.PS(l:List (List aW)):dN (EX l):=dN.reach 30 l dN.zero
end Go.Vs
