/- Diagrams that are well formed -/
import Derived.Test.YtpkfpbpbkabkdaaGreatRings
set_option linter.unusedVariables false
set_option linter.unusedSimpArgs false
namespace Go.Vs
open Go.Proofs
theorem j4(row:List ae):(cx row).Perm row:=by unfold cx Dy;exact aeR.trans (List.Perm.of_eq (List.take_append_drop _ _))
theorem OT{row:List ae}(h:0<row.length)(hl:∀j,(hj:j<row.length)→kG row[j] row[0]=false):fM row row 0 0=0:=by
 have hm:=p6 row row 0 0 h (by omega);have h2:=(uE h).2 0;by_cases hz:fM row row 0 0=0
 ·exact hz
 ·have:=h2 (by omega) h;rw[qd hm,hl _ hm]at this;cases this
theorem SZ(row:List ae):Dy row 0=row:=by unfold Dy;simp
theorem sO(row:List ae):cx (cx row)=cx row:=by
 by_cases h0:row.length=0
 ·have:row=[]:=by simpa using h0
  subst this;rfl
 have hp:0<row.length:=by omega
 have hm:=p6 row row 0 0 hp (by omega);have hp2:0<(cx row).length:=by rw[gy];exact hp
 have h1:(cx row)[0]=row.getD (fM row row 0 0) zD:=by have:=MO (row:=row) (k:=fM row row 0 0) (i:=0) (by omega) hp;rw[Nat.add_zero,Nat.mod_eq_of_lt hm,List.getElem?_eq_getElem hm]at this;rw[qd hm];exact(aaW.1 this).2
 have h2:fM (cx row) (cx row) 0 0=0:=by refine OT hp2 (fun j hj=>?_);rw[h1];have gY:(cx row)[j]∈row:=IX.1 (adg hj);obtain⟨i,hi,he⟩:=aeP gY;rw[←he];exact(uE hp).1 i hi
 unfold cx at h2 ⊢;rw[h2,SZ]
theorem OU(row:List ae)(a d:ae):cx (mw row a d)=mw row a d:=by unfold mw;split<;>exact sO _
theorem OV(row:List ae)(d:ae):cx (cy row d)=cy row d:=sO _
theorem Lg(row:List ae)(a d:ae):cx (jJ row a d)=jJ row a d:=sO _
theorem OX{row:List ae}{d:ae}(a:ae)(h:d∉row):(mw row a d).Perm (d::row):=by unfold mw;rw[if_neg h];refine(j4 _).trans (aeQ.trans ?_);rw[List.take_append_drop]
theorem sP{row:List ae}{d:ae}(h:d∈row)(hn:row.Nodup):row.Perm (d::cy row d):=by
 obtain⟨k,_,h2,_⟩:=fL h;obtain⟨h3,h4⟩:=aaW.1 h2;unfold cy;rw[xT hn h2];refine List.Perm.trans ?_ (List.Perm.cons d (j4 _).symm)
 conv=>lhs;rw[←List.take_append_drop k row,List.drop_eq_getElem_cons h3,h4]
 exact aeQ
theorem Lh{row:List ae}{cW d:ae}(h:cW∈row)(hd:d∉row):(d::row).Perm (cW::jJ row cW d):=by
 obtain⟨k,h1,h2,_⟩:=fL h;obtain⟨h3,h4⟩:=aaW.1 h2;unfold jJ;rw[if_pos ⟨h,hd⟩,h1,Int.toNat_natCast];refine List.Perm.trans ?_ (List.Perm.cons cW (j4 _).symm);rw[List.set_eq_take_append_cons_drop,if_pos h3]
 conv=>lhs;rw[←List.take_append_drop k row,List.drop_eq_getElem_cons h3,h4]
 have p1:(row.take k++cW::row.drop (k+1)).Perm (cW::(row.take k++row.drop (k+1))):=aeQ;have p2:(row.take k++d::row.drop (k+1)).Perm (d::(row.take k++row.drop (k+1))):=aeQ;exact(List.Perm.cons d p1).trans ((List.Perm.swap cW d _).trans (List.Perm.cons cW p2.symm))
def ax(l:List ah):List ae:=l.flatMap fun v=>v.2.1
def ends(l:List ai):List ae:=l.flatMap fun e=>[(e.1,0),(e.1,1)]
theorem iL(v:ah)(l:List ah):ax (v::l)=v.2.1++ax l:=List.flatMap_cons
theorem oT(a b:List ah):ax (a++b)=ax a++ax b:=List.flatMap_append
theorem iW(a b:List ah)(v:ah):(ax (a++v::b)).Perm (v.2.1++ax (a++b)):=by rw[oT,iL,oT,←List.append_assoc,←List.append_assoc];exact aej _ aeR
theorem bh{x:ae}{l:List ah}:x∈ax l↔∃v∈l,x∈v.2.1:=List.mem_flatMap
theorem j5(e:ai)(l:List ai):ends (e::l)=(e.1,0)::(e.1,1)::ends l:=by unfold ends;rw[List.flatMap_cons];rfl
theorem cH{x:ae}{l:List ai}:x∈ends l↔∃e∈l,e.1=x.1∧(x.2=0∨x.2=1):=by
 unfold ends;rw[List.mem_flatMap];constructor
 ·rintro⟨e,he,hx⟩;rcases aa1.1 hx with rfl|hx
  ·exact⟨e,he,rfl,.inl rfl⟩
  ·rw[List.mem_singleton]at hx;subst hx;exact⟨e,he,rfl,.inr rfl⟩
 ·rintro⟨e,he,h1,h2⟩;refine⟨e,he,?_⟩;obtain⟨x1,x2⟩:=x;simp only at h1 h2;subst h1;rcases h2 with rfl|rfl<;>simp
theorem qe:∀{l:List ai},dt l→(ends l).Nodup
 |[],_=>List.nodup_nil
 |e::r,h=>by
  have bw:∀s:Int,(e.1,s)∉ends r:=fun s hs=>by obtain⟨f,hf,h1,_⟩:=cH.1 hs;have:=adF h hf;simp only at h1;rw[h1,cm]at this;cases this
  rw[j5];refine ac9.2 ⟨?_,ac9.2 ⟨bw 1,qe h.of_cons⟩⟩;rw[List.mem_cons];rintro(h1|h1)
  ·cases h1
  ·exact bw 0 h1
theorem ER(e:ai):∀l:List ai,(dC e l).Perm (e::l)
 |[]=>aeX _
 |w::r=>by
  unfold dC
  split
  ·exact aeX _
  ·exact(List.Perm.cons w (ER e r)).trans (List.Perm.swap e w r)
theorem ES(e:ah):∀l:List ah,(eO e l).Perm (e::l)
 |[]=>aeX _
 |w::r=>by
  unfold eO
  split
  ·exact aeX _
  ·exact(List.Perm.cons w (ES e r)).trans (List.Perm.swap e w r)
theorem ET(e:ai)(l:List ai):(ends (dC e l)).Perm ((e.1,0)::(e.1,1)::ends l):=by rw[←j5];exact List.Perm.flatMap_right _ (ER e l)
theorem CM(v:ah)(l:List ah):(ax (eO v l)).Perm (v.2.1++ax l):=by rw[←iL];exact List.Perm.flatMap_right _ (ES v l)
theorem CN{l:List ai}{x:ID}(hs:dt l)(h:(aX l x).isSome=true):(ends l).Perm ((x,0)::(x,1)::ends (dd l x)):=by
 obtain⟨e,he⟩:=adf.1 h;obtain⟨h3,h4⟩:=aaW.1 (mC hs he);rw[xO hs h]
 conv=>lhs;rw[←List.take_append_drop (cg l x) l,List.drop_eq_getElem_cons h3,h4]
 rw[←rI he,←j5];exact List.Perm.flatMap_right _ aeQ
theorem iq{l:List ah}{v:ah}(hs:cc l)(h:v∈l):bg l v.1=some v:=by
 have hf:(bg l v.1).isSome=true:=by unfold bg;rw[List.find?_isSome];exact⟨v,h,by simp⟩
 obtain⟨u,hu⟩:=adf.1 hf;have h1:=dp hs hu;obtain⟨k,hk,he⟩:=aeP h;have h2:l[k]? = some v:=by rw[List.getElem?_eq_getElem hk,he]
 rw[j0 hs h2 rfl,h1]at h2;rw[hu];exact h2
theorem rJ{l:List ah}{v:ah}(hs:cc l)(h:v∈l):∃a b,l=a++v::b∧(∀u∈a++b,u.1≠v.1)∧dG l v.1=a++b∧∀r,l.map (sH v.1 r)=a++(v.1,(r,v.2.2))::b:=by
 obtain⟨a,b,rfl⟩:=aeD h;have hp:=List.pairwise_append.1 hs;have hb:=List.pairwise_cons.1 hp.2.1;have bw:∀u∈a++b,u.1≠v.1:=fun u hu e=>by
  rcases acw.1 hu with hu|hu
  ·have:=hp.2.2 u hu v (by simp);rw[e,cm]at this;cases this
  ·have:=hb.1 u hu;rw[e,cm]at this;cases this
 have hm:∀(r:List ae) (c:List ah),(∀u∈c,u.1≠v.1)→c.map (sH v.1 r)=c:=fun r c hc=>by
  conv=>rhs;rw[←List.map_id c]
  exact ae1 fun u hu=>by unfold sH;rw[if_neg (hc u hu)];rfl
 have hd:∀c:List ah,(∀u∈c,u.1≠v.1)→dG c v.1=c:=fun c hc=>by unfold dG;rw[List.filter_eq_self];intro u hu;simpa using hc u hu
 refine⟨a,b,rfl,bw,?_,fun r=>?_⟩
 ·unfold dG;rw[List.filter_append,List.filter_cons_of_neg (by simp)];have h1:=hd a (fun u hu=>bw u (aa2 _ hu));have h2:=hd b (fun u hu=>bw u (aco _ hu));unfold dG at h1 h2;rw[h1,h2]
 ·rw[List.map_append,List.map_cons,hm r a (fun u hu=>bw u (List.mem_append_left _ hu)),hm r b (fun u hu=>bw u (List.mem_append_right _ hu))];unfold sH;rw[if_pos rfl]
structure Rw(l:List ah):Prop where
 s:cc l
 n:(ax l).Nodup
theorem Rw.ring{l:List ah}(h:Rw l){v:ah}(hv:v∈l):v.2.1.Nodup:=by obtain⟨a,b,rfl,_⟩:=rJ h.s hv;exact(aeB.1 ((iW a b v).nodup_iff.1 h.n)).1
theorem Rw.one{l:List ah}(h:Rw l){v w:ah}{x:ae}(hv:v∈l)(hw:w∈l)(hx:x∈v.2.1)(hy:x∈w.2.1):w=v:=by
 obtain⟨a,b,rfl,_⟩:=rJ h.s hv;have hn:=aeB.1 ((iW a b v).nodup_iff.1 h.n);have:w∈a++v::b:=hw;rw[List.mem_append,List.mem_cons]at this;rcases this with k|k|k
 ·exact absurd rfl (hn.2.2 x hx x (bh.2 ⟨w,aa2 _ k,hy⟩))
 ·exact k
 ·exact absurd rfl (hn.2.2 x hx x (bh.2 ⟨w,aco _ k,hy⟩))
theorem iM{l:List ah}(h:Rw l){v:ah}{x:ae}(hv:v∈l)(hx:x∈v.2.1):Gt l x=some v.1:=by
 have hf:(l.find? fun u=>decide (x∈u.2.1)).isSome=true:=by rw[List.find?_isSome];exact⟨v,hv,by simpa using hx⟩
 obtain⟨u,hu⟩:=adf.1 hf;have h1:=ado hu;have h2:x∈u.2.1:=by simpa using aeF hu
 unfold Gt;rw[hu,h.one hv h1 hx h2];rfl
theorem I7{l:List ah}{x:ae}(h:x∉ax l):Gt l x=none:=by
 unfold Gt;have:(l.find? fun u=>decide (x∈u.2.1))=none:=by rw[List.find?_eq_none];intro u hu hx;exact h (bh.2 ⟨u,hu,by simpa using hx⟩)
 rw[this];rfl
theorem iX{d:aj}(h:cc d.1){v:ah}(hv:v∈d.1):aW d v.1=v.2.1:=by unfold aW aQ;rw[iq h hv];rfl
theorem j6{d:aj}(h:Rw d.1){v:ah}{x:ae}(hv:v∈d.1)(hx:x∈v.2.1):aJ d x=cp d v.1 (cy v.2.1 x):=by unfold aJ bP;rw[iM h hv hx];show cp d v.1 (cy (aW d v.1) x)=_;rw[iX h.s hv]
theorem CO{d:aj}(h:Rw d.1){v:ah}{x:ae}(y:ae)(hv:v∈d.1)(hx:x∈v.2.1):aK d x y=cp d v.1 (jJ v.2.1 x y):=by unfold aK bP;rw[iM h hv hx];show cp d v.1 (jJ (aW d v.1) x y)=_;rw[iX h.s hv]
theorem cc.re{l:List ah}(h:cc l)(x:ID)(r:List ae):cc (l.map (sH x r)):=h.map (rH x r)
theorem CP{l:List ah}{v:ah}(hs:cc l)(hv:v∈l):∃rest,(ax l).Perm (v.2.1++rest)∧∀r,(ax (l.map (sH v.1 r))).Perm (r++rest):=by
 obtain⟨a,b,h1,_,_,h2⟩:=rJ hs hv;refine⟨ax (a++b),?_,fun r=>?_⟩
 ·conv=>lhs;rw[h1]
  exact iW a b v
 ·rw[h2 r];exact iW a b (v.1,(r,v.2.2))
theorem fG{d:aj}(h:Rw d.1){x:ae}(hx:x∈ax d.1):(ax d.1).Perm (x::ax (aJ d x).1)∧Rw (aJ d x).1:=by obtain⟨v,hv,jG⟩:=bh.1 hx;obtain⟨rest,h1,h2⟩:=CP h.s hv;rw[j6 h hv jG];have p:(ax d.1).Perm (x::ax (cp d v.1 (cy v.2.1 x)).1) :=h1.trans ((aej rest (sP jG (h.ring hv))).trans (List.Perm.cons x (h2 _).symm));exact⟨p,h.s.re _ _,(ac9.1 (p.nodup_iff.1 h.n)).2⟩
theorem qf{d:aj}(h:Rw d.1){x y:ae}(hx:x∈ax d.1)(hy:y∉ax d.1):(y::ax d.1).Perm (x::ax (aK d x y).1)∧Rw (aK d x y).1:=by obtain⟨v,hv,jG⟩:=bh.1 hx;obtain⟨rest,h1,h2⟩:=CP h.s hv;rw[CO h y hv jG];have Uw:y∉v.2.1:=fun k=>hy (bh.2 ⟨v,hv,k⟩);have p:(y::ax d.1).Perm (x::ax (cp d v.1 (jJ v.2.1 x y)).1) :=(List.Perm.cons y h1).trans ((aej rest (Lh jG Uw)).trans (List.Perm.cons x (h2 _).symm));refine⟨p,h.s.re _ _,?_⟩;exact(ac9.1 (p.nodup_iff.1 (ac9.2 ⟨hy,h.n⟩))).2
theorem tH{d:aj}(h:Rw d.1){c:ni}{x:ae}{v:ah}(hv:bg d.1 c.1=some v)(hx:x∉ax d.1):(ax (bV d c x).1).Perm (x::ax d.1)∧Rw (bV d c x).1:=by
 have S4:=gQ hv;have hvi:=kM hv;obtain⟨rest,h1,h2⟩:=CP h.s S4;have jG:x∉v.2.1:=fun k=>hx (bh.2 ⟨v,S4,k⟩);have e:bV d c x=cp d v.1 (mw v.2.1 c.2 x):=by unfold bV;rw[←hvi,iX h.s S4]
 rw[e];have p:(ax (cp d v.1 (mw v.2.1 c.2 x)).1).Perm (x::ax d.1) :=(h2 _).trans ((aej rest (OX c.2 jG)).trans (List.Perm.cons x h1.symm));exact⟨p,h.s.re _ _,p.nodup_iff.2 (ac9.2 ⟨hx,h.n⟩)⟩
structure GV(v:ah):Prop where
 i:cf v.1=true
 l:mP v.2.2.1=true
 a:kI v.2.2.2=true
 t:cx v.2.1=v.2.1
structure GE(e:ai):Prop where
 i:cf e.1=true
 l:mP e.2.1=true
 a:kI e.2.2=true
structure Wf(d:aj):Prop where
 sv:cc d.1
 se:dt d.2
 nv:d.1.length≤24
 ne:d.2.length≤40
 gv:∀v∈d.1,GV v
 ge:∀e∈d.2,GE e
 pd:(ax d.1).Perm (ends d.2)
theorem Wf.rw{d:aj}(h:Wf d):Rw d.1:=⟨h.sv,h.pd.nodup_iff.2 (qe h.se)⟩
theorem Wf.zero:Wf zS.1:=⟨List.Pairwise.nil,List.Pairwise.nil,by simp[zS],by simp[zS],by simp[zS],by simp[zS],aeX _⟩
theorem GV.re{l:List ah}(h:∀v∈l,GV v)(x:ID){r:List ae}(hr:cx r=r):∀v∈l.map (sH x r),GV v:=fun v hv=>by
 obtain⟨w,hw,rfl⟩:=adD.1 hv;have g:=h w hw;unfold sH
 split
 ·exact⟨g.i,g.l,g.a,hr⟩
 ·exact g
theorem j7{d:aj}(h:∀v∈d.1,GV v)(x:ae):∀v∈(aJ d x).1,GV v:=GV.re h _ (OV _ _)
theorem uF{d:aj}(h:∀v∈d.1,GV v)(x y:ae):∀v∈(aK d x y).1,GV v:=GV.re h _ (Lg _ _ _)
theorem zo{d:aj}(h:∀v∈d.1,GV v)(c:ni)(y:ae):∀v∈(bV d c y).1,GV v:=GV.re h _ (OU _ _ _)
theorem fH(d:aj)(x:ID)(r:List ae):(cp d x r).1.length=d.1.length:=by unfold cp;simp
theorem EU:cf zI=false:=by decide
theorem we{l:List ai}(h:∀e∈l,GE e):dd l zI=l:=by unfold dd;rw[List.filter_eq_self];intro e he;have:=(h e he).i;simp;intro k;rw[k,EU]at this;cases this
theorem wg{l:List ah}(h:∀e∈l,GV e):dG l zI=l:=by unfold dG;rw[List.filter_eq_self];intro e he;have:=(h e he).i;simp;intro k;rw[k,EU]at this;cases this
theorem lF:mP e0=true:=by decide
theorem lG:kI 0=true:=by decide
theorem CQ{l:List ai}{x:ID}(h:aX l x=none)(s:Int):(x,s)∉ends l:=fun k=>by obtain⟨e,he,h1,_⟩:=cH.1 k;unfold aX at h;rw[List.find?_eq_none]at h;exact h e he (by simpa using h1)
theorem CR{l:List ai}{x:ID}(h:(aX l x).isSome=true){s:Int}(hs:s=0∨s=1):(x,s)∈ends l:=by obtain⟨e,he⟩:=adf.1 h;exact cH.2 ⟨e,EN he,rI he,hs⟩
theorem Li{o:aR}(h:bB o=0):cf (aH o)=true:=by
 unfold bB at h
 split at h;· cases h
 split at h;· cases h
 split at h;· cases h
 rename_i h3;simpa using h3
theorem mD{o:aR}(h:bB o=0):1≤o.1∧o.1≤8:=by
 unfold bB at h
 split at h;· cases h
 split at h;· cases h
 omega
theorem xU{o:aR}(h:bB o=0)(hk:o.1=5):cf (dR o)=true∧cf (an o)=true∧0≤oN o∧oN o≤3:=by
 unfold bB at h
 split at h;· cases h
 split at h;· cases h
 split at h;· cases h
 split at h;· cases h
 rw[if_neg (show ¬o.1=3 by omega)]at h
 split at h
 ·assumption
 ·cases h
theorem Lj{o:aR}(h:bB o=0)(hk:o.1=6):cf (an o)=true:=by
 unfold bB at h
 split at h;· cases h
 split at h;· cases h
 split at h;· cases h
 split at h;· cases h
 rw[if_neg (show ¬o.1=3 by omega),if_neg (show ¬o.1=5 by omega)]at h
 split at h
 ·assumption
 ·cases h
theorem I8{o:aR}(h:bB o=0)(hk:o.1=8):kI (oN o)=true:=by
 unfold bB at h
 split at h;· cases h
 split at h;· cases h
 split at h;· cases h
 split at h;· cases h
 rw[if_neg (show ¬o.1=3 by omega),if_neg (show ¬o.1=5 by omega),if_neg (show ¬o.1=6 by omega)]at h
 split at h
 ·assumption
 ·cases h
theorem EV{o:aR}(h:bB o=0)(hk:o.1=7):mP (k9 o)=true:=by
 unfold bB at h
 split at h;· cases h
 split at h;· cases h
 split at h;· cases h
 split at h;· cases h
 rw[if_neg (show ¬o.1=3 by omega),if_neg (show ¬o.1=5 by omega),if_neg (show ¬o.1=6 by omega),if_neg (show ¬o.1=8 by omega)]at h
 split at h
 ·assumption
 ·cases h
def iY(l:List aB):Prop:=l.Pairwise fun a b=>kG a.1 b.1=true
theorem qg{a b:ae}:mu a b≤0↔a=b∨kG a b=true:=by
 unfold mu;by_cases h:a=b
 ·subst h;simp
 ·rw[if_neg h];cases kG a b<;>simp[h]
theorem CS{q g:aB}:∀{l:List aB},q∈lq g l→q=g∨(q∈l∧q.1≠g.1)
 |[],h=>by simp[lq]at h;exact .inl h
 |e::r,h=>by
  unfold lq at h
  split at h
  ·rcases aa1.1 h with h|h
   ·exact .inl h
   ·unfold nQ at h;rw[List.mem_filter]at h;exact .inr ⟨h.1,by simpa using h.2⟩
  ·split at h
   ·rename_i bw;rcases aa1.1 h with rfl|h
    ·exact .inr ⟨acr ..,bw⟩
    ·rcases CS h with h|⟨h,h2⟩
     ·exact .inl h
     ·exact .inr ⟨aaY _ h,h2⟩
   ·rcases CS h with h|⟨h,h2⟩
    ·exact .inl h
    ·exact .inr ⟨aaY _ h,h2⟩
theorem iY.add(g:aB):∀{l:List aB},iY l→iY (lq g l)
 |[],_=>List.pairwise_singleton _ _
 |e::r,h=>by
  have hr:∀{q:aB},q∈r→kG e.1 q.1=true:=fun {q} hq=>adF h hq;unfold lq
  split
  ·rename_i ho;refine List.Pairwise.cons (fun q hq=>?_) (h.filter _);unfold nQ at hq;rw[List.mem_filter]at hq;have bw:q.1≠g.1:=by simpa using hq.2
   have hle:e.1=q.1∨kG e.1 q.1=true:=by
    rcases aa1.1 hq.1 with rfl|hq
    ·exact .inl rfl
    ·exact .inr (hr hq)
   rcases qg.1 ho with ho|ho
   ·rcases hle with k|k
    ·exact absurd (ho.trans k).symm bw
    ·rw[ho];exact k
   ·rcases hle with k|k
    ·rw[←k];exact ho
    ·exact fT ho k
  ·rename_i ho;have J5:kG e.1 g.1=true:=by have h1:¬(g.1=e.1∨kG g.1 e.1=true):=fun k=>ho (qg.2 k);exact xR (by simpa using fun k=>h1 (.inr k)) (fun k=>h1 (.inl k))
   have hs:=iY.add g (aeY h)
   split
   ·refine List.Pairwise.cons (fun q hq=>?_) hs;rcases CS hq with rfl|⟨hq,_⟩
    ·exact J5
    ·exact hr hq
   ·exact hs
theorem qh(e:aB)(r:List aB)(x:ae):gD (e::r) x=if e.1=x then some e.2 else gD r x:=by
 unfold gD;rw[List.find?_cons];by_cases h:e.1=x
 ·simp[h]
 ·simp[h]
theorem sQ{g:aB}:∀{l:List aB},(∀q∈l,q.1≠g.1)→nQ g l=l:=fun {l} h=>by unfold nQ;rw[List.filter_eq_self];intro q hq;simpa using h q hq
theorem I9(g:aB):∀{l:List aB},iY l→(lq g l).length=if(gD l g.1).isSome=true then l.length else l.length+1
 |[],_=>rfl
 |e::r,h=>by
  have hr:∀{q:aB},q∈r→kG e.1 q.1=true:=fun {q} hq=>adF h hq;have ih:=I9 g (aeY h);unfold lq
  split
  ·rename_i ho;rcases qg.1 ho with ho|ho
   ·have h1:nQ g (e::r)=r:=by
     have:nQ g (e::r)=nQ g r:=by unfold nQ;rw[List.filter_cons_of_neg (by simp[ho])]
     rw[this];exact sQ (fun q hq k=>by have:=hr hq;rw[k,ho,dS]at this;cases this)
    rw[h1,qh,if_pos ho.symm];simp
   ·have h2:∀q∈e::r,q.1≠g.1:=fun q hq k=>by
     have:kG g.1 q.1=true:=by
      rcases aa1.1 hq with rfl|hq
      ·exact ho
      ·exact fT ho (hr hq)
     rw[k,dS]at this;cases this
    have h3:gD (e::r) g.1=none:=by
     unfold gD;have:(List.find? (fun q=>decide (q.1=g.1)) (e::r))=none:=by rw[List.find?_eq_none];intro q hq;simpa using h2 q hq
     rw[this];rfl
    rw[sQ h2,h3];simp
  ·rename_i ho;have bw:e.1≠g.1:=fun k=>ho (qg.2 (.inl k.symm));rw[if_pos bw,qh,if_neg bw];simp only[List.length_cons,ih]
   split<;>rfl
theorem j8{l:List aB}(h:iY l)(hn:l.length≤400)(g:aB):iY (bQ l g)∧(bQ l g).length≤400:=by
 unfold bQ
 split
 ·exact⟨h,hn⟩
 ·rename_i hc;refine⟨iY.add g h,?_⟩;rw[I9 g h]
  split
  ·exact hn
  ·rename_i h1;by_cases h2:400≤l.length
   ·exact absurd ⟨by simpa using h1,h2⟩ hc
   ·omega
theorem xV{α:Type}{o:Option α}(h:¬o.isSome=false):o.isSome=true:=by cases o<;>simp_all
structure eP(s:StateT):Prop where
 d:Wf s.1
 g:iY s.2
 n:s.2.length≤400
theorem eP.zero:eP zS:=⟨Wf.zero,List.Pairwise.nil,by simp[zS]⟩
theorem eP.add{l:List aB}(h:iY l)(hn:l.length≤400){d:aj}(hd:Wf d)(g:aB):eP (d,bQ l g):=⟨hd,(j8 h hn g).1,(j8 h hn g).2⟩
theorem OY{f:ah→ah}(hf:∀v,(f v).2.1=v.2.1)(l:List ah):ax (l.map f)=ax l:=by unfold ax;rw[List.flatMap_map];congr 1;funext v;exact hf v
theorem S5{f:ai→ai}(hf:∀v,(f v).1=v.1)(l:List ai):ends (l.map f)=ends l:=by unfold ends;rw[List.flatMap_map];congr 1;funext v;rw[hf]
theorem MS(o:aR)(w:ai):(jZ o w).1=w.1:=by unfold jZ;split<;>(try split)<;>rfl
theorem OZ(o:aR)(w:ah):(jh o w).2.1=w.2.1:=by unfold jh;split<;>(try split)<;>rfl
theorem Wf.Ax{d:aj}(h:Wf d){x:ID}(hx:aX d.2 x=none)(s:Int):(x,s)∉ax d.1:=fun k=>CQ hx s (h.pd.mem_iff.1 k)
theorem Wf.jB{d:aj}(h:Wf d){x:ID}(hx:(aX d.2 x).isSome=true){s:Int}(hs:s=0∨s=1):(x,s)∈ax d.1:=h.pd.mem_iff.2 (CR hx hs)
theorem Wf.xI{s:StateT}(h:Wf s.1){o:aR}(hm:bB o=0)(hk:7≤o.1):Wf (xI s o).1.1:=by
 have hk8:=(mD hm).2;unfold Vs.xI
 split
 ·refine⟨h.sv.map (MQ o),h.se.map (MS o),by simp;exact h.nv,by simp;exact h.ne,fun v hv=>?_,fun e he=>?_,?_⟩
  ·obtain⟨w,hw,rfl⟩:=adD.1 hv;have g:=h.gv w hw;unfold jh
   split
   ·split
    ·rename_i h7;exact⟨g.i,EV hm h7,g.a,g.t⟩
    ·exact⟨g.i,g.l,I8 hm (by omega),g.t⟩
   ·exact g
  ·obtain⟨w,hw,rfl⟩:=adD.1 he;have g:=h.ge w hw;unfold jZ
   split
   ·split
    ·rename_i h7;exact⟨g.i,EV hm h7,g.a⟩
    ·exact⟨g.i,g.l,I8 hm (by omega)⟩
   ·exact g
  ·show(ax (s.1.1.map (jh o))).Perm (ends (s.1.2.map (jZ o)));rw[OY (OZ o),S5 (MS o)];exact h.pd
 ·exact Wf.zero
theorem qi{s:StateT}{c:ni}(h:(bq s c).2.1=0):(aQ s.1 c.1).isSome=true∧(bq s c).1.1=c.1:=by
 unfold bq at h ⊢
 cases hv:aQ s.1 c.1 with
 |none=>rw[hv]at h;cases h
 |some v=>exact⟨rfl,rfl⟩
theorem wh{l:List ah}{x y:ID}(r:List ae)(h:(bg l x).isSome=true):(bg (l.map (sH y r)) x).isSome=true:=by rw[oR (rH y r)];simpa using h
theorem Wf.link{d:aj}(h:Wf d){x:ID}(hx:cf x=true)(hn:aX d.2 x=none)(he:¬40≤d.2.length){a b:ni}(ha:(bg d.1 a.1).isSome=true)(hb:(bg d.1 b.1).isSome=true) :
  Wf (bV (bV (d.1,dC (x,(e0,0)) d.2) a (x,0)) b (x,1)):=by
 have hrw:Rw ((d.1,dC (x,(e0,0)) d.2):aj).1:=h.rw;obtain⟨va,hva⟩:=adf.1 ha;have h0:=h.Ax hn 0;have h1:=h.Ax hn 1;obtain⟨p1,q1⟩:=tH (c:=a) (x:=(x,0)) hrw hva h0;obtain⟨vb,hvb⟩:=adf.1 (wh (x:=b.1) (y:=a.1) (mw (aW (d.1,dC (x,(e0,0)) d.2) a.1) a.2 (x,0)) hb);have Uh:(x,1)∉ax (bV (d.1,dC (x,(e0,0)) d.2) a (x,0)).1:=fun k=>by
  rcases aa1.1 (p1.mem_iff.1 k) with k|k
  ·cases k
  ·exact h1 k
 obtain⟨p2,q2⟩:=tH (c:=b) (x:=(x,1)) q1 hvb Uh;refine⟨q2.s,xQ (x,(e0,0)) h.se hn,?_,?_,zo (zo h.gv _ _) _ _,fun e hem=>?_,?_⟩
 ·unfold bV;rw[fH,fH];exact h.nv
 ·show(dC (x,(e0,0)) d.2).length≤40;rw[kK];omega
 ·rcases oO.1 (show e∈dC (x,(e0,0)) d.2 from hem) with rfl|hem
  ·exact⟨hx,lF,lG⟩
  ·exact h.ge e hem
 ·show(ax _).Perm (ends (dC (x,(e0,0)) d.2));refine(p2.trans (List.Perm.cons _ p1)).trans (List.Perm.trans ?_ (ET (x,(e0,0)) d.2).symm);exact(List.Perm.swap _ _ _).trans (List.Perm.cons _ (List.Perm.cons _ h.pd))
theorem Wf.cut{d:aj}(h:Wf d){x:ID}(hx:(aX d.2 x).isSome=true):Wf (bj (aJ (aJ d (x,0)) (x,1)) zI x):=by
 have h0:=h.jB hx (s:=0) (.inl rfl);have h1:=h.jB hx (s:=1) (.inr rfl);obtain⟨p1,q1⟩:=fG h.rw h0;have Uh:(x,1)∈ax (aJ d (x,0)).1:=by
  rcases aa1.1 (p1.mem_iff.1 h1) with k|k
  ·cases k
  ·exact k
 obtain⟨p2,q2⟩:=fG q1 Uh;have PR:=j7 (j7 h.gv (x,0)) (x,1);have VJ:(bj (aJ (aJ d (x,0)) (x,1)) zI x).1=(aJ (aJ d (x,0)) (x,1)).1:=wg PR;refine⟨by rw[VJ];exact q2.s,uC h.se,?_,?_,by rw[VJ];exact PR,fun e he=>h.ge e ?_,?_⟩
 ·rw[VJ];unfold aJ;rw[fH,fH];exact h.nv
 ·exact adC (adL _ _) h.ne
 ·exact(aeL.1 (show e∈d.2.filter fun w=>decide (w.1≠x) from he)).1
 ·rw[VJ];show(ax (aJ (aJ d (x,0)) (x,1)).1).Perm (ends (dd d.2 x));have p3:((x,0)::(x,1)::ax (aJ (aJ d (x,0)) (x,1)).1).Perm ((x,0)::(x,1)::ends (dd d.2 x)) :=((p1.trans (List.Perm.cons _ p2)).symm.trans h.pd).trans (CN h.se hx);exact p3.cons_inv.cons_inv
theorem iZ{x:ae}(h:x.2=0∨x.2=1):(au x).1=x.1∧((x.2=0∧(au x).2=1)∨(x.2=1∧(au x).2=0)):=by
 refine⟨rfl,?_⟩;unfold au;rcases h with h|h
 ·exact .inl ⟨h,by rw[h];rfl⟩
 ·exact .inr ⟨h,by rw[h];rfl⟩
theorem Ja{x:ae}(h:x.2=0∨x.2=1)(l:List ae):(x::au x::l).Perm ((x.1,0)::(x.1,1)::l):=by
 obtain⟨h1,h2⟩:=iZ h;have e:x=(x.1,x.2):=rfl;have e2:au x=(x.1,(au x).2):=rfl;rcases h2 with⟨ha,hb⟩|⟨ha,hb⟩
 ·rw[ha]at e;rw[hb]at e2;rw[e2,e]
 ·rw[ha]at e;rw[hb]at e2;rw[e2,e];exact List.Perm.swap _ _ _
theorem Jb{n:Int}(h0:0≤n)(h3:n≤3):(IntKind.wrap .i64 (1-Int.tmod n 2)=0∨IntKind.wrap .i64 (1-Int.tmod n 2)=1)∧(IntKind.wrap .i64 (Int.tdiv n 2)=0∨IntKind.wrap .i64 (Int.tdiv n 2)=1):=by
 have:n=0∨n=1∨n=2∨n=3:=by omega
 rcases this with rfl|rfl|rfl|rfl<;>exact⟨by decide,by decide⟩
theorem Wf.split{d:aj}(h:Wf d){m k:ae}{v:ID}(hv:cf v=true)(hk:cf k.1=true)(Uo:m.2=0∨m.2=1)(o5:k.2=0∨k.2=1)(hm:(aX d.2 m.1).isSome=true)(UG:bg d.1 v=none)(hnk:aX d.2 k.1=none) (PO:¬24≤d.1.length) (hle:¬40≤d.2.length):Wf (eO (v,(cx [m,k],(e0,0))) (aK d m (au k)).1,dC (k.1,(e0,0)) (aK d m (au k)).2):=by
 have hmd:m∈ax d.1:=h.jB hm Uo;have J4:au k∉ax d.1:=h.Ax hnk _;obtain⟨p1,q1⟩:=qf h.rw hmd J4;have VL:bg (aK d m (au k)).1 v=none:=by unfold aK Vs.cp;rw[oR (rH _ _),UG];rfl
 refine⟨oQ (v,(cx [m,k],(e0,0))) q1.s VL,xQ (k.1,(e0,0)) h.se hnk,?_,?_,fun w hw=>?_,fun e he=>?_,?_⟩
 ·show(eO _ (aK d m (au k)).1).length≤24;rw[gE];unfold aK;rw[fH];omega
 ·show(dC _ d.2).length≤40;rw[kK];omega
 ·rcases mz.1 hw with rfl|hw
  ·exact⟨hv,lF,lG,sO _⟩
  ·exact uF h.gv _ _ w hw
 ·rcases oO.1 (show e∈dC (k.1,(e0,0)) d.2 from he) with rfl|he
  ·exact⟨hk,lF,lG⟩
  ·exact h.ge e he
 ·show(ax (eO _ _)).Perm (ends (dC (k.1,(e0,0)) d.2));refine(CM _ _).trans (List.Perm.trans ?_ (ET (k.1,(e0,0)) d.2).symm);refine(aej _ (j4 [m,k])).trans ?_;show(m::k::ax (aK d m (au k)).1).Perm _;refine(List.Perm.swap k m _).trans ((List.Perm.cons k p1.symm).trans ?_);refine(Ja o5 _).trans ?_;exact List.Perm.cons _ (List.Perm.cons _ h.pd)
theorem Wf.S6{d:aj}(h:Wf d){v:ah}(hv:v∈d.1)(hr:v.2.1=[]):Wf (bj d v.1 zI):=by
 obtain⟨a,b,h1,_,h2,_⟩:=rJ h.sv hv;refine⟨qc h.sv,?_,adC (adL _ _) h.nv,adC (adL _ _) h.ne,fun w hw=>h.gv w ?_,fun e he=>h.ge e ?_,?_⟩
 ·exact uC h.se
 ·exact(aeL.1 (show w∈d.1.filter fun w=>decide (w.1≠v.1) from hw)).1
 ·exact(aeL.1 (show e∈d.2.filter fun w=>decide (w.1≠zI) from he)).1
 ·show(ax (dG d.1 v.1)).Perm (ends (dd d.2 zI));rw[h2,we h.ge];have p:=iW a b v;rw[←h1,hr,List.nil_append]at p;exact p.symm.trans h.pd
theorem Wf.YT{d:aj}(h:Wf d){v:ah}{a b:ae}(hv:v∈d.1)(hr:v.2.1.Perm [a,b])(mJ:a.1≠b.1):Wf (bj (aK (bj d v.1 zI) (au b) a) zI b.1):=by
 obtain⟨p,q,h1,_,h2,_⟩:=rJ h.sv hv;have pd:(ax d.1).Perm (a::b::ax (p++q)):=by have:=(iW p q v).trans (aej _ hr);rw[←h1]at this;exact this
 have O0:bj d v.1 zI=(p++q,d.2):=by unfold bj;rw[h2,we h.ge]
 have Ei:=pd.nodup_iff.1 h.rw.n;have hbm:b∈ends d.2:=h.pd.mem_iff.1 (pd.mem_iff.2 (by simp));obtain⟨e,he,WN,zZ⟩:=cH.1 hbm;have Ad:(aX d.2 b.1).isSome=true:=by unfold aX;rw[List.find?_isSome];exact⟨e,he,by simpa using WN⟩
 obtain⟨_,ho⟩:=iZ zZ;have YU:au b∈ax (p++q):=by
  have h3:au b∈ax d.1:=h.jB (s:=(au b).2) Ad (by rcases ho with⟨_,k⟩|⟨_,k⟩<;>omega);rcases aa1.1 (pd.mem_iff.1 h3) with k|k
  ·exact absurd (congrArg Prod.fst k) (fun k=>mJ k.symm)
  rcases aa1.1 k with k|k
  ·have:=congrArg Prod.snd k;omega
  ·exact k
 have VM:Rw (p++q):=by refine⟨?_,(ac9.1 (ac9.1 Ei).2).2⟩;rw[←h2];exact qc h.sv
 have ha:a∉ax (p++q):=fun k=>(ac9.1 Ei).1 (aaY _ k);rw[O0];obtain⟨p1,q1⟩:=qf (d:=(p++q,d.2)) VM YU ha;have PR:∀w∈(aK (p++q,d.2) (au b) a).1,GV w:=by
  refine uF (d:=(p++q,d.2)) (fun w hw=>h.gv w ?_) _ _;rw[h1];rcases acw.1 hw with k|k
  ·exact aa2 _ k
  ·exact aco _ (aaY _ k)
 have VJ:(bj (aK (p++q,d.2) (au b) a) zI b.1).1=(aK (p++q,d.2) (au b) a).1:=wg PR;refine⟨by rw[VJ];exact q1.s,uC h.se,?_,adC (adL _ _) h.ne,by rw[VJ];exact PR,fun f hf=>h.ge f ?_,?_⟩
 ·rw[VJ];unfold aK;rw[fH];have:=h.nv;rw[h1]at this;simp at this ⊢;omega
 ·exact(aeL.1 (show f∈d.2.filter fun w=>decide (w.1≠b.1) from hf)).1
 ·rw[VJ];show(ax (aK (p++q,d.2) (au b) a).1).Perm (ends (dd d.2 b.1));have p3:(b::au b::ax (aK (p++q,d.2) (au b) a).1).Perm (b::au b::ends (dd d.2 b.1)):=by refine List.Perm.trans (List.Perm.cons b p1.symm) ?_;refine(List.Perm.swap a b _).trans (pd.symm.trans (h.pd.trans ?_));exact(CN h.se Ad).trans (Ja zZ _).symm
  exact p3.cons_inv.cons_inv
theorem eP.one{s:StateT}(h:eP s)(o:aR):eP (c8 s o).1:=by
 unfold c8
 split
 ·exact eP.zero
 rename_i hm;have hm:bB o=0:=Classical.byContradiction fun k=>hm k;have bR:=Li hm
 split
 ·unfold qw
  split;· exact eP.zero
  split;· exact eP.zero
  rename_i h1 h2;have hn:bg s.1.1 (aH o)=none:=by simpa[aQ] using h1
  refine⟨⟨oQ _ h.d.sv hn,h.d.se,by show(eO _ s.1.1).length≤24;rw[gE];omega,h.d.ne,fun w hw=>?_,h.d.ge,?_⟩,h.g,h.n⟩
  ·rcases mz.1 hw with rfl|hw
   ·exact⟨bR,lF,lG,rfl⟩
   ·exact h.d.gv w hw
  ·exact(CM _ _).trans h.d.pd
 split
 ·unfold zm
  cases hv:aQ s.1 (aH o) with
  |none=>exact eP.zero
  |some v =>
   simp only
   split
   ·exact eP.zero
   ·rename_i hr;have:=h.d.S6 (gQ hv) (by simpa using hr);rw[kM hv]at this;exact⟨this,h.g,h.n⟩
 split
 ·unfold oP
  split;· exact eP.zero
  split;· exact eP.zero
  split;· exact eP.zero
  split;· exact eP.zero
  split;· exact eP.zero
  rename_i h1 h2 h3 h4 h5;have hn:aX s.1.2 (aH o)=none:=by simpa[bZ] using h1
  obtain⟨ca,ca2⟩:=qi (s:=s) (c:=oA o) (Classical.byContradiction fun k=>h3 k);obtain⟨cb,cb2⟩:=qi (s:=s) (c:=oB o) (Classical.byContradiction fun k=>h4 k);refine⟨?_,h.g,h.n⟩;unfold gF;refine h.d.link bR hn h2 (by rw[ca2];exact ca) ?_
  split
  ·exact cb
  ·rw[cb2];exact cb
 split
 ·unfold DX
  split;· exact eP.zero
  rename_i h1;have h2:=j8 h.g h.n ((aH o,0),du s.1 (aH o,0));exact eP.add h2.1 h2.2 (h.d.cut (xV h1)) _
 split
 ·rename_i hk;unfold mA
  split;· exact eP.zero
  split;· exact eP.zero
  split;· exact eP.zero
  split;· exact eP.zero
  split;· exact eP.zero
  rename_i h1 h2 h3 h4 h5;obtain⟨m1,m2,m3,m4⟩:=xU hm hk;obtain⟨s1,s2⟩:=Jb m3 m4;refine⟨?_,h.g,h.n⟩;exact h.d.split (m:=J8 o) (k:=G6 o) m1 m2 s1 s2 (xV h1) (by simpa[aQ] using h2) (by simpa[bZ,G6] using h3) h4 h5
 split
 ·unfold ki
  split
  ·exact eP.zero
  ·rename_i v hv
   split
   ·rename_i r0 r1 hr;have S4:=gQ hv;have hvi:=kM hv;have key:∀a b:ae,v.2.1.Perm [a,b]→a.1≠b.1→eP (Lc s o a b,I3 s.2 a b):=fun a b hp mJ=>by have h2:=j8 h.g h.n ((b.1,0),qD a b 0);have:=h.d.YT S4 hp mJ;rw[hvi]at this;exact eP.add h2.1 h2.2 this _
    unfold jA
    split;· exact eP.zero
    rename_i bw
    split
    ·exact key r1 r0 (by rw[hr];exact List.Perm.swap _ _ _) (fun k=>bw k.symm)
    split
    ·exact key r0 r1 (by rw[hr]) bw
    ·exact eP.zero
   ·exact eP.zero
 ·rename_i k1 k2 k3 k4 k5 k6;have hk:=mD hm;have:=h.d.xI hm (by omega);refine⟨this,?_,?_⟩
  ·unfold xI;split
   ·exact h.g
   ·exact List.Pairwise.nil
  ·unfold xI;split
   ·exact h.n
   ·simp[zS]
theorem eP.go:∀(l:List aR) {s:StateT},eP s→eP (qb l s).1
 |[],s,h=>h
 |o::r,s,h=>by
  unfold qb
  split
  ·exact eP.zero
  ·exact eP.go r (h.one o)
theorem eP.apply{s:StateT}(h:eP s)(l:List aR):eP (c7 s l).1:=by
 unfold c7
 split
 ·exact eP.zero
 ·exact eP.go l h
theorem eP.try{s:StateT}(h:eP s)(l:List aR):eP (mQ s l):=by
 unfold mQ
 split
 ·exact h
 ·exact h.apply l
theorem eP.reach:∀(m:Nat) (l:List (List aR)) {s:StateT},eP s→eP (mB m l s)
 |0,_,s,h=>by simpa[mB] using h
 |m+1,[],s,h=>h
 |m+1,l::r,s,h=>by rw[mB];exact eP.reach m r (h.try _)
theorem eP.MP(l:List (List aR)):eP (CG l):=eP.reach 30 l eP.zero
end Go.Vs
