/- Diagrams that are well formed -/
import Derived.Test.YtpkfpbpbkabkdaaGreatRings
set_option linter.unusedVariables false
set_option linter.unusedSimpArgs false
namespace Go.Vs
open Go.Proofs
theorem fF(row:List ab):(bG row).Perm row:=by unfold bG kK;exact adF.trans (List.Perm.of_eq (List.take_append_drop _ _))
theorem SH{row:List ab}(h:0<row.length)(hl:∀j,(hj:j<row.length)→mC row[j] row[0]=false):fT row row 0 0=0:=by
 have hm:=lH row row 0 0 h (by omega);have h2:=(oz h).2 0;by_cases hz:fT row row 0 0=0
 ·exact hz
 ·have:=h2 (by omega) h;rw[mU hm,hl _ hm]at this;cases this
theorem WB(row:List ab):kK row 0=row:=by unfold kK;simp
theorem vf(row:List ab):bG (bG row)=bG row:=by
 by_cases h0:row.length=0
 ·have:row=[]:=by simpa using h0
  subst this;rfl
 have hp:0<row.length:=by omega
 have hm:=lH row row 0 0 hp (by omega);have hp2:0<(bG row).length:=by rw[iC];exact hp
 have h1:(bG row)[0]=row.getD (fT row row 0 0) zD:=by have:=mR (row:=row) (k:=fT row row 0 0) (i:=0) (by omega) hp;rw[Nat.add_zero,Nat.mod_eq_of_lt hm,List.getElem?_eq_getElem hm]at this;rw[mU hm];exact(abg.1 this).2
 have h2:fT (bG row) (bG row) 0 0=0:=by refine SH hp2 (fun j hj=>?_);rw[h1];have iz:(bG row)[j]∈row:=kz.1 (acB hj);obtain⟨i,hi,he⟩:=adJ iz;rw[←he];exact(oz hp).1 i hi
 unfold bG at h2 ⊢;rw[h2,WB]
theorem SI(row:List ab)(a d:ab):bG (gQ row a d)=gQ row a d:=by unfold gQ;split<;>exact vf _
theorem vg(row:List ab)(d:ab):bG (bw row d)=bw row d:=vf _
theorem Ov(row:List ab)(a d:ab):bG (dK row a d)=dK row a d:=vf _
theorem HN{row:List ab}{d:ab}(a:ab)(h:d∉row):(gQ row a d).Perm (d::row):=by unfold gQ;rw[if_neg h];refine(fF _).trans (adE.trans ?_);rw[List.take_append_drop]
theorem qO{row:List ab}{d:ab}(h:d∈row)(hn:row.Nodup):row.Perm (d::bw row d):=by
 obtain⟨k,_,h2,_⟩:=eX h;obtain⟨h3,h4⟩:=abg.1 h2;unfold bw;rw[AD hn h2];refine List.Perm.trans ?_ (List.Perm.cons d (fF _).symm)
 conv=>lhs;rw[←List.take_append_drop k row,List.drop_eq_getElem_cons h3,h4]
 exact adE
theorem Fc{row:List ab}{dv d:ab}(h:dv∈row)(hd:d∉row):(d::row).Perm (dv::dK row dv d):=by
 obtain⟨k,h1,h2,_⟩:=eX h;obtain⟨h3,h4⟩:=abg.1 h2;unfold dK;rw[if_pos ⟨h,hd⟩,h1,Int.toNat_natCast];refine List.Perm.trans ?_ (List.Perm.cons dv (fF _).symm);rw[List.set_eq_take_append_cons_drop,if_pos h3]
 conv=>lhs;rw[←List.take_append_drop k row,List.drop_eq_getElem_cons h3,h4]
 have p1:(row.take k++dv::row.drop (k+1)).Perm (dv::(row.take k++row.drop (k+1))):=adE;have p2:(row.take k++d::row.drop (k+1)).Perm (d::(row.take k++row.drop (k+1))):=adE;exact(List.Perm.cons d p1).trans ((List.Perm.swap dv d _).trans (List.Perm.cons dv p2.symm))
def an(l:List ai):List ab:=l.flatMap fun v=>v.2.1
def ends(l:List aj):List ab:=l.flatMap fun e=>[(e.1,0),(e.1,1)]
theorem lk(v:ai)(l:List ai):an (v::l)=v.2.1++an l:=List.flatMap_cons
theorem qP(a b:List ai):an (a++b)=an a++an b:=List.flatMap_append
theorem g6(a b:List ai)(v:ai):(an (a++v::b)).Perm (v.2.1++an (a++b)):=by rw[qP,lk,qP,←List.append_assoc,←List.append_assoc];exact ac9 _ adF
theorem aM{x:ab}{l:List ai}:x∈an l↔∃v∈l,x∈v.2.1:=List.mem_flatMap
theorem ll(e:aj)(l:List aj):ends (e::l)=(e.1,0)::(e.1,1)::ends l:=by unfold ends;rw[List.flatMap_cons];rfl
theorem dr{x:ab}{l:List aj}:x∈ends l↔∃e∈l,e.1=x.1∧(x.2=0∨x.2=1):=by
 unfold ends;rw[List.mem_flatMap];constructor
 ·rintro⟨e,he,hx⟩;rcases abn.1 hx with rfl|hx
  ·exact⟨e,he,rfl,.inl rfl⟩
  ·rw[List.mem_singleton]at hx;subst hx;exact⟨e,he,rfl,.inr rfl⟩
 ·rintro⟨e,he,h1,h2⟩;refine⟨e,he,?_⟩;obtain⟨x1,x2⟩:=x;simp only at h1 h2;subst h1;rcases h2 with rfl|rfl<;>simp
theorem Fe:∀{l:List aj},dA l→(ends l).Nodup
 |[],_=>List.nodup_nil
 |e::r,h=>by
  have bp:∀s:Int,(e.1,s)∉ends r:=fun s hs=>by obtain⟨f,hf,h1,_⟩:=dr.1 hs;have:=acr h hf;simp only at h1;rw[h1,cy]at this;cases this
  rw[ll];refine abx.2 ⟨?_,abx.2 ⟨bp 1,Fe h.of_cons⟩⟩;rw[List.mem_cons];rintro(h1|h1)
  ·cases h1
  ·exact bp 0 h1
theorem HO(e:aj):∀l:List aj,(bW e l).Perm (e::l)
 |[]=>adW _
 |w::r=>by
  unfold bW
  split
  ·exact adW _
  ·exact(List.Perm.cons w (HO e r)).trans (List.Perm.swap e w r)
theorem HP(e:ai):∀l:List ai,(cx e l).Perm (e::l)
 |[]=>adW _
 |w::r=>by
  unfold cx
  split
  ·exact adW _
  ·exact(List.Perm.cons w (HP e r)).trans (List.Perm.swap e w r)
theorem HQ(e:aj)(l:List aj):(ends (bW e l)).Perm ((e.1,0)::(e.1,1)::ends l):=by rw[←ll];exact List.Perm.flatMap_right _ (HO e l)
theorem xd(v:ai)(l:List ai):(an (cx v l)).Perm (v.2.1++an l):=by rw[←lk];exact List.Perm.flatMap_right _ (HP v l)
theorem Ff{l:List aj}{x:ID}(hs:dA l)(h:(aP l x).isSome=true):(ends l).Perm ((x,0)::(x,1)::ends (bH l x)):=by
 obtain⟨e,he⟩:=abM.1 h;obtain⟨h3,h4⟩:=abg.1 (mj hs he);rw[Ay hs h]
 conv=>lhs;rw[←List.take_append_drop (cH l x) l,List.drop_eq_getElem_cons h3,h4]
 rw[←kG he,←ll];exact List.Perm.flatMap_right _ adE
theorem dM{l:List ai}{v:ai}(hs:cq l)(h:v∈l):aO l v.1=some v:=by
 have hf:(aO l v.1).isSome=true:=by unfold aO;rw[List.find?_isSome];exact⟨v,h,by simp⟩
 obtain⟨u,hu⟩:=abM.1 hf;have h1:=dL hs hu;obtain⟨k,hk,he⟩:=adJ h;have h2:l[k]? = some v:=by rw[List.getElem?_eq_getElem hk,he]
 rw[lj hs h2 rfl,h1]at h2;rw[hu];exact h2
theorem mE{l:List ai}{v:ai}(hs:cq l)(h:v∈l):∃a b,l=a++v::b∧(∀u∈a++b,u.1≠v.1)∧bF l v.1=a++b∧∀r,l.map (iX v.1 r)=a++(v.1,(r,v.2.2))::b:=by
 obtain⟨a,b,rfl⟩:=ady h;have hp:=List.pairwise_append.1 hs;have hb:=List.pairwise_cons.1 hp.2.1;have bp:∀u∈a++b,u.1≠v.1:=fun u hu e=>by
  rcases abH.1 hu with hu|hu
  ·have:=hp.2.2 u hu v (by simp);rw[e,cy]at this;cases this
  ·have:=hb.1 u hu;rw[e,cy]at this;cases this
 have hm:∀(r:List ab) (c:List ai),(∀u∈c,u.1≠v.1)→c.map (iX v.1 r)=c:=fun r c hc=>by
  conv=>rhs;rw[←List.map_id c]
  exact acM fun u hu=>by unfold iX;rw[if_neg (hc u hu)];rfl
 have hd:∀c:List ai,(∀u∈c,u.1≠v.1)→bF c v.1=c:=fun c hc=>by unfold bF;rw[List.filter_eq_self];intro u hu;simpa using hc u hu
 refine⟨a,b,rfl,bp,?_,fun r=>?_⟩
 ·unfold bF;rw[List.filter_append,List.filter_cons_of_neg (by simp)];have h1:=hd a (fun u hu=>bp u (abt _ hu));have h2:=hd b (fun u hu=>bp u (abo _ hu));unfold bF at h1 h2;rw[h1,h2]
 ·rw[List.map_append,List.map_cons,hm r a (fun u hu=>bp u (List.mem_append_left _ hu)),hm r b (fun u hu=>bp u (List.mem_append_right _ hu))];unfold iX;rw[if_pos rfl]
structure Rw(l:List ai):Prop where
 s:cq l
 n:(an l).Nodup
theorem Rw.ring{l:List ai}(h:Rw l){v:ai}(hv:v∈l):v.2.1.Nodup:=by obtain⟨a,b,rfl,_⟩:=mE h.s hv;exact(acV.1 ((g6 a b v).nodup_iff.1 h.n)).1
theorem Rw.one{l:List ai}(h:Rw l){v w:ai}{x:ab}(hv:v∈l)(hw:w∈l)(hx:x∈v.2.1)(hy:x∈w.2.1):w=v:=by
 obtain⟨a,b,rfl,_⟩:=mE h.s hv;have hn:=acV.1 ((g6 a b v).nodup_iff.1 h.n);have:w∈a++v::b:=hw;rw[List.mem_append,List.mem_cons]at this;rcases this with k|k|k
 ·exact absurd rfl (hn.2.2 x hx x (aM.2 ⟨w,abt _ k,hy⟩))
 ·exact k
 ·exact absurd rfl (hn.2.2 x hx x (aM.2 ⟨w,abo _ k,hy⟩))
theorem du{l:List ai}(h:Rw l){v:ai}{x:ab}(hv:v∈l)(hx:x∈v.2.1):E2 l x=some v.1:=by
 have hf:(l.find? fun u=>decide (x∈u.2.1)).isSome=true:=by rw[List.find?_isSome];exact⟨v,hv,by simpa using hx⟩
 obtain⟨u,hu⟩:=abM.1 hf;have h1:=ab5 hu;have h2:x∈u.2.1:=by simpa using adH hu
 unfold E2;rw[hu,h.one hv h1 hx h2];rfl
theorem Ma{l:List ai}{x:ab}(h:x∉an l):E2 l x=none:=by
 unfold E2;have:(l.find? fun u=>decide (x∈u.2.1))=none:=by rw[List.find?_eq_none];intro u hu hx;exact h (aM.2 ⟨u,hu,by simpa using hx⟩)
 rw[this];rfl
theorem gm{d:ak}(h:cq d.1){v:ai}(hv:v∈d.1):aW d v.1=v.2.1:=by unfold aW aG;rw[dM h hv];rfl
theorem db{d:ak}(h:Rw d.1){v:ai}{x:ab}(hv:v∈d.1)(hx:x∈v.2.1):au d x=cj d v.1 (bw v.2.1 x):=by unfold au bM;rw[du h hv hx];show cj d v.1 (bw (aW d v.1) x)=_;rw[gm h.s hv]
theorem ln{d:ak}(h:Rw d.1){v:ai}{x:ab}(y:ab)(hv:v∈d.1)(hx:x∈v.2.1):az d x y=cj d v.1 (dK v.2.1 x y):=by unfold az bM;rw[du h hv hx];show cj d v.1 (dK (aW d v.1) x y)=_;rw[gm h.s hv]
theorem cq.re{l:List ai}(h:cq l)(x:ID)(r:List ab):cq (l.map (iX x r)):=h.map (qa x r)
theorem Fg{l:List ai}{v:ai}(hs:cq l)(hv:v∈l):∃rest,(an l).Perm (v.2.1++rest)∧∀r,(an (l.map (iX v.1 r))).Perm (r++rest):=by
 obtain⟨a,b,h1,_,_,h2⟩:=mE hs hv;refine⟨an (a++b),?_,fun r=>?_⟩
 ·conv=>lhs;rw[h1]
  exact g6 a b v
 ·rw[h2 r];exact g6 a b (v.1,(r,v.2.2))
theorem c9{d:ak}(h:Rw d.1){x:ab}(hx:x∈an d.1):(an d.1).Perm (x::an (au d x).1)∧Rw (au d x).1:=by obtain⟨v,hv,kb⟩:=aM.1 hx;obtain⟨rest,h1,h2⟩:=Fg h.s hv;rw[db h hv kb];have p:(an d.1).Perm (x::an (cj d v.1 (bw v.2.1 x)).1) :=h1.trans ((ac9 rest (qO kb (h.ring hv))).trans (List.Perm.cons x (h2 _).symm));exact⟨p,h.s.re _ _,(abx.1 (p.nodup_iff.1 h.n)).2⟩
theorem iQ{d:ak}(h:Rw d.1){x y:ab}(hx:x∈an d.1)(hy:y∉an d.1):(y::an d.1).Perm (x::an (az d x y).1)∧Rw (az d x y).1:=by obtain⟨v,hv,kb⟩:=aM.1 hx;obtain⟨rest,h1,h2⟩:=Fg h.s hv;rw[ln h y hv kb];have Yl:y∉v.2.1:=fun k=>hy (aM.2 ⟨v,hv,k⟩);have p:(y::an d.1).Perm (x::an (cj d v.1 (dK v.2.1 x y)).1) :=(List.Perm.cons y h1).trans ((ac9 rest (Fc kb Yl)).trans (List.Perm.cons x (h2 _).symm));refine⟨p,h.s.re _ _,?_⟩;exact(abx.1 (p.nodup_iff.1 (abx.2 ⟨hy,h.n⟩))).2
theorem lJ{d:ak}(h:Rw d.1){c:lW}{x:ab}{v:ai}(hv:aO d.1 c.1=some v)(hx:x∉an d.1):(an (br d c x).1).Perm (x::an d.1)∧Rw (br d c x).1:=by
 have Ce:=dw hv;have Mb:=gk hv;obtain⟨rest,h1,h2⟩:=Fg h.s Ce;have kb:x∉v.2.1:=fun k=>hx (aM.2 ⟨v,Ce,k⟩);have e:br d c x=cj d v.1 (gQ v.2.1 c.2 x):=by unfold br;rw[←Mb,gm h.s Ce]
 rw[e];have p:(an (cj d v.1 (gQ v.2.1 c.2 x)).1).Perm (x::an d.1) :=(h2 _).trans ((ac9 rest (HN c.2 kb)).trans (List.Perm.cons x h1.symm));exact⟨p,h.s.re _ _,p.nodup_iff.2 (abx.2 ⟨hx,h.n⟩)⟩
structure GV(v:ai):Prop where
 i:cY v.1=true
 l:p4 v.2.2.1=true
 a:mD v.2.2.2=true
 t:bG v.2.1=v.2.1
structure GE(e:aj):Prop where
 i:cY e.1=true
 l:p4 e.2.1=true
 a:mD e.2.2=true
structure Wf(d:ak):Prop where
 sv:cq d.1
 se:dA d.2
 nv:d.1.length≤24
 ne:d.2.length≤40
 gv:∀v∈d.1,GV v
 ge:∀e∈d.2,GE e
 pd:(an d.1).Perm (ends d.2)
theorem Wf.rw{d:ak}(h:Wf d):Rw d.1:=⟨h.sv,h.pd.nodup_iff.2 (Fe h.se)⟩
theorem Wf.zero:Wf zS.1:=⟨List.Pairwise.nil,List.Pairwise.nil,by simp[zS],by simp[zS],by simp[zS],by simp[zS],adW _⟩
theorem GV.re{l:List ai}(h:∀v∈l,GV v)(x:ID){r:List ab}(hr:bG r=r):∀v∈l.map (iX x r),GV v:=fun v hv=>by
 obtain⟨w,hw,rfl⟩:=abY.1 hv;have g:=h w hw;unfold iX
 split
 ·exact⟨g.i,g.l,g.a,hr⟩
 ·exact g
theorem iF{d:ak}(h:∀v∈d.1,GV v)(x:ab):∀v∈(au d x).1,GV v:=GV.re h _ (vg _ _)
theorem oC{d:ak}(h:∀v∈d.1,GV v)(x y:ab):∀v∈(az d x y).1,GV v:=GV.re h _ (Ov _ _ _)
theorem uc{d:ak}(h:∀v∈d.1,GV v)(c:lW)(y:ab):∀v∈(br d c y).1,GV v:=GV.re h _ (SI _ _ _)
theorem fO(d:ak)(x:ID)(r:List ab):(cj d x r).1.length=d.1.length:=by unfold cj;simp
theorem HR:cY zI=false:=by decide
theorem kH{l:List aj}(h:∀e∈l,GE e):bH l zI=l:=by unfold bH;rw[List.filter_eq_self];intro e he;have:=(h e he).i;simp;intro k;rw[k,HR]at this;cases this
theorem lK{l:List ai}(h:∀e∈l,GV e):bF l zI=l:=by unfold bF;rw[List.filter_eq_self];intro e he;have:=(h e he).i;simp;intro k;rw[k,HR]at this;cases this
theorem lp:p4 e0=true:=by decide
theorem lq:mD 0=true:=by decide
theorem Fh{l:List aj}{x:ID}(h:aP l x=none)(s:Int):(x,s)∉ends l:=fun k=>by obtain⟨e,he,h1,_⟩:=dr.1 k;unfold aP at h;rw[List.find?_eq_none]at h;exact h e he (by simpa using h1)
theorem Fi{l:List aj}{x:ID}(h:(aP l x).isSome=true){s:Int}(hs:s=0∨s=1):(x,s)∈ends l:=by obtain⟨e,he⟩:=abM.1 h;exact dr.2 ⟨e,nm he,kG he,hs⟩
theorem rY{o:aE}(h:bg o=0):cY (ar o)=true:=by
 unfold bg at h
 split at h;· cases h
 split at h;· cases h
 split at h;· cases h
 rename_i h3;simpa using h3
theorem jw{o:aE}(h:bg o=0):1≤o.1∧o.1≤8:=by
 unfold bg at h
 split at h;· cases h
 split at h;· cases h
 omega
theorem np{o:aE}(h:bg o=0)(hk:o.1=5):cY (cc o)=true∧cY (af o)=true∧0≤oN o∧oN o≤3:=by
 unfold bg at h
 split at h;· cases h
 split at h;· cases h
 split at h;· cases h
 split at h;· cases h
 rw[if_neg (show ¬o.1=3 by omega)]at h
 split at h
 ·assumption
 ·cases h
theorem Fj{o:aE}(h:bg o=0)(hk:o.1=6):cY (af o)=true:=by
 unfold bg at h
 split at h;· cases h
 split at h;· cases h
 split at h;· cases h
 split at h;· cases h
 rw[if_neg (show ¬o.1=3 by omega),if_neg (show ¬o.1=5 by omega)]at h
 split at h
 ·assumption
 ·cases h
theorem Fk{o:aE}(h:bg o=0)(hk:o.1=8):mD (oN o)=true:=by
 unfold bg at h
 split at h;· cases h
 split at h;· cases h
 split at h;· cases h
 split at h;· cases h
 rw[if_neg (show ¬o.1=3 by omega),if_neg (show ¬o.1=5 by omega),if_neg (show ¬o.1=6 by omega)]at h
 split at h
 ·assumption
 ·cases h
theorem AE{o:aE}(h:bg o=0)(hk:o.1=7):p4 (gR o)=true:=by
 unfold bg at h
 split at h;· cases h
 split at h;· cases h
 split at h;· cases h
 split at h;· cases h
 rw[if_neg (show ¬o.1=3 by omega),if_neg (show ¬o.1=5 by omega),if_neg (show ¬o.1=6 by omega),if_neg (show ¬o.1=8 by omega)]at h
 split at h
 ·assumption
 ·cases h
def j5(l:List aF):Prop:=l.Pairwise fun a b=>mC a.1 b.1=true
theorem rZ{a b:ab}:pW a b≤0↔a=b∨mC a b=true:=by
 unfold pW;by_cases h:a=b
 ·subst h;simp
 ·rw[if_neg h];cases mC a b<;>simp[h]
theorem Fl{q g:aF}:∀{l:List aF},q∈mS g l→q=g∨(q∈l∧q.1≠g.1)
 |[],h=>by simp[mS]at h;exact .inl h
 |e::r,h=>by
  unfold mS at h
  split at h
  ·rcases abn.1 h with h|h
   ·exact .inl h
   ·unfold pZ at h;rw[List.mem_filter]at h;exact .inr ⟨h.1,by simpa using h.2⟩
  ·split at h
   ·rename_i bp;rcases abn.1 h with rfl|h
    ·exact .inr ⟨abu ..,bp⟩
    ·rcases Fl h with h|⟨h,h2⟩
     ·exact .inl h
     ·exact .inr ⟨aa5 _ h,h2⟩
   ·rcases Fl h with h|⟨h,h2⟩
    ·exact .inl h
    ·exact .inr ⟨aa5 _ h,h2⟩
theorem j5.add(g:aF):∀{l:List aF},j5 l→j5 (mS g l)
 |[],_=>List.pairwise_singleton _ _
 |e::r,h=>by
  have hr:∀{q:aF},q∈r→mC e.1 q.1=true:=fun {q} hq=>acr h hq;unfold mS
  split
  ·rename_i ho;refine List.Pairwise.cons (fun q hq=>?_) (h.filter _);unfold pZ at hq;rw[List.mem_filter]at hq;have bp:q.1≠g.1:=by simpa using hq.2
   have hle:e.1=q.1∨mC e.1 q.1=true:=by
    rcases abn.1 hq.1 with rfl|hq
    ·exact .inl rfl
    ·exact .inr (hr hq)
   rcases rZ.1 ho with ho|ho
   ·rcases hle with k|k
    ·exact absurd (ho.trans k).symm bp
    ·rw[ho];exact k
   ·rcases hle with k|k
    ·rw[←k];exact ho
    ·exact iP ho k
  ·rename_i ho;have Nc:mC e.1 g.1=true:=by have h1:¬(g.1=e.1∨mC g.1 e.1=true):=fun k=>ho (rZ.2 k);exact vd (by simpa using fun k=>h1 (.inr k)) (fun k=>h1 (.inl k))
   have hs:=j5.add g (adY h)
   split
   ·refine List.Pairwise.cons (fun q hq=>?_) hs;rcases Fl hq with rfl|⟨hq,_⟩
    ·exact Nc
    ·exact hr hq
   ·exact hs
theorem r9(e:aF)(r:List aF)(x:ab):iD (e::r) x=if e.1=x then some e.2 else iD r x:=by
 unfold iD;rw[List.find?_cons];by_cases h:e.1=x
 ·simp[h]
 ·simp[h]
theorem vh{g:aF}:∀{l:List aF},(∀q∈l,q.1≠g.1)→pZ g l=l:=fun {l} h=>by unfold pZ;rw[List.filter_eq_self];intro q hq;simpa using h q hq
theorem Mc(g:aF):∀{l:List aF},j5 l→(mS g l).length=if(iD l g.1).isSome=true then l.length else l.length+1
 |[],_=>rfl
 |e::r,h=>by
  have hr:∀{q:aF},q∈r→mC e.1 q.1=true:=fun {q} hq=>acr h hq;have ih:=Mc g (adY h);unfold mS
  split
  ·rename_i ho;rcases rZ.1 ho with ho|ho
   ·have h1:pZ g (e::r)=r:=by
     have:pZ g (e::r)=pZ g r:=by unfold pZ;rw[List.filter_cons_of_neg (by simp[ho])]
     rw[this];exact vh (fun q hq k=>by have:=hr hq;rw[k,ho,eY]at this;cases this)
    rw[h1,r9,if_pos ho.symm];simp
   ·have h2:∀q∈e::r,q.1≠g.1:=fun q hq k=>by
     have:mC g.1 q.1=true:=by
      rcases abn.1 hq with rfl|hq
      ·exact ho
      ·exact iP ho (hr hq)
     rw[k,eY]at this;cases this
    have h3:iD (e::r) g.1=none:=by
     unfold iD;have:(List.find? (fun q=>decide (q.1=g.1)) (e::r))=none:=by rw[List.find?_eq_none];intro q hq;simpa using h2 q hq
     rw[this];rfl
    rw[vh h2,h3];simp
  ·rename_i ho;have bp:e.1≠g.1:=fun k=>ho (rZ.2 (.inl k.symm));rw[if_pos bp,r9,if_neg bp];simp only[List.length_cons,ih]
   split<;>rfl
theorem lu{l:List aF}(h:j5 l)(hn:l.length≤400)(g:aF):j5 (bR l g)∧(bR l g).length≤400:=by
 unfold bR
 split
 ·exact⟨h,hn⟩
 ·rename_i hc;refine⟨j5.add g h,?_⟩;rw[Mc g h]
  split
  ·exact hn
  ·rename_i h1;by_cases h2:400≤l.length
   ·exact absurd ⟨by simpa using h1,h2⟩ hc
   ·omega
theorem nq{α:Type}{o:Option α}(h:¬o.isSome=false):o.isSome=true:=by cases o<;>simp_all
structure cS(s:StateT):Prop where
 d:Wf s.1
 g:j5 s.2
 n:s.2.length≤400
theorem cS.zero:cS zS:=⟨Wf.zero,List.Pairwise.nil,by simp[zS]⟩
theorem cS.add{l:List aF}(h:j5 l)(hn:l.length≤400){d:ak}(hd:Wf d)(g:aF):cS (d,bR l g):=⟨hd,(lu h hn g).1,(lu h hn g).2⟩
theorem SJ{f:ai→ai}(hf:∀v,(f v).2.1=v.2.1)(l:List ai):an (l.map f)=an l:=by unfold an;rw[List.flatMap_map];congr 1;funext v;exact hf v
theorem WC{f:aj→aj}(hf:∀v,(f v).1=v.1)(l:List aj):ends (l.map f)=ends l:=by unfold ends;rw[List.flatMap_map];congr 1;funext v;rw[hf]
theorem JH(o:aE)(w:aj):(gN o w).1=w.1:=by unfold gN;split<;>(try split)<;>rfl
theorem SK(o:aE)(w:ai):(fN o w).2.1=w.2.1:=by unfold fN;split<;>(try split)<;>rfl
theorem Wf.mV{d:ak}(h:Wf d){x:ID}(hx:aP d.2 x=none)(s:Int):(x,s)∉an d.1:=fun k=>Fh hx s (h.pd.mem_iff.1 k)
theorem Wf.gq{d:ak}(h:Wf d){x:ID}(hx:(aP d.2 x).isSome=true){s:Int}(hs:s=0∨s=1):(x,s)∈an d.1:=h.pd.mem_iff.2 (Fi hx hs)
theorem Wf.qK{s:StateT}(h:Wf s.1){o:aE}(hm:bg o=0)(hk:7≤o.1):Wf (qK s o).1.1:=by
 have hk8:=(jw hm).2;unfold Vs.qK
 split
 ·refine⟨h.sv.map (Ql o),h.se.map (JH o),by simp;exact h.nv,by simp;exact h.ne,fun v hv=>?_,fun e he=>?_,?_⟩
  ·obtain⟨w,hw,rfl⟩:=abY.1 hv;have g:=h.gv w hw;unfold fN
   split
   ·split
    ·rename_i h7;exact⟨g.i,AE hm h7,g.a,g.t⟩
    ·exact⟨g.i,g.l,Fk hm (by omega),g.t⟩
   ·exact g
  ·obtain⟨w,hw,rfl⟩:=abY.1 he;have g:=h.ge w hw;unfold gN
   split
   ·split
    ·rename_i h7;exact⟨g.i,AE hm h7,g.a⟩
    ·exact⟨g.i,g.l,Fk hm (by omega)⟩
   ·exact g
  ·show(an (s.1.1.map (fN o))).Perm (ends (s.1.2.map (gN o)));rw[SJ (SK o),WC (JH o)];exact h.pd
 ·exact Wf.zero
theorem lz{s:StateT}{c:lW}(h:(aU s c).2.1=0):(aG s.1 c.1).isSome=true∧(aU s c).1.1=c.1:=by
 unfold aU at h ⊢
 cases hv:aG s.1 c.1 with
 |none=>rw[hv]at h;cases h
 |some v=>exact⟨rfl,rfl⟩
theorem ud{l:List ai}{x y:ID}(r:List ab)(h:(aO l x).isSome=true):(aO (l.map (iX y r)) x).isSome=true:=by rw[iO (qa y r)];simpa using h
theorem Wf.link{d:ak}(h:Wf d){x:ID}(hx:cY x=true)(hn:aP d.2 x=none)(he:¬40≤d.2.length){a b:lW}(ha:(aO d.1 a.1).isSome=true)(hb:(aO d.1 b.1).isSome=true) :
  Wf (br (br (d.1,bW (x,(e0,0)) d.2) a (x,0)) b (x,1)):=by
 have SL:Rw ((d.1,bW (x,(e0,0)) d.2):ak).1:=h.rw;obtain⟨va,hva⟩:=abM.1 ha;have h0:=h.mV hn 0;have h1:=h.mV hn 1;obtain⟨p1,q1⟩:=lJ (c:=a) (x:=(x,0)) SL hva h0;obtain⟨vb,hvb⟩:=abM.1 (ud (x:=b.1) (y:=a.1) (gQ (aW (d.1,bW (x,(e0,0)) d.2) a.1) a.2 (x,0)) hb);have X4:(x,1)∉an (br (d.1,bW (x,(e0,0)) d.2) a (x,0)).1:=fun k=>by
  rcases abn.1 (p1.mem_iff.1 k) with k|k
  ·cases k
  ·exact h1 k
 obtain⟨p2,q2⟩:=lJ (c:=b) (x:=(x,1)) q1 hvb X4;refine⟨q2.s,Az (x,(e0,0)) h.se hn,?_,?_,uc (uc h.gv _ _) _ _,fun e hem=>?_,?_⟩
 ·unfold br;rw[fO,fO];exact h.nv
 ·show(bW (x,(e0,0)) d.2).length≤40;rw[mg];omega
 ·rcases kF.1 (show e∈bW (x,(e0,0)) d.2 from hem) with rfl|hem
  ·exact⟨hx,lp,lq⟩
  ·exact h.ge e hem
 ·show(an _).Perm (ends (bW (x,(e0,0)) d.2));refine(p2.trans (List.Perm.cons _ p1)).trans (List.Perm.trans ?_ (HQ (x,(e0,0)) d.2).symm);exact(List.Perm.swap _ _ _).trans (List.Perm.cons _ (List.Perm.cons _ h.pd))
theorem Wf.cut{d:ak}(h:Wf d){x:ID}(hx:(aP d.2 x).isSome=true):Wf (aH (au (au d (x,0)) (x,1)) zI x):=by
 have h0:=h.gq hx (s:=0) (.inl rfl);have h1:=h.gq hx (s:=1) (.inr rfl);obtain⟨p1,q1⟩:=c9 h.rw h0;have X4:(x,1)∈an (au d (x,0)).1:=by
  rcases abn.1 (p1.mem_iff.1 h1) with k|k
  ·cases k
  ·exact k
 obtain⟨p2,q2⟩:=c9 q1 X4;have Qn:=iF (iF h.gv (x,0)) (x,1);have Qo:(aH (au (au d (x,0)) (x,1)) zI x).1=(au (au d (x,0)) (x,1)).1:=lK Qn;refine⟨by rw[Qo];exact q2.s,rX h.se,?_,?_,by rw[Qo];exact Qn,fun e he=>h.ge e ?_,?_⟩
 ·rw[Qo];unfold au;rw[fO,fO];exact h.nv
 ·exact acH (adx _ _) h.ne
 ·exact(adC.1 (show e∈d.2.filter fun w=>decide (w.1≠x) from he)).1
 ·rw[Qo];show(an (au (au d (x,0)) (x,1)).1).Perm (ends (bH d.2 x));have p3:((x,0)::(x,1)::an (au (au d (x,0)) (x,1)).1).Perm ((x,0)::(x,1)::ends (bH d.2 x)) :=((p1.trans (List.Perm.cons _ p2)).symm.trans h.pd).trans (Ff h.se hx);exact p3.cons_inv.cons_inv
theorem iR{x:ab}(h:x.2=0∨x.2=1):(ag x).1=x.1∧((x.2=0∧(ag x).2=1)∨(x.2=1∧(ag x).2=0)):=by
 refine⟨rfl,?_⟩;unfold ag;rcases h with h|h
 ·exact .inl ⟨h,by rw[h];rfl⟩
 ·exact .inr ⟨h,by rw[h];rfl⟩
theorem Md{x:ab}(h:x.2=0∨x.2=1)(l:List ab):(x::ag x::l).Perm ((x.1,0)::(x.1,1)::l):=by
 obtain⟨h1,h2⟩:=iR h;have e:x=(x.1,x.2):=rfl;have e2:ag x=(x.1,(ag x).2):=rfl;rcases h2 with⟨ha,hb⟩|⟨ha,hb⟩
 ·rw[ha]at e;rw[hb]at e2;rw[e2,e]
 ·rw[ha]at e;rw[hb]at e2;rw[e2,e];exact List.Perm.swap _ _ _
theorem yV{n:Int}(h0:0≤n)(h3:n≤3):(IntKind.wrap .i64 (1-Int.tmod n 2)=0∨IntKind.wrap .i64 (1-Int.tmod n 2)=1)∧(IntKind.wrap .i64 (Int.tdiv n 2)=0∨IntKind.wrap .i64 (Int.tdiv n 2)=1):=by
 have:n=0∨n=1∨n=2∨n=3:=by omega
 rcases this with rfl|rfl|rfl|rfl<;>exact⟨by decide,by decide⟩
theorem Wf.split{d:ak}(h:Wf d){m k:ab}{v:ID}(hv:cY v=true)(hk:cY k.1=true)(Ct:m.2=0∨m.2=1)(pS:k.2=0∨k.2=1)(hm:(aP d.2 m.1).isSome=true)(Rj:aO d.1 v=none)(hnk:aP d.2 k.1=none) (hlv:¬24≤d.1.length) (hle:¬40≤d.2.length):Wf (cx (v,(bG [m,k],(e0,0))) (az d m (ag k)).1,bW (k.1,(e0,0)) (az d m (ag k)).2):=by
 have Me:m∈an d.1:=h.gq hm Ct;have He:ag k∉an d.1:=h.mV hnk _;obtain⟨p1,q1⟩:=iQ h.rw Me He;have Zo:aO (az d m (ag k)).1 v=none:=by unfold az Vs.cj;rw[iO (qa _ _),Rj];rfl
 refine⟨qM (v,(bG [m,k],(e0,0))) q1.s Zo,Az (k.1,(e0,0)) h.se hnk,?_,?_,fun w hw=>?_,fun e he=>?_,?_⟩
 ·show(cx _ (az d m (ag k)).1).length≤24;rw[gD];unfold az;rw[fO];omega
 ·show(bW _ d.2).length≤40;rw[mg];omega
 ·rcases kE.1 hw with rfl|hw
  ·exact⟨hv,lp,lq,vf _⟩
  ·exact oC h.gv _ _ w hw
 ·rcases kF.1 (show e∈bW (k.1,(e0,0)) d.2 from he) with rfl|he
  ·exact⟨hk,lp,lq⟩
  ·exact h.ge e he
 ·show(an (cx _ _)).Perm (ends (bW (k.1,(e0,0)) d.2));refine(xd _ _).trans (List.Perm.trans ?_ (HQ (k.1,(e0,0)) d.2).symm);refine(ac9 _ (fF [m,k])).trans ?_;show(m::k::an (az d m (ag k)).1).Perm _;refine(List.Perm.swap k m _).trans ((List.Perm.cons k p1.symm).trans ?_);refine(Md pS _).trans ?_;exact List.Perm.cons _ (List.Perm.cons _ h.pd)
theorem Wf.WD{d:ak}(h:Wf d){v:ai}(hv:v∈d.1)(hr:v.2.1=[]):Wf (aH d v.1 zI):=by
 obtain⟨a,b,h1,_,h2,_⟩:=mE h.sv hv;refine⟨lh h.sv,?_,acH (adx _ _) h.nv,acH (adx _ _) h.ne,fun w hw=>h.gv w ?_,fun e he=>h.ge e ?_,?_⟩
 ·exact rX h.se
 ·exact(adC.1 (show w∈d.1.filter fun w=>decide (w.1≠v.1) from hw)).1
 ·exact(adC.1 (show e∈d.2.filter fun w=>decide (w.1≠zI) from he)).1
 ·show(an (bF d.1 v.1)).Perm (ends (bH d.2 zI));rw[h2,kH h.ge];have p:=g6 a b v;rw[←h1,hr,List.nil_append]at p;exact p.symm.trans h.pd
theorem Wf.acy{d:ak}(h:Wf d){v:ai}{a b:ab}(hv:v∈d.1)(hr:v.2.1.Perm [a,b])(rT:a.1≠b.1):Wf (aH (az (aH d v.1 zI) (ag b) a) zI b.1):=by
 obtain⟨p,q,h1,_,h2,_⟩:=mE h.sv hv;have pd:(an d.1).Perm (a::b::an (p++q)):=by have:=(g6 p q v).trans (ac9 _ hr);rw[←h1]at this;exact this
 have Ow:aH d v.1 zI=(p++q,d.2):=by unfold aH;rw[h2,kH h.ge]
 have Cs:=pd.nodup_iff.1 h.rw.n;have hbm:b∈ends d.2:=h.pd.mem_iff.1 (pd.mem_iff.2 (by simp));obtain⟨e,he,he1,Cm⟩:=dr.1 hbm;have zp:(aP d.2 b.1).isSome=true:=by unfold aP;rw[List.find?_isSome];exact⟨e,he,by simpa using he1⟩
 obtain⟨_,ho⟩:=iR Cm;have SM:ag b∈an (p++q):=by
  have h3:ag b∈an d.1:=h.gq (s:=(ag b).2) zp (by rcases ho with⟨_,k⟩|⟨_,k⟩<;>omega);rcases abn.1 (pd.mem_iff.1 h3) with k|k
  ·exact absurd (congrArg Prod.fst k) (fun k=>rT k.symm)
  rcases abn.1 k with k|k
  ·have:=congrArg Prod.snd k;omega
  ·exact k
 have JI:Rw (p++q):=by refine⟨?_,(abx.1 (abx.1 Cs).2).2⟩;rw[←h2];exact lh h.sv
 have ha:a∉an (p++q):=fun k=>(abx.1 Cs).1 (aa5 _ k);rw[Ow];obtain⟨p1,q1⟩:=iQ (d:=(p++q,d.2)) JI SM ha;have Qn:∀w∈(az (p++q,d.2) (ag b) a).1,GV w:=by
  refine oC (d:=(p++q,d.2)) (fun w hw=>h.gv w ?_) _ _;rw[h1];rcases abH.1 hw with k|k
  ·exact abt _ k
  ·exact abo _ (aa5 _ k)
 have Qo:(aH (az (p++q,d.2) (ag b) a) zI b.1).1=(az (p++q,d.2) (ag b) a).1:=lK Qn;refine⟨by rw[Qo];exact q1.s,rX h.se,?_,acH (adx _ _) h.ne,by rw[Qo];exact Qn,fun f hf=>h.ge f ?_,?_⟩
 ·rw[Qo];unfold az;rw[fO];have:=h.nv;rw[h1]at this;simp at this ⊢;omega
 ·exact(adC.1 (show f∈d.2.filter fun w=>decide (w.1≠b.1) from hf)).1
 ·rw[Qo];show(an (az (p++q,d.2) (ag b) a).1).Perm (ends (bH d.2 b.1));have p3:(b::ag b::an (az (p++q,d.2) (ag b) a).1).Perm (b::ag b::ends (bH d.2 b.1)):=by refine List.Perm.trans (List.Perm.cons b p1.symm) ?_;refine(List.Perm.swap a b _).trans (pd.symm.trans (h.pd.trans ?_));exact(Ff h.se zp).trans (Md Cm _).symm
  exact p3.cons_inv.cons_inv
theorem cS.one{s:StateT}(h:cS s)(o:aE):cS (bP s o).1:=by
 unfold bP
 split
 ·exact cS.zero
 rename_i hm;have hm:bg o=0:=Classical.byContradiction fun k=>hm k;have bV:=rY hm
 split
 ·unfold mh
  split;· exact cS.zero
  split;· exact cS.zero
  rename_i h1 h2;have hn:aO s.1.1 (ar o)=none:=by simpa[aG] using h1
  refine⟨⟨qM _ h.d.sv hn,h.d.se,by show(cx _ s.1.1).length≤24;rw[gD];omega,h.d.ne,fun w hw=>?_,h.d.ge,?_⟩,h.g,h.n⟩
  ·rcases kE.1 hw with rfl|hw
   ·exact⟨bV,lp,lq,rfl⟩
   ·exact h.d.gv w hw
  ·exact(xd _ _).trans h.d.pd
 split
 ·unfold qL
  cases hv:aG s.1 (ar o) with
  |none=>exact cS.zero
  |some v =>
   simp only
   split
   ·exact cS.zero
   ·rename_i hr;have:=h.d.WD (dw hv) (by simpa using hr);rw[gk hv]at this;exact⟨this,h.g,h.n⟩
 split
 ·unfold kP
  split;· exact cS.zero
  split;· exact cS.zero
  split;· exact cS.zero
  split;· exact cS.zero
  split;· exact cS.zero
  rename_i h1 h2 h3 h4 h5;have hn:aP s.1.2 (ar o)=none:=by simpa[b5] using h1
  obtain⟨ca,ca2⟩:=lz (s:=s) (c:=oA o) (Classical.byContradiction fun k=>h3 k);obtain⟨cb,cb2⟩:=lz (s:=s) (c:=oB o) (Classical.byContradiction fun k=>h4 k);refine⟨?_,h.g,h.n⟩;unfold gS;refine h.d.link bV hn h2 (by rw[ca2];exact ca) ?_
  split
  ·exact cb
  ·rw[cb2];exact cb
 split
 ·unfold w8
  split;· exact cS.zero
  rename_i h1;have h2:=lu h.g h.n ((ar o,0),dB s.1 (ar o,0));exact cS.add h2.1 h2.2 (h.d.cut (nq h1)) _
 split
 ·rename_i hk;unfold jg
  split;· exact cS.zero
  split;· exact cS.zero
  split;· exact cS.zero
  split;· exact cS.zero
  split;· exact cS.zero
  rename_i h1 h2 h3 h4 h5;obtain⟨m1,m2,m3,m4⟩:=np hm hk;obtain⟨s1,s2⟩:=yV m3 m4;refine⟨?_,h.g,h.n⟩;exact h.d.split (m:=JA o) (k:=Gf o) m1 m2 s1 s2 (nq h1) (by simpa[aG] using h2) (by simpa[b5,Gf] using h3) h4 h5
 split
 ·unfold fX
  split
  ·exact cS.zero
  ·rename_i v hv
   split
   ·rename_i r0 r1 hr;have Ce:=dw hv;have Mb:=gk hv;have key:∀a b:ab,v.2.1.Perm [a,b]→a.1≠b.1→cS (GM s o a b,HI s.2 a b):=fun a b hp rT=>by have h2:=lu h.g h.n ((b.1,0),sP a b 0);have:=h.d.acy Ce hp rT;rw[Mb]at this;exact cS.add h2.1 h2.2 this _
    unfold dH
    split;· exact cS.zero
    rename_i bp
    split
    ·exact key r1 r0 (by rw[hr];exact List.Perm.swap _ _ _) (fun k=>bp k.symm)
    split
    ·exact key r0 r1 (by rw[hr]) bp
    ·exact cS.zero
   ·exact cS.zero
 ·rename_i k1 k2 k3 k4 k5 k6;have hk:=jw hm;have:=h.d.qK hm (by omega);refine⟨this,?_,?_⟩
  ·unfold qK;split
   ·exact h.g
   ·exact List.Pairwise.nil
  ·unfold qK;split
   ·exact h.n
   ·simp[zS]
theorem cS.go:∀(l:List aE) {s:StateT},cS s→cS (ji l s).1
 |[],s,h=>h
 |o::r,s,h=>by
  unfold ji
  split
  ·exact cS.zero
  ·exact cS.go r (h.one o)
theorem cS.apply{s:StateT}(h:cS s)(l:List aE):cS (bC s l).1:=by
 unfold bC
 split
 ·exact cS.zero
 ·exact cS.go l h
theorem cS.try{s:StateT}(h:cS s)(l:List aE):cS (iM s l):=by
 unfold iM
 split
 ·exact h
 ·exact h.apply l
theorem cS.reach:∀(m:Nat) (l:List (List aE)) {s:StateT},cS s→cS (oy m l s)
 |0,_,s,h=>by simpa[oy] using h
 |m+1,[],s,h=>h
 |m+1,l::r,s,h=>by rw[oy];exact cS.reach m r (h.try _)
theorem cS.Qk(l:List (List aE)):cS (E6 l):=cS.reach 30 l cS.zero
end Go.Vs
