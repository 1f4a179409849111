/- Diagrams that are well formed -/
import Derived.Test.YtoleelddkocpkaaGreatRings
set_option linter.unusedVariables false
set_option linter.unusedSimpArgs false
namespace Go.Vs
open Go.Proofs
theorem qN(row:List ag):(cZ row).Perm row:=by
 grind [cZ,Gv,List.Perm.of_eq,List.take_append_drop]
theorem Tg{row:List ag}(h:0<row.length)(hl:∀j,(hj:j<row.length)→kG row[j] row[0]=false):ia row row 0 0=0:=by
 grind [sf,xK,ia,so]
theorem WT(row:List ag):Gv row 0=row:=by unfold Gv;simp
theorem vF(row:List ag):cZ (cZ row)=cZ row:=by
 by_cases h0:row.length=0
 ·have:row=[]:=by simpa using h0
  subst this;rfl
 have hp:0<row.length:=by omega
 have hm:=sf row row 0 0 hp (by omega);have ZV:0<(cZ row).length:=by grind [jW]
 have h1:(cZ row)[0]=row.getD (ia row row 0 0) zD:=by have:=QI (row:=row) (k:=ia row row 0 0) (i:=0) (by omega) hp;rw[Nat.add_zero,Nat.mod_eq_of_lt hm,List.getElem?_eq_getElem hm]at this;rw[so hm];exact(abp.1 this).2
 have h2:ia (cZ row) (cZ row) 0 0=0:=by
  grind [Tg,cZ,Mv,List.getElem_mem,List.getElem_of_mem,xK]
 grind [cZ,WT]
theorem Th(row:List ag)(a d:ag):cZ (uk row a d)=uk row a d:=by grind [uk,vF]
theorem Ti(row:List ag)(d:ag):cZ (j0 row d)=j0 row d:=vF _
theorem O8(row:List ag)(a d:ag):cZ (oc row a d)=oc row a d:=vF _
theorem Tj{row:List ag}{d:ag}(a:ag)(h:d∉row):(uk row a d).Perm (d::row):=by
 unfold uk;rw[if_neg h]
 grind [qN,trans,List.take_append_drop]
theorem vG{row:List ag}{d:ag}(h:d∈row)(hn:row.Nodup):row.Perm (d::j0 row d):=by
 obtain⟨k,_,h2,_⟩:=jo h;obtain⟨h3,h4⟩:=abp.1 h2;unfold j0;rw[Bh hn h2];refine List.Perm.trans ?_ (List.Perm.cons d (qN _).symm)
 grind [List.take_append_drop,List.drop_eq_getElem_cons,List.perm_middle]
theorem O9{row:List ag}{dJ d:ag}(h:dJ∈row)(hd:d∉row):(d::row).Perm (dJ::oc row dJ d):=by
 obtain⟨k,h1,h2,_⟩:=jo h;obtain⟨h3,h4⟩:=abp.1 h2;unfold oc;rw[if_pos ⟨h,hd⟩,h1,Int.toNat_natCast];refine List.Perm.trans ?_ (List.Perm.cons dJ (qN _).symm)
 grind
def av(l:List an):List ag:=l.flatMap fun v=>v.2.1
def ends(l:List aj):List ag:=l.flatMap fun e=>[(e.1,0),(e.1,1)]
theorem dQ(v:an)(l:List an):av (v::l)=v.2.1++av l:=List.flatMap_cons
theorem la(a b:List an):av (a++b)=av a++av b:=List.flatMap_append
theorem lg(a b:List an)(v:an):(av (a++v::b)).Perm (v.2.1++av (a++b)):=by
 grind [la,dQ,List.append_assoc,List.Perm.append_right,List.perm_append_comm]
theorem aS{x:ag}{l:List an}:x∈av l↔∃v∈l,x∈v.2.1:=List.mem_flatMap
theorem eY(e:aj)(l:List aj):ends (e::l)=(e.1,0)::(e.1,1)::ends l:=by rfl
theorem zz(a b:List aj):ends (a++b)=ends a++ends b:=List.flatMap_append
theorem cy{x:ag}{l:List aj}:x∈ends l↔∃e∈l,e.1=x.1∧(x.2=0∨x.2=1):=by
 unfold ends
 grind
theorem iE:∀{l:List aj},dv l→(ends l).Nodup
 |[],_=>List.nodup_nil
 |e::r,h=>by
  have bA:∀s:Int,(e.1,s)∉ends r:=fun s hs=>by obtain⟨f,hf,h1,_⟩:=cy.1 hs;have:=acS h hf;simp only at h1;rw[h1,cm]at this;cases this
  rw[eY];refine acC.2 ⟨?_,acC.2 ⟨bA 1,iE h.of_cons⟩⟩;rw[List.mem_cons];rintro(h1|h1)
  ·cases h1
  ·exact bA 0 h1
theorem Iu(e:aj):∀l:List aj,(ib e l).Perm (e::l)
 |[]=>aeJ _
 |w::r=>by
  unfold ib
  split
  ·exact aeJ _
  ·exact(List.Perm.cons w (Iu e r)).trans (List.Perm.swap e w r)
theorem Ix(e:an):∀l:List an,(im e l).Perm (e::l)
 |[]=>aeJ _
 |w::r=>by
  unfold im
  split
  ·exact aeJ _
  ·exact(List.Perm.cons w (Ix e r)).trans (List.Perm.swap e w r)
theorem Iy(e:aj)(l:List aj):(ends (ib e l)).Perm ((e.1,0)::(e.1,1)::ends l):=by rw[←eY];exact List.Perm.flatMap_right _ (Iu e l)
theorem Fu(v:an)(l:List an):(av (im v l)).Perm (v.2.1++av l):=by rw[←dQ];exact List.Perm.flatMap_right _ (Ix v l)
theorem Fv{l:List aj}{x:ID}(hs:dv l)(h:(ba l x).isSome=true):(ends l).Perm ((x,0)::(x,1)::ends (fw l x)):=by
 obtain⟨e,he⟩:=acK.1 h;obtain⟨h3,h4⟩:=abp.1 (ot hs he);rw[Bb hs h]
 conv=>lhs;rw[←List.take_append_drop (cI l x) l,List.drop_eq_getElem_cons h3,h4]
 rw[←qM he,←eY];exact List.Perm.flatMap_right _ List.perm_middle
theorem ma{l:List an}{v:an}(hs:cg l)(h:v∈l):aZ l v.1=some v:=by
 have hf:(aZ l v.1).isSome=true:=by
  grind [aZ,List.find?_isSome]
 obtain⟨u,hu⟩:=acK.1 hf;have h1:=dF hs hu;obtain⟨k,hk,he⟩:=aeL h;have h2:l[k]? = some v:=by simp_all
 rw[k9 hs h2 rfl,h1]at h2;simp_all
theorem uy{l:List an}{v:an}(hs:cg l)(h:v∈l):∃a b,l=a++v::b∧(∀u∈a++b,u.1≠v.1)∧gu l v.1=a++b∧∀r,l.map (A4 v.1 r)=a++(v.1,(r,v.2.2))::b:=by
 obtain⟨a,b,rfl⟩:=adm h;have hp:=List.pairwise_append.1 hs;have hb:=List.pairwise_cons.1 hp.2.1;have bA:∀u∈a++b,u.1≠v.1:=fun u hu e=>by
  rcases abY.1 hu with hu|hu
  ·have:=hp.2.2 u hu v (by simp);rw[e,cm]at this;cases this
  ·have:=hb.1 u hu;rw[e,cm]at this;cases this
 have hm:∀(r:List ag) (c:List an),(∀u∈c,u.1≠v.1)→c.map (A4 v.1 r)=c:=fun r c hc=>by
  conv=>rhs;rw[←List.map_id c]
  exact List.map_congr_left fun u hu=>by unfold A4;rw[if_neg (hc u hu)];rfl
 have hd:∀c:List an,(∀u∈c,u.1≠v.1)→gu c v.1=c:=fun c hc=>by unfold gu;rw[List.filter_eq_self];intro u hu;simpa using hc u hu
 refine⟨a,b,rfl,bA,?_,fun r=>?_⟩
 ·unfold gu;rw[List.filter_append,List.filter_cons_of_neg (by simp)];have h1:=hd a (fun u hu=>bA u (abr _ hu));have h2:=hd b (fun u hu=>bA u (abw _ hu));unfold gu at h1 h2;rw[h1,h2]
 ·rw[List.map_append,List.map_cons,hm r a (fun u hu=>bA u (List.mem_append_left _ hu)),hm r b (fun u hu=>bA u (List.mem_append_right _ hu))];unfold A4;rw[if_pos rfl]
structure Rw(l:List an):Prop where
 s:cg l
 n:(av l).Nodup
theorem Rw.ring{l:List an}(h:Rw l){v:an}(hv:v∈l):v.2.1.Nodup:=by obtain⟨a,b,rfl,_⟩:=uy h.s hv;exact(adz.1 ((lg a b v).nodup_iff.1 h.n)).1
theorem Rw.one{l:List an}(h:Rw l){v w:an}{x:ag}(hv:v∈l)(hw:w∈l)(hx:x∈v.2.1)(hy:x∈w.2.1):w=v:=by
 obtain⟨a,b,rfl,_⟩:=uy h.s hv;have hn:=adz.1 ((lg a b v).nodup_iff.1 h.n);have:w∈a++v::b:=hw;rw[List.mem_append,List.mem_cons]at this;rcases this with k|k|k
 ·exact absurd rfl (hn.2.2 x hx x (aS.2 ⟨w,abr _ k,hy⟩))
 ·exact k
 ·exact absurd rfl (hn.2.2 x hx x (aS.2 ⟨w,abw _ k,hy⟩))
theorem fk{l:List an}(h:Rw l){v:an}{x:ag}(hv:v∈l)(hx:x∈v.2.1):Gx l x=some v.1:=by
 have hf:(l.find? fun u=>decide (x∈u.2.1)).isSome=true:=by grind
 obtain⟨u,hu⟩:=acK.1 hf;have h1:=ado hu;have h2:x∈u.2.1:=by grind
 unfold Gx;rw[hu,h.one hv h1 hx h2];rfl
theorem MH{l:List an}{x:ag}(h:x∉av l):Gx l x=none:=by
 grind [Gx,decide,List.find?_eq_none,aS]
theorem lh{d:ar}(h:cg d.1){v:an}(hv:v∈d.1):dd d v.1=v.2.1:=by
 grind [dd,cH,ma]
theorem lj{d:ar}(h:Rw d.1){v:an}{x:ag}(hv:v∈d.1)(hx:x∈v.2.1):aN d x=cE d v.1 (j0 v.2.1 x):=by unfold aN dA;rw[fk h hv hx];show cE d v.1 (j0 (dd d v.1) x)=_;rw[lh h.s hv]
theorem Fw{d:ar}(h:Rw d.1){v:an}{x:ag}(y:ag)(hv:v∈d.1)(hx:x∈v.2.1):aU d x y=cE d v.1 (oc v.2.1 x y):=by unfold aU dA;rw[fk h hv hx];show cE d v.1 (oc (dd d v.1) x y)=_;rw[lh h.s hv]
theorem cg.re{l:List an}(h:cg l)(x:ID)(r:List ag):cg (l.map (A4 x r)):=h.map (uq x r)
theorem Fx{l:List an}{v:an}(hs:cg l)(hv:v∈l):∃rest,(av l).Perm (v.2.1++rest)∧∀r,(av (l.map (A4 v.1 r))).Perm (r++rest):=by
 grind [uy,av,lg]
theorem gk{d:ar}(h:Rw d.1){x:ag}(hx:x∈av d.1):(av d.1).Perm (x::av (aN d x).1)∧Rw (aN d x).1:=by obtain⟨v,hv,pW⟩:=aS.1 hx;obtain⟨rest,h1,h2⟩:=Fx h.s hv;rw[lj h hv pW];have p:(av d.1).Perm (x::av (cE d v.1 (j0 v.2.1 x)).1) :=h1.trans ((ad1 rest (vG pW (h.ring hv))).trans (List.Perm.cons x (h2 _).symm));exact⟨p,h.s.re _ _,(acC.1 (p.nodup_iff.1 h.n)).2⟩
theorem sq{d:ar}(h:Rw d.1){x y:ag}(hx:x∈av d.1)(hy:y∉av d.1):(y::av d.1).Perm (x::av (aU d x y).1)∧Rw (aU d x y).1:=by obtain⟨v,hv,pW⟩:=aS.1 hx;obtain⟨rest,h1,h2⟩:=Fx h.s hv;rw[Fw h y hv pW];have YW:y∉v.2.1:=fun k=>hy (aS.2 ⟨v,hv,k⟩);have p:(y::av d.1).Perm (x::av (cE d v.1 (oc v.2.1 x y)).1) :=(List.Perm.cons y h1).trans ((ad1 rest (O9 pW YW)).trans (List.Perm.cons x (h2 _).symm));refine⟨p,h.s.re _ _,?_⟩;exact(acC.1 (p.nodup_iff.1 (acC.2 ⟨hy,h.n⟩))).2
theorem wM{d:ar}(h:Rw d.1){c:xV}{x:ag}{v:an}(hv:aZ d.1 c.1=some v)(hx:x∉av d.1):(av (cS d c x).1).Perm (x::av d.1)∧Rw (cS d c x).1:=by
 have hvm:=gZ hv;have hvi:=l9 hv;obtain⟨rest,h1,h2⟩:=Fx h.s hvm;have pW:x∉v.2.1:=fun k=>hx (aS.2 ⟨v,hvm,k⟩);have e:cS d c x=cE d v.1 (uk v.2.1 c.2 x):=by unfold cS;rw[←hvi,lh h.s hvm]
 rw[e];have p:(av (cE d v.1 (uk v.2.1 c.2 x)).1).Perm (x::av d.1) :=(h2 _).trans ((ad1 rest (Tj c.2 pW)).trans (List.Perm.cons x h1.symm));exact⟨p,h.s.re _ _,p.nodup_iff.2 (acC.2 ⟨hx,h.n⟩)⟩
structure GV(v:an):Prop where
 i:bQ v.1=true
 l:dY v.2.2.1=true
 a:dE v.2.2.2=true
 t:cZ v.2.1=v.2.1
structure GE(e:aj):Prop where
 i:bQ e.1=true
 l:dY e.2.1=true
 a:dE e.2.2=true
structure Wf(d:ar):Prop where
 sv:cg d.1
 se:dv d.2
 nv:d.1.length≤24
 ne:d.2.length≤40
 gv:∀v∈d.1,GV v
 ge:∀e∈d.2,GE e
 pd:(av d.1).Perm (ends d.2)
theorem Wf.rw{d:ar}(h:Wf d):Rw d.1:=⟨h.sv,h.pd.nodup_iff.2 (iE h.se)⟩
theorem Wf.zero:Wf zS.1:=⟨List.Pairwise.nil,List.Pairwise.nil,by simp[zS],by simp[zS],by simp[zS],by simp[zS],aeJ _⟩
theorem GV.re{l:List an}(h:∀v∈l,GV v)(x:ID){r:List ag}(hr:cZ r=r):∀v∈l.map (A4 x r),GV v:=fun v hv=>by
 obtain⟨w,hw,rfl⟩:=acE.1 hv;have g:=h w hw;unfold A4
 split
 ·exact⟨g.i,g.l,g.a,hr⟩
 ·exact g
theorem lk{d:ar}(h:∀v∈d.1,GV v)(x:ag):∀v∈(aN d x).1,GV v:=GV.re h _ (Ti _ _)
theorem xL{d:ar}(h:∀v∈d.1,GV v)(x y:ag):∀v∈(aU d x y).1,GV v:=GV.re h _ (O8 _ _ _)
theorem Ck{d:ar}(h:∀v∈d.1,GV v)(c:xV)(y:ag):∀v∈(cS d c y).1,GV v:=GV.re h _ (Th _ _ _)
theorem jL(d:ar)(x:ID)(r:List ag):(cE d x r).1.length=d.1.length:=by unfold cE;simp
theorem Iz:bQ zI=false:=by decide
theorem zB{l:List aj}(h:∀e∈l,GE e):fw l zI=l:=by
 unfold fw;rw[List.filter_eq_self];intro e he;have:=(h e he).i
 grind [Iz]
theorem zF{l:List an}(h:∀e∈l,GV e):gu l zI=l:=by
 unfold gu;rw[List.filter_eq_self];intro e he;have:=(h e he).i
 grind [Iz]
theorem vH:dY e0=true:=by decide
theorem vI:dE 0=true:=by decide
theorem Fy{l:List aj}{x:ID}(h:ba l x=none)(s:Int):(x,s)∉ends l:=fun k=>by
 grind [cy,ba,List.find?_eq_none]
theorem Fz{l:List aj}{x:ID}(h:(ba l x).isSome=true){s:Int}(hs:s=0∨s=1):(x,s)∈ends l:=by
 obtain⟨e,he⟩:=acK.1 h
 grind [cy,Be,qM]
theorem WU{o:bP}(h:dV o=0):bQ (bK o)=true:=by
 grind [dV]
theorem FA{o:bP}(h:dV o=0):1≤o.1∧o.1≤8:=by
 grind [dV]
theorem IA{o:bP}(h:dV o=0)(hk:o.1=5):bQ (iM o)=true∧bQ (bY o)=true∧0≤oN o∧oN o≤3:=by
 unfold dV at h
 grind
theorem MI{o:bP}(h:dV o=0)(hk:o.1=8):dE (oN o)=true:=by
 unfold dV at h
 grind
theorem IB{o:bP}(h:dV o=0)(hk:o.1=7):dY (zw o)=true:=by
 unfold dV at h
 grind
def iS(l:List aC):Prop:=l.Pairwise fun a b=>kG a.1 b.1=true
theorem sr{a b:ag}:kZ a b≤0↔a=b∨kG a b=true:=by
 unfold kZ
 grind
theorem zG{q g:aC}:∀{l:List aC},q∈tf g l→q=g∨(q∈l∧q.1≠g.1)
 |[],h=>by simp[tf]at h;exact .inl h
 |e::r,h=>by
  unfold tf at h
  split at h
  ·rcases abq.1 h with h|h
   ·exact .inl h
   ·unfold vZ at h;rw[List.mem_filter]at h;exact .inr ⟨h.1,by simpa using h.2⟩
  ·split at h
   ·rename_i bA;rcases abq.1 h with rfl|h
    ·exact .inr ⟨acD ..,bA⟩
    ·rcases zG h with h|⟨h,h2⟩
     ·exact .inl h
     ·exact .inr ⟨abg _ h,h2⟩
   ·rcases zG h with h|⟨h,h2⟩
    ·exact .inl h
    ·exact .inr ⟨abg _ h,h2⟩
theorem iS.add(g:aC):∀{l:List aC},iS l→iS (tf g l)
 |[],_=>List.pairwise_singleton _ _
 |e::r,h=>by
  have hr:∀{q:aC},q∈r→kG e.1 q.1=true:=fun {q} hq=>acS h hq;unfold tf
  split
  ·rename_i ho;refine List.Pairwise.cons (fun q hq=>?_) (h.filter _);unfold vZ at hq;rw[List.mem_filter]at hq;have bA:q.1≠g.1:=by simp_all
   have hle:e.1=q.1∨kG e.1 q.1=true:=by
    grind
   grind [sr,absurd,iO]
  ·rename_i ho;have Qc:kG e.1 g.1=true:=by
    grind [kG,sr,Bf]
   have hs:=iS.add g (aeP h)
   split
   ·refine List.Pairwise.cons (fun q hq=>?_) hs;rcases zG hq with rfl|⟨hq,_⟩
    ·exact Qc
    ·exact hr hq
   ·exact hs
theorem ss(e:aC)(r:List aC)(x:ag):pf (e::r) x=if e.1=x then some e.2 else pf r x:=by
 unfold pf;rw[List.find?_cons];by_cases h:e.1=x
 ·simp[h]
 ·simp[h]
theorem vJ{g:aC}:∀{l:List aC},(∀q∈l,q.1≠g.1)→vZ g l=l:=fun {l} h=>by
 grind [vZ,List.filter_eq_self]
theorem MJ(g:aC):∀{l:List aC},iS l→(tf g l).length=if(pf l g.1).isSome=true then l.length else l.length+1
 |[],_=>rfl
 |e::r,h=>by
  have hr:∀{q:aC},q∈r→kG e.1 q.1=true:=fun {q} hq=>acS h hq;have ih:=MJ g (aeP h);unfold tf
  split
  ·rename_i ho;rcases sr.1 ho with ho|ho
   ·have h1:vZ g (e::r)=r:=by
     have:vZ g (e::r)=vZ g r:=by grind [vZ,List.filter_cons_of_neg]
     grind [vJ,fj]
    simp_all [ss,if_pos]
   ·have h2:∀q∈e::r,q.1≠g.1:=fun q hq k=>by
     have:kG g.1 q.1=true:=by
      rcases abq.1 hq with rfl|hq
      ·exact ho
      grind [iO]
     grind [fj]
    grind [pf,List.find?,decide,List.find?_eq_none,vJ]
  ·rename_i ho;have bA:e.1≠g.1:=fun k=>ho (sr.2 (.inl k.symm));rw[if_pos bA,ss,if_neg bA]
   grind
theorem ll{l:List aC}(h:iS l)(hn:l.length≤400)(g:aC):iS (ct l g)∧(ct l g).length≤400:=by
 grind [ct,iS.add,MJ,absurd]
theorem Bi{α:Type}{o:Option α}(h:¬o.isSome=false):o.isSome=true:=by grind
structure fN(s:StateT):Prop where
 d:Wf s.1
 g:iS s.2
 n:s.2.length≤400
theorem fN.zero:fN zS:=⟨Wf.zero,List.Pairwise.nil,by simp[zS]⟩
theorem fN.add{l:List aC}(h:iS l)(hn:l.length≤400){d:ar}(hd:Wf d)(g:aC):fN (d,ct l g):=⟨hd,(ll h hn g).1,(ll h hn g).2⟩
theorem Tk{f:an→an}(hf:∀v,(f v).2.1=v.2.1)(l:List an):av (l.map f)=av l:=by
 grind [av,List.flatMap_map]
theorem WV{f:aj→aj}(hf:∀v,(f v).1=v.1)(l:List aj):ends (l.map f)=ends l:=by
 grind [ends,List.flatMap_map]
theorem QN(o:bP)(w:aj):(xH o w).1=w.1:=by grind [xH]
theorem Tl(o:bP)(w:an):(tg o w).2.1=w.2.1:=by grind [tg]
theorem Wf.De{d:ar}(h:Wf d){x:ID}(hx:ba d.2 x=none)(s:Int):(x,s)∉av d.1:=fun k=>Fy hx s (h.pd.mem_iff.1 k)
theorem Wf.mn{d:ar}(h:Wf d){x:ID}(hx:(ba d.2 x).isSome=true){s:Int}(hs:s=0∨s=1):(x,s)∈av d.1:=h.pd.mem_iff.2 (Fz hx hs)
theorem Wf.A6{s:StateT}(h:Wf s.1){o:bP}(hm:dV o=0)(hk:7≤o.1):Wf (A6 s o).1.1:=by
 have hk8:=(FA hm).2;unfold Vs.A6
 split
 ·refine⟨h.sv.map (QL o),h.se.map (QN o),by simp;exact h.nv,by simp;exact h.ne,fun v hv=>?_,fun e he=>?_,?_⟩
  ·obtain⟨w,hw,rfl⟩:=acE.1 hv;have g:=h.gv w hw;unfold tg
   split
   ·split
    ·rename_i h7;exact⟨g.i,IB hm h7,g.a,g.t⟩
    ·exact⟨g.i,g.l,MI hm (by omega),g.t⟩
   ·exact g
  ·obtain⟨w,hw,rfl⟩:=acE.1 he;have g:=h.ge w hw;unfold xH
   split
   ·split
    ·rename_i h7;exact⟨g.i,IB hm h7,g.a⟩
    ·exact⟨g.i,g.l,MI hm (by omega)⟩
   ·exact g
  ·show(av (s.1.1.map (tg o))).Perm (ends (s.1.2.map (xH o)));rw[Tk (Tl o),WV (QN o)];exact h.pd
 ·exact Wf.zero
theorem su{s:StateT}{c:xV}(h:(dn s c).2.1=0):(cH s.1 c.1).isSome=true∧(dn s c).1.1=c.1:=by
 unfold dn at h ⊢
 grind
theorem zH{l:List an}{x y:ID}(r:List ag)(h:(aZ l x).isSome=true):(aZ (l.map (A4 y r)) x).isSome=true:=by
 grind [qK,uq]
theorem Wf.link{d:ar}(h:Wf d){x:ID}(hx:bQ x=true)(hn:ba d.2 x=none)(he:¬40≤d.2.length){a b:xV}(ha:(aZ d.1 a.1).isSome=true)(hb:(aZ d.1 b.1).isSome=true) :
  Wf (cS (cS (d.1,ib (x,(e0,0)) d.2) a (x,0)) b (x,1)):=by
 have hrw:Rw ((d.1,ib (x,(e0,0)) d.2):ar).1:=h.rw;obtain⟨va,hva⟩:=acK.1 ha;have h0:=h.De hn 0;have h1:=h.De hn 1;obtain⟨p1,q1⟩:=wM (c:=a) (x:=(x,0)) hrw hva h0;obtain⟨vb,hvb⟩:=acK.1 (zH (x:=b.1) (y:=a.1) (uk (dd (d.1,ib (x,(e0,0)) d.2) a.1) a.2 (x,0)) hb);have YD:(x,1)∉av (cS (d.1,ib (x,(e0,0)) d.2) a (x,0)).1:=fun k=>by
  grind
 obtain⟨p2,q2⟩:=wM (c:=b) (x:=(x,1)) q1 hvb YD;refine⟨q2.s,Bc (x,(e0,0)) h.se hn,?_,?_,Ck (Ck h.gv _ _) _ _,fun e hem=>?_,?_⟩
 ·unfold cS;rw[jL,jL];exact h.nv
 ·show(ib (x,(e0,0)) d.2).length≤40;rw[l8];omega
 ·rcases qG.1 (show e∈ib (x,(e0,0)) d.2 from hem) with rfl|hem
  ·exact⟨hx,vH,vI⟩
  ·exact h.ge e hem
 ·show(av _).Perm (ends (ib (x,(e0,0)) d.2));refine(p2.trans (List.Perm.cons _ p1)).trans (List.Perm.trans ?_ (Iy (x,(e0,0)) d.2).symm);exact(List.Perm.swap _ _ _).trans (List.Perm.cons _ (List.Perm.cons _ h.pd))
theorem Wf.cut{d:ar}(h:Wf d){x:ID}(hx:(ba d.2 x).isSome=true):Wf (bj (aN (aN d (x,0)) (x,1)) zI x):=by
 have h0:=h.mn hx (s:=0) (.inl rfl);have h1:=h.mn hx (s:=1) (.inr rfl);obtain⟨p1,q1⟩:=gk h.rw h0;have YD:(x,1)∈av (aN d (x,0)).1:=by
  grind
 obtain⟨p2,q2⟩:=gk q1 YD;have MK:=lk (lk h.gv (x,0)) (x,1);have hdz:(bj (aN (aN d (x,0)) (x,1)) zI x).1=(aN (aN d (x,0)) (x,1)).1:=zF MK;refine⟨by rw[hdz];exact q2.s,xI h.se,?_,?_,by simp_all,fun e he=>h.ge e ?_,?_⟩
 ·rw[hdz];unfold aN;rw[jL,jL];exact h.nv
 ·exact acR (adS _ _) h.ne
 ·exact(aeC.1 (show e∈d.2.filter fun w=>decide (w.1≠x) from he)).1
 ·rw[hdz];show(av (aN (aN d (x,0)) (x,1)).1).Perm (ends (fw d.2 x));have p3:((x,0)::(x,1)::av (aN (aN d (x,0)) (x,1)).1).Perm ((x,0)::(x,1)::ends (fw d.2 x)) :=((p1.trans (List.Perm.cons _ p2)).symm.trans h.pd).trans (Fv h.se hx);simp_all
theorem iP{x:ag}(h:x.2=0∨x.2=1):(aw x).1=x.1∧((x.2=0∧(aw x).2=1)∨(x.2=1∧(aw x).2=0)):=by
 refine⟨rfl,?_⟩;unfold aw;rcases h with h|h
 ·exact .inl ⟨h,by rw[h];rfl⟩
 ·exact .inr ⟨h,by rw[h];rfl⟩
theorem ML{x:ag}(h:x.2=0∨x.2=1)(l:List ag):(x::aw x::l).Perm ((x.1,0)::(x.1,1)::l):=by
 obtain⟨h1,h2⟩:=iP h
 grind
theorem MM{n:Int}(h0:0≤n)(h3:n≤3):(IntKind.wrap .i64 (1-Int.tmod n 2)=0∨IntKind.wrap .i64 (1-Int.tmod n 2)=1)∧(IntKind.wrap .i64 (Int.tdiv n 2)=0∨IntKind.wrap .i64 (Int.tdiv n 2)=1):=by
 have:n=0∨n=1∨n=2∨n=3:=by omega
 rcases this with rfl|rfl|rfl|rfl<;>exact⟨by decide,by decide⟩
theorem Wf.split{d:ar}(h:Wf d){m k:ag}{v:ID}(hv:bQ v=true)(hk:bQ k.1=true)(Af:m.2=0∨m.2=1)(sL:k.2=0∨k.2=1)(hm:(ba d.2 m.1).isSome=true)(ND:aZ d.1 v=none)(hnk:ba d.2 k.1=none) (T8:¬24≤d.1.length) (hle:¬40≤d.2.length):Wf (im (v,(cZ [m,k],(e0,0))) (aU d m (aw k)).1,ib (k.1,(e0,0)) (aU d m (aw k)).2):=by
 have Ox:m∈av d.1:=h.mn hm Af;have P7:aw k∉av d.1:=h.De hnk _;obtain⟨p1,q1⟩:=sq h.rw Ox P7;have ahB:aZ (aU d m (aw k)).1 v=none:=by
  grind [aU,Vs.cE,qK,uq]
 refine⟨qJ (v,(cZ [m,k],(e0,0))) q1.s ahB,Bc (k.1,(e0,0)) h.se hnk,?_,?_,fun w hw=>?_,fun e he=>?_,?_⟩
 ·grind [im,aU,aw,iD,jL]
 ·show(ib _ d.2).length≤40;rw[l8];omega
 ·rcases og.1 hw with rfl|hw
  ·exact⟨hv,vH,vI,vF _⟩
  ·exact xL h.gv _ _ w hw
 ·rcases qG.1 (show e∈ib (k.1,(e0,0)) d.2 from he) with rfl|he
  ·exact⟨hk,vH,vI⟩
  ·exact h.ge e he
 ·show(av (im _ _)).Perm (ends (ib (k.1,(e0,0)) d.2));refine(Fu _ _).trans (List.Perm.trans ?_ (Iy (k.1,(e0,0)) d.2).symm);refine(ad1 _ (qN [m,k])).trans ?_;show(m::k::av (aU d m (aw k)).1).Perm _;refine(List.Perm.swap k m _).trans ((List.Perm.cons k p1.symm).trans ?_);refine(ML sL _).trans ?_;exact List.Perm.cons _ (List.Perm.cons _ h.pd)
theorem Wf.WW{d:ar}(h:Wf d){v:an}(hv:v∈d.1)(hr:v.2.1=[]):Wf (bj d v.1 zI):=by
 obtain⟨a,b,h1,_,h2,_⟩:=uy h.sv hv;refine⟨sj h.sv,?_,acR (adS _ _) h.nv,acR (adS _ _) h.ne,fun w hw=>h.gv w ?_,fun e he=>h.ge e ?_,?_⟩
 ·exact xI h.se
 ·exact(aeC.1 (show w∈d.1.filter fun w=>decide (w.1≠v.1) from hw)).1
 ·exact(aeC.1 (show e∈d.2.filter fun w=>decide (w.1≠zI) from he)).1
 ·show(av (gu d.1 v.1)).Perm (ends (fw d.2 zI));rw[h2,zB h.ge];have p:=lg a b v;rw[←h1,hr,List.nil_append]at p;exact p.symm.trans h.pd
theorem Wf.adA{d:ar}(h:Wf d){v:an}{a b:ag}(hv:v∈d.1)(hr:v.2.1.Perm [a,b])(Fc:a.1≠b.1):Wf (bj (aU (bj d v.1 zI) (aw b) a) zI b.1):=by
 obtain⟨p,q,h1,_,h2,_⟩:=uy h.sv hv;have pd:(av d.1).Perm (a::b::av (p++q)):=by have:=(lg p q v).trans (ad1 _ hr);simp_all
 have WX:bj d v.1 zI=(p++q,d.2):=by unfold bj;rw[h2,zB h.ge]
 have GL:=pd.nodup_iff.1 h.rw.n;have hbm:b∈ends d.2:=h.pd.mem_iff.1 (pd.mem_iff.2 (by simp));obtain⟨e,he,he1,KI⟩:=cy.1 hbm;have Ek:(ba d.2 b.1).isSome=true:=by
  grind [ba,List.find?_isSome]
 obtain⟨_,ho⟩:=iP KI;have adB:aw b∈av (p++q):=by
  have h3:aw b∈av d.1:=h.mn (s:=(aw b).2) Ek (by omega);rcases abq.1 (pd.mem_iff.1 h3) with k|k
  ·simp_all
  rcases abq.1 k with k|k
  ·have:=congrArg Prod.snd k;omega
  ·exact k
 have ZW:Rw (p++q):=by refine⟨?_,(acC.1 (acC.1 GL).2).2⟩;rw[←h2];exact sj h.sv
 have ha:a∉av (p++q):=fun k=>(acC.1 GL).1 (abg _ k);rw[WX];obtain⟨p1,q1⟩:=sq (d:=(p++q,d.2)) ZW adB ha;have MK:∀w∈(aU (p++q,d.2) (aw b) a).1,GV w:=by
  refine xL (d:=(p++q,d.2)) (fun w hw=>h.gv w ?_) _ _
  grind
 have hdz:(bj (aU (p++q,d.2) (aw b) a) zI b.1).1=(aU (p++q,d.2) (aw b) a).1:=zF MK;refine⟨by rw[hdz];exact q1.s,xI h.se,?_,acR (adS _ _) h.ne,by simp_all,fun f hf=>h.ge f ?_,?_⟩
 ·rw[hdz];unfold aU;rw[jL];have:=h.nv
  grind
 ·exact(aeC.1 (show f∈d.2.filter fun w=>decide (w.1≠b.1) from hf)).1
 ·rw[hdz];show(av (aU (p++q,d.2) (aw b) a).1).Perm (ends (fw d.2 b.1));have p3:(b::aw b::av (aU (p++q,d.2) (aw b) a).1).Perm (b::aw b::ends (fw d.2 b.1)):=by refine List.Perm.trans (List.Perm.cons b p1.symm) ?_;refine(List.Perm.swap a b _).trans (pd.symm.trans (h.pd.trans ?_));exact(Fv h.se Ek).trans (ML KI _).symm
  simp_all
theorem fN.one{s:StateT}(h:fN s)(o:bP):fN (qI s o).1:=by
 unfold qI
 split
 ·exact fN.zero
 rename_i hm;have hm:dV o=0:=Classical.byContradiction fun k=>hm k;have bM:=WU hm
 split
 ·unfold sW
  split;· exact fN.zero
  split;· exact fN.zero
  rename_i h1 h2;have hn:aZ s.1.1 (bK o)=none:=by simpa[cH] using h1
  refine⟨⟨qJ _ h.d.sv hn,h.d.se,by grind [im,iD],h.d.ne,fun w hw=>?_,h.d.ge,?_⟩,h.g,h.n⟩
  ·rcases og.1 hw with rfl|hw
   ·exact⟨bM,vH,vI,rfl⟩
   ·exact h.d.gv w hw
  ·exact(Fu _ _).trans h.d.pd
 split
 ·unfold Ci
  cases hv:cH s.1 (bK o) with
  |none=>exact fN.zero
  |some v =>
   simp only
   split
   ·exact fN.zero
   ·rename_i hr;have:=h.d.WW (gZ hv) (by simpa using hr);rw[l9 hv]at this;exact⟨this,h.g,h.n⟩
 split
 ·unfold uo
  split;· exact fN.zero
  split;· exact fN.zero
  split;· exact fN.zero
  split;· exact fN.zero
  split;· exact fN.zero
  rename_i h1 h2 h3 h4 h5;have hn:ba s.1.2 (bK o)=none:=by simpa[oF] using h1
  obtain⟨ca,ca2⟩:=su (s:=s) (c:=oA o) (Classical.byContradiction fun k=>h3 k);obtain⟨cb,cb2⟩:=su (s:=s) (c:=oB o) (Classical.byContradiction fun k=>h4 k);refine⟨?_,h.g,h.n⟩;unfold qH;refine h.d.link bM hn h2 (by rw[ca2];exact ca) ?_
  split
  ·exact cb
  ·rw[cb2];exact cb
 split
 ·unfold MC
  split;· exact fN.zero
  rename_i h1;have h2:=ll h.g h.n ((bK o,0),fL s.1 (bK o,0));exact fN.add h2.1 h2.2 (h.d.cut (Bi h1)) _
 split
 ·rename_i hk;unfold pQ
  split;· exact fN.zero
  split;· exact fN.zero
  split;· exact fN.zero
  split;· exact fN.zero
  split;· exact fN.zero
  rename_i h1 h2 h3 h4 h5;obtain⟨m1,m2,m3,m4⟩:=IA hm hk;obtain⟨s1,s2⟩:=MM m3 m4;refine⟨?_,h.g,h.n⟩;exact h.d.split (m:=ZR o) (k:=YV o) m1 m2 s1 s2 (Bi h1) (by simpa[cH] using h2) (by simpa[oF,YV] using h3) h4 h5
 split
 ·unfold pj
  split
  ·exact fN.zero
  ·rename_i v hv
   split
   ·rename_i r0 r1 hr;have hvm:=gZ hv;have hvi:=l9 hv;have key:∀a b:ag,v.2.1.Perm [a,b]→a.1≠b.1→fN (Ta s o a b,NO s.2 a b):=fun a b hp Fc=>by have h2:=ll h.g h.n ((b.1,0),ti a b 0);have:=h.d.adA hvm hp Fc;rw[hvi]at this;exact fN.add h2.1 h2.2 this _
    grind [mO,fN.zero]
   ·exact fN.zero
 ·rename_i k1 k2 k3 k4 k5 k6;have hk:=FA hm;have:=h.d.A6 hm (by omega);refine⟨this,?_,?_⟩
  ·unfold A6;split
   ·exact h.g
   ·exact List.Pairwise.nil
  ·unfold A6;split
   ·exact h.n
   ·simp[zS]
theorem fN.go:∀(l:List bP) {s:StateT},fN s→fN (Kc l s).1
 |[],s,h=>h
 |o::r,s,h=>by
  unfold Kc
  split
  ·exact fN.zero
  ·exact fN.go r (h.one o)
theorem fN.apply{s:StateT}(h:fN s)(l:List bP):fN (eV s l).1:=by
 grind [eV,fN.zero,fN.go]
theorem fN.try{s:StateT}(h:fN s)(l:List bP):fN (kB s l):=by
 unfold kB
 split
 ·exact h
 ·exact h.apply l
theorem fN.reach:∀(m:Nat) (l:List (List bP)) {s:StateT},fN s→fN (oo m l s)
 |0,_,s,h=>by simpa[oo] using h
 |m+1,[],s,h=>h
 |m+1,l::r,s,h=>by rw[oo];exact fN.reach m r (h.try _)
theorem fN.QK(l:List (List bP)):fN (Fl l):=fN.reach 30 l fN.zero
end Go.Vs
