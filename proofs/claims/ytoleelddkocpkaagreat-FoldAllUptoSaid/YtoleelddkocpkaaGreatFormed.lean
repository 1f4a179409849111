/- Diagrams that are well formed -/
import Derived.Test.YtoleelddkocpkaaGreatRings
set_option linter.unusedVariables false
set_option linter.unusedSimpArgs false
namespace Go.Vs
open Go.Proofs
theorem kB(row:List ae):(cc row).Perm row:=by
 grind [cc,E1,List.Perm.of_eq,List.take_append_drop]
theorem RE{row:List ae}(h:0<row.length)(hl:∀j,(hj:j<row.length)→mf row[j] row[0]=false):fM row row 0 0=0:=by
 grind [nS,we,fM,qO]
theorem VF(row:List ae):E1 row 0=row:=by unfold E1;simp
theorem um(row:List ae):cc (cc row)=cc row:=by
 by_cases h0:row.length=0
 ·have:row=[]:=by simpa using h0
  subst this;rfl
 have hp:0<row.length:=by omega
 have hm:=nS row row 0 0 hp (by omega);have hp2:0<(cc row).length:=by grind [jy]
 have h1:(cc row)[0]=row.getD (fM row row 0 0) zD:=by have:=O7 (row:=row) (k:=fM row row 0 0) (i:=0) (by omega) hp;rw[Nat.add_zero,Nat.mod_eq_of_lt hm,List.getElem?_eq_getElem hm]at this;rw[qO hm];exact(abJ.1 this).2
 have h2:fM (cc row) (cc row) 0 0=0:=by
  grind [RE,cc,pH,List.getElem_mem,List.getElem_of_mem,we]
 grind [cc,VF]
theorem RF(row:List ae)(a d:ae):cc (nu row a d)=nu row a d:=by grind [nu,um]
theorem RG(row:List ae)(d:ae):cc (iL row d)=iL row d:=um _
theorem Nn(row:List ae)(a d:ae):cc (fm row a d)=fm row a d:=um _
theorem RH{row:List ae}{d:ae}(a:ae)(h:d∉row):(nu row a d).Perm (d::row):=by
 unfold nu;rw[if_neg h]
 grind [kB,trans,List.take_append_drop]
theorem uo{row:List ae}{d:ae}(h:d∈row)(hn:row.Nodup):row.Perm (d::iL row d):=by
 obtain⟨k,_,h2,_⟩:=eu h;obtain⟨h3,h4⟩:=abJ.1 h2;unfold iL;rw[zK hn h2];refine List.Perm.trans ?_ (List.Perm.cons d (kB _).symm)
 grind [List.take_append_drop,List.drop_eq_getElem_cons,List.perm_middle]
theorem No{row:List ae}{cH d:ae}(h:cH∈row)(hd:d∉row):(d::row).Perm (cH::fm row cH d):=by
 obtain⟨k,h1,h2,_⟩:=eu h;obtain⟨h3,h4⟩:=abJ.1 h2;unfold fm;rw[if_pos ⟨h,hd⟩,h1,Int.toNat_natCast];refine List.Perm.trans ?_ (List.Perm.cons cH (kB _).symm)
 grind
def aq(l:List ai):List ae:=l.flatMap fun v=>v.2.1
def ends(l:List ak):List ae:=l.flatMap fun e=>[(e.1,0),(e.1,1)]
theorem dR(v:ai)(l:List ai):aq (v::l)=v.2.1++aq l:=List.flatMap_cons
theorem kC(a b:List ai):aq (a++b)=aq a++aq b:=List.flatMap_append
theorem jB(a b:List ai)(v:ai):(aq (a++v::b)).Perm (v.2.1++aq (a++b)):=by
 grind [kC,dR,List.append_assoc,List.Perm.append_right,List.perm_append_comm]
theorem aU{x:ae}{l:List ai}:x∈aq l↔∃v∈l,x∈v.2.1:=List.mem_flatMap
theorem gi(e:ak)(l:List ak):ends (e::l)=(e.1,0)::(e.1,1)::ends l:=by rfl
theorem Lq(a b:List ak):ends (a++b)=ends a++ends b:=List.flatMap_append
theorem c7{x:ae}{l:List ak}:x∈ends l↔∃e∈l,e.1=x.1∧(x.2=0∨x.2=1):=by
 unfold ends
 grind
theorem ni:∀{l:List ak},dp l→(ends l).Nodup
 |[],_=>List.nodup_nil
 |e::r,h=>by
  have bw:∀s:Int,(e.1,s)∉ends r:=fun s hs=>by obtain⟨f,hf,h1,_⟩:=c7.1 hs;have:=acZ h hf;simp only at h1;rw[h1,b6]at this;cases this
  rw[gi];refine acg.2 ⟨?_,acg.2 ⟨bw 1,ni h.of_cons⟩⟩;rw[List.mem_cons];rintro(h1|h1)
  ·cases h1
  ·exact bw 0 h1
theorem G8(e:ak):∀l:List ak,(dB e l).Perm (e::l)
 |[]=>adS _
 |w::r=>by
  unfold dB
  split
  ·exact adS _
  ·exact(List.Perm.cons w (G8 e r)).trans (List.Perm.swap e w r)
theorem G9(e:ai):∀l:List ai,(cW e l).Perm (e::l)
 |[]=>adS _
 |w::r=>by
  unfold cW
  split
  ·exact adS _
  ·exact(List.Perm.cons w (G9 e r)).trans (List.Perm.swap e w r)
theorem Hc(e:ak)(l:List ak):(ends (dB e l)).Perm ((e.1,0)::(e.1,1)::ends l):=by rw[←gi];exact List.Perm.flatMap_right _ (G8 e l)
theorem wg(v:ai)(l:List ai):(aq (cW v l)).Perm (v.2.1++aq l):=by rw[←dR];exact List.Perm.flatMap_right _ (G9 v l)
theorem Ec{l:List ak}{x:ID}(hs:dp l)(h:(aY l x).isSome=true):(ends l).Perm ((x,0)::(x,1)::ends (c6 l x)):=by
 obtain⟨e,he⟩:=acV.1 h;obtain⟨h3,h4⟩:=abJ.1 (nh hs he);rw[zF hs h]
 conv=>lhs;rw[←List.take_append_drop (cx l x) l,List.drop_eq_getElem_cons h3,h4]
 rw[←sO he,←gi];exact List.Perm.flatMap_right _ List.perm_middle
theorem jV{l:List ai}{v:ai}(hs:bZ l)(h:v∈l):aT l v.1=some v:=by
 have hf:(aT l v.1).isSome=true:=by
  grind [aT,List.find?_isSome]
 obtain⟨u,hu⟩:=acV.1 hf;have h1:=di hs hu;obtain⟨k,hk,he⟩:=adv h;have h2:l[k]? = some v:=by simp_all
 rw[kA hs h2 rfl,h1]at h2;simp_all
theorem nj{l:List ai}{v:ai}(hs:bZ l)(h:v∈l):∃a b,l=a++v::b∧(∀u∈a++b,u.1≠v.1)∧cV l v.1=a++b∧∀r,l.map (uf v.1 r)=a++(v.1,(r,v.2.2))::b:=by
 obtain⟨a,b,rfl⟩:=ac7 h;have hp:=List.pairwise_append.1 hs;have hb:=List.pairwise_cons.1 hp.2.1;have bw:∀u∈a++b,u.1≠v.1:=fun u hu e=>by
  rcases acS.1 hu with hu|hu
  ·have:=hp.2.2 u hu v (by simp);rw[e,b6]at this;cases this
  ·have:=hb.1 u hu;rw[e,b6]at this;cases this
 have hm:∀(r:List ae) (c:List ai),(∀u∈c,u.1≠v.1)→c.map (uf v.1 r)=c:=fun r c hc=>by
  conv=>rhs;rw[←List.map_id c]
  exact List.map_congr_left fun u hu=>by unfold uf;rw[if_neg (hc u hu)];rfl
 have hd:∀c:List ai,(∀u∈c,u.1≠v.1)→cV c v.1=c:=fun c hc=>by unfold cV;rw[List.filter_eq_self];intro u hu;simpa using hc u hu
 refine⟨a,b,rfl,bw,?_,fun r=>?_⟩
 ·unfold cV;rw[List.filter_append,List.filter_cons_of_neg (by simp)];have h1:=hd a (fun u hu=>bw u (ab1 _ hu));have h2:=hd b (fun u hu=>bw u (abV _ hu));unfold cV at h1 h2;rw[h1,h2]
 ·rw[List.map_append,List.map_cons,hm r a (fun u hu=>bw u (List.mem_append_left _ hu)),hm r b (fun u hu=>bw u (List.mem_append_right _ hu))];unfold uf;rw[if_pos rfl]
structure Rw(l:List ai):Prop where
 s:bZ l
 n:(aq l).Nodup
theorem Rw.ring{l:List ai}(h:Rw l){v:ai}(hv:v∈l):v.2.1.Nodup:=by obtain⟨a,b,rfl,_⟩:=nj h.s hv;exact(ada.1 ((jB a b v).nodup_iff.1 h.n)).1
theorem Rw.one{l:List ai}(h:Rw l){v w:ai}{x:ae}(hv:v∈l)(hw:w∈l)(hx:x∈v.2.1)(hy:x∈w.2.1):w=v:=by
 obtain⟨a,b,rfl,_⟩:=nj h.s hv;have hn:=ada.1 ((jB a b v).nodup_iff.1 h.n);have:w∈a++v::b:=hw;rw[List.mem_append,List.mem_cons]at this;rcases this with k|k|k
 ·exact absurd rfl (hn.2.2 x hx x (aU.2 ⟨w,ab1 _ k,hy⟩))
 ·exact k
 ·exact absurd rfl (hn.2.2 x hx x (aU.2 ⟨w,abV _ k,hy⟩))
theorem eL{l:List ai}(h:Rw l){v:ai}{x:ae}(hv:v∈l)(hx:x∈v.2.1):E2 l x=some v.1:=by
 have hf:(l.find? fun u=>decide (x∈u.2.1)).isSome=true:=by grind
 obtain⟨u,hu⟩:=acV.1 hf;have h1:=ac4 hu;have h2:x∈u.2.1:=by grind
 unfold E2;rw[hu,h.one hv h1 hx h2];rfl
theorem Lr{l:List ai}{x:ae}(h:x∉aq l):E2 l x=none:=by
 grind [E2,decide,List.find?_eq_none,aU]
theorem kD{d:an}(h:bZ d.1){v:ai}(hv:v∈d.1):bI d v.1=v.2.1:=by
 grind [bI,br,jV]
theorem kE{d:an}(h:Rw d.1){v:ai}{x:ae}(hv:v∈d.1)(hx:x∈v.2.1):aJ d x=cp d v.1 (iL v.2.1 x):=by unfold aJ cg;rw[eL h hv hx];show cp d v.1 (iL (bI d v.1) x)=_;rw[kD h.s hv]
theorem qP{d:an}(h:Rw d.1){v:ai}{x:ae}(y:ae)(hv:v∈d.1)(hx:x∈v.2.1):aE d x y=cp d v.1 (fm v.2.1 x y):=by unfold aE cg;rw[eL h hv hx];show cp d v.1 (fm (bI d v.1) x y)=_;rw[kD h.s hv]
theorem bZ.re{l:List ai}(h:bZ l)(x:ID)(r:List ae):bZ (l.map (uf x r)):=h.map (sN x r)
theorem Ed{l:List ai}{v:ai}(hs:bZ l)(hv:v∈l):∃rest,(aq l).Perm (v.2.1++rest)∧∀r,(aq (l.map (uf v.1 r))).Perm (r++rest):=by
 grind [nj,aq,jB]
theorem fN{d:an}(h:Rw d.1){x:ae}(hx:x∈aq d.1):(aq d.1).Perm (x::aq (aJ d x).1)∧Rw (aJ d x).1:=by obtain⟨v,hv,oG⟩:=aU.1 hx;obtain⟨rest,h1,h2⟩:=Ed h.s hv;rw[kE h hv oG];have p:(aq d.1).Perm (x::aq (cp d v.1 (iL v.2.1 x)).1) :=h1.trans ((ade rest (uo oG (h.ring hv))).trans (List.Perm.cons x (h2 _).symm));exact⟨p,h.s.re _ _,(acg.1 (p.nodup_iff.1 h.n)).2⟩
theorem jW{d:an}(h:Rw d.1){x y:ae}(hx:x∈aq d.1)(hy:y∉aq d.1):(y::aq d.1).Perm (x::aq (aE d x y).1)∧Rw (aE d x y).1:=by obtain⟨v,hv,oG⟩:=aU.1 hx;obtain⟨rest,h1,h2⟩:=Ed h.s hv;rw[qP h y hv oG];have XK:y∉v.2.1:=fun k=>hy (aU.2 ⟨v,hv,k⟩);have p:(y::aq d.1).Perm (x::aq (cp d v.1 (fm v.2.1 x y)).1) :=(List.Perm.cons y h1).trans ((ade rest (No oG XK)).trans (List.Perm.cons x (h2 _).symm));refine⟨p,h.s.re _ _,?_⟩;exact(acg.1 (p.nodup_iff.1 (acg.2 ⟨hy,h.n⟩))).2
theorem vn{d:an}(h:Rw d.1){c:rj}{x:ae}{v:ai}(hv:aT d.1 c.1=some v)(hx:x∉aq d.1):(aq (bU d c x).1).Perm (x::aq d.1)∧Rw (bU d c x).1:=by
 have XL:=ed hv;have hvi:=iQ hv;obtain⟨rest,h1,h2⟩:=Ed h.s XL;have oG:x∉v.2.1:=fun k=>hx (aU.2 ⟨v,XL,k⟩);have e:bU d c x=cp d v.1 (nu v.2.1 c.2 x):=by unfold bU;rw[←hvi,kD h.s XL]
 rw[e];have p:(aq (cp d v.1 (nu v.2.1 c.2 x)).1).Perm (x::aq d.1) :=(h2 _).trans ((ade rest (RH c.2 oG)).trans (List.Perm.cons x h1.symm));exact⟨p,h.s.re _ _,p.nodup_iff.2 (acg.2 ⟨hx,h.n⟩)⟩
structure GV(v:ai):Prop where
 i:cr v.1=true
 l:iM v.2.2.1=true
 a:ic v.2.2.2=true
 t:cc v.2.1=v.2.1
structure GE(e:ak):Prop where
 i:cr e.1=true
 l:iM e.2.1=true
 a:ic e.2.2=true
structure Wf(d:an):Prop where
 sv:bZ d.1
 se:dp d.2
 nv:d.1.length≤24
 ne:d.2.length≤40
 gv:∀v∈d.1,GV v
 ge:∀e∈d.2,GE e
 pd:(aq d.1).Perm (ends d.2)
theorem Wf.rw{d:an}(h:Wf d):Rw d.1:=⟨h.sv,h.pd.nodup_iff.2 (ni h.se)⟩
theorem Wf.zero:Wf zS.1:=⟨List.Pairwise.nil,List.Pairwise.nil,by simp[zS],by simp[zS],by simp[zS],by simp[zS],adS _⟩
theorem GV.re{l:List ai}(h:∀v∈l,GV v)(x:ID){r:List ae}(hr:cc r=r):∀v∈l.map (uf x r),GV v:=fun v hv=>by
 obtain⟨w,hw,rfl⟩:=acU.1 hv;have g:=h w hw;unfold uf
 split
 ·exact⟨g.i,g.l,g.a,hr⟩
 ·exact g
theorem kF{d:an}(h:∀v∈d.1,GV v)(x:ae):∀v∈(aJ d x).1,GV v:=GV.re h _ (RG _ _)
theorem qQ{d:an}(h:∀v∈d.1,GV v)(x y:ae):∀v∈(aE d x y).1,GV v:=GV.re h _ (Nn _ _ _)
theorem AW{d:an}(h:∀v∈d.1,GV v)(c:rj)(y:ae):∀v∈(bU d c y).1,GV v:=GV.re h _ (RF _ _ _)
theorem jr(d:an)(x:ID)(r:List ae):(cp d x r).1.length=d.1.length:=by unfold cp;simp
theorem Hd:cr zI=false:=by decide
theorem qR{l:List ak}(h:∀e∈l,GE e):c6 l zI=l:=by
 unfold c6;rw[List.filter_eq_self];intro e he;have:=(h e he).i
 grind [Hd]
theorem uq{l:List ai}(h:∀e∈l,GV e):cV l zI=l:=by
 unfold cV;rw[List.filter_eq_self];intro e he;have:=(h e he).i
 grind [Hd]
theorem uu:iM e0=true:=by decide
theorem ux:ic 0=true:=by decide
theorem Ee{l:List ak}{x:ID}(h:aY l x=none)(s:Int):(x,s)∉ends l:=fun k=>by
 grind [c7,aY,List.find?_eq_none]
theorem Ef{l:List ak}{x:ID}(h:(aY l x).isSome=true){s:Int}(hs:s=0∨s=1):(x,s)∈ends l:=by
 obtain⟨e,he⟩:=acV.1 h
 grind [c7,G6,sO]
theorem VG{o:bj}(h:cE o=0):cr (bh o)=true:=by
 grind [cE]
theorem Eg{o:bj}(h:cE o=0):1≤o.1∧o.1≤8:=by
 grind [cE]
theorem zL{o:bj}(h:cE o=0)(hk:o.1=5):cr (fi o)=true∧cr (bB o)=true∧0≤oN o∧oN o≤3:=by
 unfold cE at h
 grind
theorem Ls{o:bj}(h:cE o=0)(hk:o.1=8):ic (oN o)=true:=by
 unfold cE at h
 grind
theorem He{o:bj}(h:cE o=0)(hk:o.1=7):iM (pJ o)=true:=by
 unfold cE at h
 grind
def jC(l:List aB):Prop:=l.Pairwise fun a b=>mf a.1 b.1=true
theorem qS{a b:ae}:pC a b≤0↔a=b∨mf a b=true:=by
 unfold pC
 grind
theorem xY{q g:aB}:∀{l:List aB},q∈lX g l→q=g∨(q∈l∧q.1≠g.1)
 |[],h=>by simp[lX]at h;exact .inl h
 |e::r,h=>by
  unfold lX at h
  split at h
  ·rcases abL.1 h with h|h
   ·exact .inl h
   ·unfold ov at h;rw[List.mem_filter]at h;exact .inr ⟨h.1,by simpa using h.2⟩
  ·split at h
   ·rename_i bw;rcases abL.1 h with rfl|h
    ·exact .inr ⟨aco ..,bw⟩
    ·rcases xY h with h|⟨h,h2⟩
     ·exact .inl h
     ·exact .inr ⟨abC _ h,h2⟩
   ·rcases xY h with h|⟨h,h2⟩
    ·exact .inl h
    ·exact .inr ⟨abC _ h,h2⟩
theorem jC.add(g:aB):∀{l:List aB},jC l→jC (lX g l)
 |[],_=>List.pairwise_singleton _ _
 |e::r,h=>by
  have hr:∀{q:aB},q∈r→mf e.1 q.1=true:=fun {q} hq=>acZ h hq;unfold lX
  split
  ·rename_i ho;refine List.Pairwise.cons (fun q hq=>?_) (h.filter _);unfold ov at hq;rw[List.mem_filter]at hq;have bw:q.1≠g.1:=by simp_all
   have hle:e.1=q.1∨mf e.1 q.1=true:=by
    grind
   grind [qS,absurd,jA]
  ·rename_i ho;have Ol:mf e.1 g.1=true:=by
    grind [mf,qS,zH]
   have hs:=jC.add g (adT h)
   split
   ·refine List.Pairwise.cons (fun q hq=>?_) hs;rcases xY hq with rfl|⟨hq,_⟩
    ·exact Ol
    ·exact hr hq
   ·exact hs
theorem qT(e:aB)(r:List aB)(x:ae):g8 (e::r) x=if e.1=x then some e.2 else g8 r x:=by
 unfold g8;rw[List.find?_cons];by_cases h:e.1=x
 ·simp[h]
 ·simp[h]
theorem uy{g:aB}:∀{l:List aB},(∀q∈l,q.1≠g.1)→ov g l=l:=fun {l} h=>by
 grind [ov,List.filter_eq_self]
theorem Lt(g:aB):∀{l:List aB},jC l→(lX g l).length=if(g8 l g.1).isSome=true then l.length else l.length+1
 |[],_=>rfl
 |e::r,h=>by
  have hr:∀{q:aB},q∈r→mf e.1 q.1=true:=fun {q} hq=>acZ h hq;have ih:=Lt g (adT h);unfold lX
  split
  ·rename_i ho;rcases qS.1 ho with ho|ho
   ·have h1:ov g (e::r)=r:=by
     have:ov g (e::r)=ov g r:=by grind [ov,List.filter_cons_of_neg]
     grind [uy,eJ]
    simp_all [qT,if_pos]
   ·have h2:∀q∈e::r,q.1≠g.1:=fun q hq k=>by
     have:mf g.1 q.1=true:=by
      rcases abL.1 hq with rfl|hq
      ·exact ho
      grind [jA]
     grind [eJ]
    grind [g8,List.find?,decide,List.find?_eq_none,uy]
  ·rename_i ho;have bw:e.1≠g.1:=fun k=>ho (qS.2 (.inl k.symm));rw[if_pos bw,qT,if_neg bw]
   grind
theorem kG{l:List aB}(h:jC l)(hn:l.length≤400)(g:aB):jC (bS l g)∧(bS l g).length≤400:=by
 grind [bS,jC.add,Lt,absurd]
theorem pP{α:Type}{o:Option α}(h:¬o.isSome=false):o.isSome=true:=by grind
structure dy(s:StateT):Prop where
 d:Wf s.1
 g:jC s.2
 n:s.2.length≤400
theorem dy.zero:dy zS:=⟨Wf.zero,List.Pairwise.nil,by simp[zS]⟩
theorem dy.add{l:List aB}(h:jC l)(hn:l.length≤400){d:an}(hd:Wf d)(g:aB):dy (d,bS l g):=⟨hd,(kG h hn g).1,(kG h hn g).2⟩
theorem RI{f:ai→ai}(hf:∀v,(f v).2.1=v.2.1)(l:List ai):aq (l.map f)=aq l:=by
 grind [aq,List.flatMap_map]
theorem VH{f:ak→ak}(hf:∀v,(f v).1=v.1)(l:List ak):ends (l.map f)=ends l:=by
 grind [ends,List.flatMap_map]
theorem Pd(o:bj)(w:ak):(jR o w).1=w.1:=by grind [jR]
theorem RJ(o:bj)(w:ai):(iO o w).2.1=w.2.1:=by grind [iO]
theorem Wf.uz{d:an}(h:Wf d){x:ID}(hx:aY d.2 x=none)(s:Int):(x,s)∉aq d.1:=fun k=>Ee hx s (h.pd.mem_iff.1 k)
theorem Wf.kH{d:an}(h:Wf d){x:ID}(hx:(aY d.2 x).isSome=true){s:Int}(hs:s=0∨s=1):(x,s)∈aq d.1:=h.pd.mem_iff.2 (Ef hx hs)
theorem Wf.v7{s:StateT}(h:Wf s.1){o:bj}(hm:cE o=0)(hk:7≤o.1):Wf (v7 s o).1.1:=by
 have hk8:=(Eg hm).2;unfold Vs.v7
 split
 ·refine⟨h.sv.map (Pb o),h.se.map (Pd o),by simp;exact h.nv,by simp;exact h.ne,fun v hv=>?_,fun e he=>?_,?_⟩
  ·obtain⟨w,hw,rfl⟩:=acU.1 hv;have g:=h.gv w hw;unfold iO
   split
   ·split
    ·rename_i h7;exact⟨g.i,He hm h7,g.a,g.t⟩
    ·exact⟨g.i,g.l,Ls hm (by omega),g.t⟩
   ·exact g
  ·obtain⟨w,hw,rfl⟩:=acU.1 he;have g:=h.ge w hw;unfold jR
   split
   ·split
    ·rename_i h7;exact⟨g.i,He hm h7,g.a⟩
    ·exact⟨g.i,g.l,Ls hm (by omega)⟩
   ·exact g
  ·show(aq (s.1.1.map (iO o))).Perm (ends (s.1.2.map (jR o)));rw[RI (RJ o),VH (Pd o)];exact h.pd
 ·exact Wf.zero
theorem qU{s:StateT}{c:rj}(h:(bA s c).2.1=0):(br s.1 c.1).isSome=true∧(bA s c).1.1=c.1:=by
 unfold bA at h ⊢
 grind
theorem xZ{l:List ai}{x y:ID}(r:List ae)(h:(aT l x).isSome=true):(aT (l.map (uf y r)) x).isSome=true:=by
 grind [pN,sN]
theorem Wf.link{d:an}(h:Wf d){x:ID}(hx:cr x=true)(hn:aY d.2 x=none)(he:¬40≤d.2.length){a b:rj}(ha:(aT d.1 a.1).isSome=true)(hb:(aT d.1 b.1).isSome=true) :
  Wf (bU (bU (d.1,dB (x,(e0,0)) d.2) a (x,0)) b (x,1)):=by
 have hrw:Rw ((d.1,dB (x,(e0,0)) d.2):an).1:=h.rw;obtain⟨va,hva⟩:=acV.1 ha;have h0:=h.uz hn 0;have h1:=h.uz hn 1;obtain⟨p1,q1⟩:=vn (c:=a) (x:=(x,0)) hrw hva h0;obtain⟨vb,hvb⟩:=acV.1 (xZ (x:=b.1) (y:=a.1) (nu (bI (d.1,dB (x,(e0,0)) d.2) a.1) a.2 (x,0)) hb);have Xr:(x,1)∉aq (bU (d.1,dB (x,(e0,0)) d.2) a (x,0)).1:=fun k=>by
  grind
 obtain⟨p2,q2⟩:=vn (c:=b) (x:=(x,1)) q1 hvb Xr;refine⟨q2.s,zG (x,(e0,0)) h.se hn,?_,?_,AW (AW h.gv _ _) _ _,fun e hem=>?_,?_⟩
 ·unfold bU;rw[jr,jr];exact h.nv
 ·show(dB (x,(e0,0)) d.2).length≤40;rw[ly];omega
 ·rcases pK.1 (show e∈dB (x,(e0,0)) d.2 from hem) with rfl|hem
  ·exact⟨hx,uu,ux⟩
  ·exact h.ge e hem
 ·show(aq _).Perm (ends (dB (x,(e0,0)) d.2));refine(p2.trans (List.Perm.cons _ p1)).trans (List.Perm.trans ?_ (Hc (x,(e0,0)) d.2).symm);exact(List.Perm.swap _ _ _).trans (List.Perm.cons _ (List.Perm.cons _ h.pd))
theorem Wf.cut{d:an}(h:Wf d){x:ID}(hx:(aY d.2 x).isSome=true):Wf (aO (aJ (aJ d (x,0)) (x,1)) zI x):=by
 have h0:=h.kH hx (s:=0) (.inl rfl);have h1:=h.kH hx (s:=1) (.inr rfl);obtain⟨p1,q1⟩:=fN h.rw h0;have Xr:(x,1)∈aq (aJ d (x,0)).1:=by
  grind
 obtain⟨p2,q2⟩:=fN q1 Xr;have Pe:=kF (kF h.gv (x,0)) (x,1);have Sz:(aO (aJ (aJ d (x,0)) (x,1)) zI x).1=(aJ (aJ d (x,0)) (x,1)).1:=uq Pe;refine⟨by rw[Sz];exact q2.s,wb h.se,?_,?_,by simp_all,fun e he=>h.ge e ?_,?_⟩
 ·rw[Sz];unfold aJ;rw[jr,jr];exact h.nv
 ·exact acY (adg _ _) h.ne
 ·exact(adl.1 (show e∈d.2.filter fun w=>decide (w.1≠x) from he)).1
 ·rw[Sz];show(aq (aJ (aJ d (x,0)) (x,1)).1).Perm (ends (c6 d.2 x));have p3:((x,0)::(x,1)::aq (aJ (aJ d (x,0)) (x,1)).1).Perm ((x,0)::(x,1)::ends (c6 d.2 x)) :=((p1.trans (List.Perm.cons _ p2)).symm.trans h.pd).trans (Ec h.se hx);simp_all
theorem gX{x:ae}(h:x.2=0∨x.2=1):(aj x).1=x.1∧((x.2=0∧(aj x).2=1)∨(x.2=1∧(aj x).2=0)):=by
 refine⟨rfl,?_⟩;unfold aj;rcases h with h|h
 ·exact .inl ⟨h,by rw[h];rfl⟩
 ·exact .inr ⟨h,by rw[h];rfl⟩
theorem Lu{x:ae}(h:x.2=0∨x.2=1)(l:List ae):(x::aj x::l).Perm ((x.1,0)::(x.1,1)::l):=by
 obtain⟨h1,h2⟩:=gX h
 grind
theorem Eh{n:Int}(h0:0≤n)(h3:n≤3):(IntKind.wrap .i64 (1-Int.tmod n 2)=0∨IntKind.wrap .i64 (1-Int.tmod n 2)=1)∧(IntKind.wrap .i64 (Int.tdiv n 2)=0∨IntKind.wrap .i64 (Int.tdiv n 2)=1):=by
 have:n=0∨n=1∨n=2∨n=3:=by omega
 rcases this with rfl|rfl|rfl|rfl<;>exact⟨by decide,by decide⟩
theorem Wf.split{d:an}(h:Wf d){m k:ae}{v:ID}(hv:cr v=true)(hk:cr k.1=true)(Sq:m.2=0∨m.2=1)(oW:k.2=0∨k.2=1)(hm:(aY d.2 m.1).isSome=true)(Mu:aT d.1 v=none)(hnk:aY d.2 k.1=none) (Sx:¬24≤d.1.length) (hle:¬40≤d.2.length):Wf (cW (v,(cc [m,k],(e0,0))) (aE d m (aj k)).1,dB (k.1,(e0,0)) (aE d m (aj k)).2):=by
 have Jx:m∈aq d.1:=h.kH hm Sq;have Jw:aj k∉aq d.1:=h.uz hnk _;obtain⟨p1,q1⟩:=jW h.rw Jx Jw;have af9:aT (aE d m (aj k)).1 v=none:=by
  grind [aE,Vs.cp,pN,sN]
 refine⟨pM (v,(cc [m,k],(e0,0))) q1.s af9,zG (k.1,(e0,0)) h.se hnk,?_,?_,fun w hw=>?_,fun e he=>?_,?_⟩
 ·grind [cW,aE,aj,fw,jr]
 ·show(dB _ d.2).length≤40;rw[ly];omega
 ·rcases jS.1 hw with rfl|hw
  ·exact⟨hv,uu,ux,um _⟩
  ·exact qQ h.gv _ _ w hw
 ·rcases pK.1 (show e∈dB (k.1,(e0,0)) d.2 from he) with rfl|he
  ·exact⟨hk,uu,ux⟩
  ·exact h.ge e he
 ·show(aq (cW _ _)).Perm (ends (dB (k.1,(e0,0)) d.2));refine(wg _ _).trans (List.Perm.trans ?_ (Hc (k.1,(e0,0)) d.2).symm);refine(ade _ (kB [m,k])).trans ?_;show(m::k::aq (aE d m (aj k)).1).Perm _;refine(List.Perm.swap k m _).trans ((List.Perm.cons k p1.symm).trans ?_);refine(Lu oW _).trans ?_;exact List.Perm.cons _ (List.Perm.cons _ h.pd)
theorem Wf.VI{d:an}(h:Wf d){v:ai}(hv:v∈d.1)(hr:v.2.1=[]):Wf (aO d v.1 zI):=by
 obtain⟨a,b,h1,_,h2,_⟩:=nj h.sv hv;refine⟨ng h.sv,?_,acY (adg _ _) h.nv,acY (adg _ _) h.ne,fun w hw=>h.gv w ?_,fun e he=>h.ge e ?_,?_⟩
 ·exact wb h.se
 ·exact(adl.1 (show w∈d.1.filter fun w=>decide (w.1≠v.1) from hw)).1
 ·exact(adl.1 (show e∈d.2.filter fun w=>decide (w.1≠zI) from he)).1
 ·show(aq (cV d.1 v.1)).Perm (ends (c6 d.2 zI));rw[h2,qR h.ge];have p:=jB a b v;rw[←h1,hr,List.nil_append]at p;exact p.symm.trans h.pd
theorem Wf.ab2{d:an}(h:Wf d){v:ai}{a b:ae}(hv:v∈d.1)(hr:v.2.1.Perm [a,b])(rm:a.1≠b.1):Wf (aO (aE (aO d v.1 zI) (aj b) a) zI b.1):=by
 obtain⟨p,q,h1,_,h2,_⟩:=nj h.sv hv;have pd:(aq d.1).Perm (a::b::aq (p++q)):=by have:=(jB p q v).trans (ade _ hr);simp_all
 have RL:aO d v.1 zI=(p++q,d.2):=by unfold aO;rw[h2,qR h.ge]
 have Fe:=pd.nodup_iff.1 h.rw.n;have hbm:b∈ends d.2:=h.pd.mem_iff.1 (pd.mem_iff.2 (by simp));obtain⟨e,he,he1,Bx⟩:=c7.1 hbm;have CX:(aY d.2 b.1).isSome=true:=by
  grind [aY,List.find?_isSome]
 obtain⟨_,ho⟩:=gX Bx;have RM:aj b∈aq (p++q):=by
  have h3:aj b∈aq d.1:=h.kH (s:=(aj b).2) CX (by omega);rcases abL.1 (pd.mem_iff.1 h3) with k|k
  ·simp_all
  rcases abL.1 k with k|k
  ·have:=congrArg Prod.snd k;omega
  ·exact k
 have I4:Rw (p++q):=by refine⟨?_,(acg.1 (acg.1 Fe).2).2⟩;rw[←h2];exact ng h.sv
 have ha:a∉aq (p++q):=fun k=>(acg.1 Fe).1 (abC _ k);rw[RL];obtain⟨p1,q1⟩:=jW (d:=(p++q,d.2)) I4 RM ha;have Pe:∀w∈(aE (p++q,d.2) (aj b) a).1,GV w:=by
  refine qQ (d:=(p++q,d.2)) (fun w hw=>h.gv w ?_) _ _
  grind
 have Sz:(aO (aE (p++q,d.2) (aj b) a) zI b.1).1=(aE (p++q,d.2) (aj b) a).1:=uq Pe;refine⟨by rw[Sz];exact q1.s,wb h.se,?_,acY (adg _ _) h.ne,by simp_all,fun f hf=>h.ge f ?_,?_⟩
 ·rw[Sz];unfold aE;rw[jr];have:=h.nv
  grind
 ·exact(adl.1 (show f∈d.2.filter fun w=>decide (w.1≠b.1) from hf)).1
 ·rw[Sz];show(aq (aE (p++q,d.2) (aj b) a).1).Perm (ends (c6 d.2 b.1));have p3:(b::aj b::aq (aE (p++q,d.2) (aj b) a).1).Perm (b::aj b::ends (c6 d.2 b.1)):=by refine List.Perm.trans (List.Perm.cons b p1.symm) ?_;refine(List.Perm.swap a b _).trans (pd.symm.trans (h.pd.trans ?_));exact(Ec h.se CX).trans (Lu Bx _).symm
  simp_all
theorem dy.one{s:StateT}(h:dy s)(o:bj):dy (j6 s o).1:=by
 unfold j6
 split
 ·exact dy.zero
 rename_i hm;have hm:cE o=0:=Classical.byContradiction fun k=>hm k;have bM:=VG hm
 split
 ·unfold nV
  split;· exact dy.zero
  split;· exact dy.zero
  rename_i h1 h2;have hn:aT s.1.1 (bh o)=none:=by simpa[br] using h1
  refine⟨⟨pM _ h.d.sv hn,h.d.se,by grind [cW,fw],h.d.ne,fun w hw=>?_,h.d.ge,?_⟩,h.g,h.n⟩
  ·rcases jS.1 hw with rfl|hw
   ·exact⟨bM,uu,ux,rfl⟩
   ·exact h.d.gv w hw
  ·exact(wg _ _).trans h.d.pd
 split
 ·unfold vj
  cases hv:br s.1 (bh o) with
  |none=>exact dy.zero
  |some v =>
   simp only
   split
   ·exact dy.zero
   ·rename_i hr;have:=h.d.VI (ed hv) (by simpa using hr);rw[iQ hv]at this;exact⟨this,h.g,h.n⟩
 split
 ·unfold nT
  split;· exact dy.zero
  split;· exact dy.zero
  split;· exact dy.zero
  split;· exact dy.zero
  split;· exact dy.zero
  rename_i h1 h2 h3 h4 h5;have hn:aY s.1.2 (bh o)=none:=by simpa[gN] using h1
  obtain⟨ca,ca2⟩:=qU (s:=s) (c:=oA o) (Classical.byContradiction fun k=>h3 k);obtain⟨cb,cb2⟩:=qU (s:=s) (c:=oB o) (Classical.byContradiction fun k=>h4 k);refine⟨?_,h.g,h.n⟩;unfold g9;refine h.d.link bM hn h2 (by rw[ca2];exact ca) ?_
  split
  ·exact cb
  ·rw[cb2];exact cb
 split
 ·unfold D3
  split;· exact dy.zero
  rename_i h1;have h2:=kG h.g h.n ((bh o,0),dh s.1 (bh o,0));exact dy.add h2.1 h2.2 (h.d.cut (pP h1)) _
 split
 ·rename_i hk;unfold kz
  split;· exact dy.zero
  split;· exact dy.zero
  split;· exact dy.zero
  split;· exact dy.zero
  split;· exact dy.zero
  rename_i h1 h2 h3 h4 h5;obtain⟨m1,m2,m3,m4⟩:=zL hm hk;obtain⟨s1,s2⟩:=Eh m3 m4;refine⟨?_,h.g,h.n⟩;exact h.d.split (m:=Ll o) (k:=G4 o) m1 m2 s1 s2 (pP h1) (by simpa[br] using h2) (by simpa[gN,G4] using h3) h4 h5
 split
 ·unfold jT
  split
  ·exact dy.zero
  ·rename_i v hv
   split
   ·rename_i r0 r1 hr;have XL:=ed hv;have hvi:=iQ hv;have key:∀a b:ae,v.2.1.Perm [a,b]→a.1≠b.1→dy (JA s o a b,Jz s.2 a b):=fun a b hp rm=>by have h2:=kG h.g h.n ((b.1,0),ow a b 0);have:=h.d.ab2 XL hp rm;rw[hvi]at this;exact dy.add h2.1 h2.2 this _
    grind [iZ,dy.zero]
   ·exact dy.zero
 ·rename_i k1 k2 k3 k4 k5 k6;have hk:=Eg hm;have:=h.d.v7 hm (by omega);refine⟨this,?_,?_⟩
  ·unfold v7;split
   ·exact h.g
   ·exact List.Pairwise.nil
  ·unfold v7;split
   ·exact h.n
   ·simp[zS]
theorem dy.go:∀(l:List bj) {s:StateT},dy s→dy (D4 l s).1
 |[],s,h=>h
 |o::r,s,h=>by
  unfold D4
  split
  ·exact dy.zero
  ·exact dy.go r (h.one o)
theorem dy.apply{s:StateT}(h:dy s)(l:List bj):dy (cf s l).1:=by
 grind [cf,dy.zero,dy.go]
theorem dy.try{s:StateT}(h:dy s)(l:List bj):dy (iP s l):=by
 unfold iP
 split
 ·exact h
 ·exact h.apply l
theorem dy.reach:∀(m:Nat) (l:List (List bj)) {s:StateT},dy s→dy (nc m l s)
 |0,_,s,h=>by simpa[nc] using h
 |m+1,[],s,h=>h
 |m+1,l::r,s,h=>by rw[nc];exact dy.reach m r (h.try _)
theorem dy.O8(l:List (List bj)):dy (D5 l):=dy.reach 30 l dy.zero
end Go.Vs
