/- Diagrams that are well formed -/
import Derived.Test.YtoleelddkocpkaaGreatRings
set_option linter.unusedVariables false
set_option linter.unusedSimpArgs false
namespace Go.Vs
open Go.Proofs
theorem kq(row:List ab):(cj row).Perm row:=by
 grind [cj,Eg,List.Perm.of_eq,List.take_append_drop]
theorem QB{row:List ab}(h:0<row.length)(hl:∀j,(hj:j<row.length)→lY row[j] row[0]=false):fH row row 0 0=0:=by
 grind [nH,vC,fH,qq]
theorem Uz(row:List ab):Eg row 0=row:=by unfold Eg;simp
theorem tK(row:List ab):cj (cj row)=cj row:=by
 by_cases h0:row.length=0
 ·have:row=[]:=by simpa using h0
  subst this;rfl
 have hp:0<row.length:=by omega
 have hm:=nH row row 0 0 hp (by omega);have hp2:0<(cj row).length:=by grind [jn]
 have h1:(cj row)[0]=row.getD (fH row row 0 0) zD:=by have:=N8 (row:=row) (k:=fH row row 0 0) (i:=0) (by omega) hp;rw[Nat.add_zero,Nat.mod_eq_of_lt hm,List.getElem?_eq_getElem hm]at this;rw[qq hm];exact(aby.1 this).2
 have h2:fH (cj row) (cj row) 0 0=0:=by
  grind [QB,cj,oX,List.getElem_mem,List.getElem_of_mem,vC]
 grind [cj,Uz]
theorem QC(row:List ab)(a d:ab):cj (nc row a d)=nc row a d:=by grind [nc,tK]
theorem QD(row:List ab)(d:ab):cj (iz row d)=iz row d:=tK _
theorem MA(row:List ab)(a d:ab):cj (fi row a d)=fi row a d:=tK _
theorem QE{row:List ab}{d:ab}(a:ab)(h:d∉row):(nc row a d).Perm (d::row):=by
 unfold nc;rw[if_neg h]
 grind [kq,trans,List.take_append_drop]
theorem tL{row:List ab}{d:ab}(h:d∈row)(hn:row.Nodup):row.Perm (d::iz row d):=by
 obtain⟨k,_,h2,_⟩:=eg h;obtain⟨h3,h4⟩:=aby.1 h2;unfold iz;rw[yO hn h2];refine List.Perm.trans ?_ (List.Perm.cons d (kq _).symm)
 grind [List.take_append_drop,List.drop_eq_getElem_cons,List.perm_middle]
theorem MB{row:List ab}{cC d:ab}(h:cC∈row)(hd:d∉row):(d::row).Perm (cC::fi row cC d):=by
 obtain⟨k,h1,h2,_⟩:=eg h;obtain⟨h3,h4⟩:=aby.1 h2;unfold fi;rw[if_pos ⟨h,hd⟩,h1,Int.toNat_natCast];refine List.Perm.trans ?_ (List.Perm.cons cC (kq _).symm)
 grind
def an(l:List ai):List ab:=l.flatMap fun v=>v.2.1
def ends(l:List aj):List ab:=l.flatMap fun e=>[(e.1,0),(e.1,1)]
theorem eI(v:ai)(l:List ai):an (v::l)=v.2.1++an l:=List.flatMap_cons
theorem kr(a b:List ai):an (a++b)=an a++an b:=List.flatMap_append
theorem js(a b:List ai)(v:ai):(an (a++v::b)).Perm (v.2.1++an (a++b)):=by
 grind [kr,eI,List.append_assoc,List.Perm.append_right,List.perm_append_comm]
theorem aS{x:ab}{l:List ai}:x∈an l↔∃v∈l,x∈v.2.1:=List.mem_flatMap
theorem fV(e:aj)(l:List aj):ends (e::l)=(e.1,0)::(e.1,1)::ends l:=by rfl
theorem KC(a b:List aj):ends (a++b)=ends a++ends b:=List.flatMap_append
theorem dO{x:ab}{l:List aj}:x∈ends l↔∃e∈l,e.1=x.1∧(x.2=0∨x.2=1):=by
 unfold ends
 grind
theorem vD:∀{l:List aj},dq l→(ends l).Nodup
 |[],_=>List.nodup_nil
 |e::r,h=>by
  have bw:∀s:Int,(e.1,s)∉ends r:=fun s hs=>by obtain⟨f,hf,h1,_⟩:=dO.1 hs;have:=ab1 h hf;simp only at h1;rw[h1,bY]at this;cases this
  rw[fV];refine abR.2 ⟨?_,abR.2 ⟨bw 1,vD h.of_cons⟩⟩;rw[List.mem_cons];rintro(h1|h1)
  ·cases h1
  ·exact bw 0 h1
theorem Gf(e:aj):∀l:List aj,(dv e l).Perm (e::l)
 |[]=>ac4 _
 |w::r=>by
  unfold dv
  split
  ·exact ac4 _
  ·exact(List.Perm.cons w (Gf e r)).trans (List.Perm.swap e w r)
theorem Gg(e:ai):∀l:List ai,(cU e l).Perm (e::l)
 |[]=>ac4 _
 |w::r=>by
  unfold cU
  split
  ·exact ac4 _
  ·exact(List.Perm.cons w (Gg e r)).trans (List.Perm.swap e w r)
theorem Gh(e:aj)(l:List aj):(ends (dv e l)).Perm ((e.1,0)::(e.1,1)::ends l):=by rw[←fV];exact List.Perm.flatMap_right _ (Gf e l)
theorem vE(v:ai)(l:List ai):(an (cU v l)).Perm (v.2.1++an l):=by rw[←eI];exact List.Perm.flatMap_right _ (Gg v l)
theorem Dp{l:List aj}{x:ID}(hs:dq l)(h:(aY l x).isSome=true):(ends l).Perm ((x,0)::(x,1)::ends (cY l x)):=by
 obtain⟨e,he⟩:=abY.1 h;obtain⟨h3,h4⟩:=aby.1 (mS hs he);rw[yK hs h]
 conv=>lhs;rw[←List.take_append_drop (cp l x) l,List.drop_eq_getElem_cons h3,h4]
 rw[←xh he,←fV];exact List.Perm.flatMap_right _ List.perm_middle
theorem jO{l:List ai}{v:ai}(hs:b6 l)(h:v∈l):aQ l v.1=some v:=by
 have hf:(aQ l v.1).isSome=true:=by
  grind [aQ,List.find?_isSome]
 obtain⟨u,hu⟩:=abY.1 hf;have h1:=dd hs hu;obtain⟨k,hk,he⟩:=acY h;have h2:l[k]? = some v:=by simp_all
 rw[km hs h2 rfl,h1]at h2;simp_all
theorem mT{l:List ai}{v:ai}(hs:b6 l)(h:v∈l):∃a b,l=a++v::b∧(∀u∈a++b,u.1≠v.1)∧cT l v.1=a++b∧∀r,l.map (tF v.1 r)=a++(v.1,(r,v.2.2))::b:=by
 obtain⟨a,b,rfl⟩:=acb h;have hp:=List.pairwise_append.1 hs;have hb:=List.pairwise_cons.1 hp.2.1;have bw:∀u∈a++b,u.1≠v.1:=fun u hu e=>by
  rcases abU.1 hu with hu|hu
  ·have:=hp.2.2 u hu v (by simp);rw[e,bY]at this;cases this
  ·have:=hb.1 u hu;rw[e,bY]at this;cases this
 have hm:∀(r:List ab) (c:List ai),(∀u∈c,u.1≠v.1)→c.map (tF v.1 r)=c:=fun r c hc=>by
  conv=>rhs;rw[←List.map_id c]
  exact List.map_congr_left fun u hu=>by unfold tF;rw[if_neg (hc u hu)];rfl
 have hd:∀c:List ai,(∀u∈c,u.1≠v.1)→cT c v.1=c:=fun c hc=>by unfold cT;rw[List.filter_eq_self];intro u hu;simpa using hc u hu
 refine⟨a,b,rfl,bw,?_,fun r=>?_⟩
 ·unfold cT;rw[List.filter_append,List.filter_cons_of_neg (by simp)];have h1:=hd a (fun u hu=>bw u (abO _ hu));have h2:=hd b (fun u hu=>bw u (abN _ hu));unfold cT at h1 h2;rw[h1,h2]
 ·rw[List.map_append,List.map_cons,hm r a (fun u hu=>bw u (List.mem_append_left _ hu)),hm r b (fun u hu=>bw u (List.mem_append_right _ hu))];unfold tF;rw[if_pos rfl]
structure Rw(l:List ai):Prop where
 s:b6 l
 n:(an l).Nodup
theorem Rw.ring{l:List ai}(h:Rw l){v:ai}(hv:v∈l):v.2.1.Nodup:=by obtain⟨a,b,rfl,_⟩:=mT h.s hv;exact(acf.1 ((js a b v).nodup_iff.1 h.n)).1
theorem Rw.one{l:List ai}(h:Rw l){v w:ai}{x:ab}(hv:v∈l)(hw:w∈l)(hx:x∈v.2.1)(hy:x∈w.2.1):w=v:=by
 obtain⟨a,b,rfl,_⟩:=mT h.s hv;have hn:=acf.1 ((js a b v).nodup_iff.1 h.n);have:w∈a++v::b:=hw;rw[List.mem_append,List.mem_cons]at this;rcases this with k|k|k
 ·exact absurd rfl (hn.2.2 x hx x (aS.2 ⟨w,abO _ k,hy⟩))
 ·exact k
 ·exact absurd rfl (hn.2.2 x hx x (aS.2 ⟨w,abN _ k,hy⟩))
theorem eJ{l:List ai}(h:Rw l){v:ai}{x:ab}(hv:v∈l)(hx:x∈v.2.1):Eh l x=some v.1:=by
 have hf:(l.find? fun u=>decide (x∈u.2.1)).isSome=true:=by grind
 obtain⟨u,hu⟩:=abY.1 hf;have h1:=ab8 hu;have h2:x∈u.2.1:=by grind
 unfold Eh;rw[hu,h.one hv h1 hx h2];rfl
theorem KD{l:List ai}{x:ab}(h:x∉an l):Eh l x=none:=by
 grind [Eh,decide,List.find?_eq_none,aS]
theorem ku{d:ak}(h:b6 d.1){v:ai}(hv:v∈d.1):bF d v.1=v.2.1:=by
 grind [bF,bj,jO]
theorem kx{d:ak}(h:Rw d.1){v:ai}{x:ab}(hv:v∈d.1)(hx:x∈v.2.1):aF d x=cf d v.1 (iz v.2.1 x):=by unfold aF b8;rw[eJ h hv hx];show cf d v.1 (iz (bF d v.1) x)=_;rw[ku h.s hv]
theorem qu{d:ak}(h:Rw d.1){v:ai}{x:ab}(y:ab)(hv:v∈d.1)(hx:x∈v.2.1):aC d x y=cf d v.1 (fi v.2.1 x y):=by unfold aC b8;rw[eJ h hv hx];show cf d v.1 (fi (bF d v.1) x y)=_;rw[ku h.s hv]
theorem b6.re{l:List ai}(h:b6 l)(x:ID)(r:List ab):b6 (l.map (tF x r)):=h.map (sr x r)
theorem Dq{l:List ai}{v:ai}(hs:b6 l)(hv:v∈l):∃rest,(an l).Perm (v.2.1++rest)∧∀r,(an (l.map (tF v.1 r))).Perm (r++rest):=by
 grind [mT,an,js]
theorem fJ{d:ak}(h:Rw d.1){x:ab}(hx:x∈an d.1):(an d.1).Perm (x::an (aF d x).1)∧Rw (aF d x).1:=by obtain⟨v,hv,od⟩:=aS.1 hx;obtain⟨rest,h1,h2⟩:=Dq h.s hv;rw[kx h hv od];have p:(an d.1).Perm (x::an (cf d v.1 (iz v.2.1 x)).1) :=h1.trans ((ach rest (tL od (h.ring hv))).trans (List.Perm.cons x (h2 _).symm));exact⟨p,h.s.re _ _,(abR.1 (p.nodup_iff.1 h.n)).2⟩
theorem jP{d:ak}(h:Rw d.1){x y:ab}(hx:x∈an d.1)(hy:y∉an d.1):(y::an d.1).Perm (x::an (aC d x y).1)∧Rw (aC d x y).1:=by obtain⟨v,hv,od⟩:=aS.1 hx;obtain⟨rest,h1,h2⟩:=Dq h.s hv;rw[qu h y hv od];have Wy:y∉v.2.1:=fun k=>hy (aS.2 ⟨v,hv,k⟩);have p:(y::an d.1).Perm (x::an (cf d v.1 (fi v.2.1 x y)).1) :=(List.Perm.cons y h1).trans ((ach rest (MB od Wy)).trans (List.Perm.cons x (h2 _).symm));refine⟨p,h.s.re _ _,?_⟩;exact(abR.1 (p.nodup_iff.1 (abR.2 ⟨hy,h.n⟩))).2
theorem uL{d:ak}(h:Rw d.1){c:qP}{x:ab}{v:ai}(hv:aQ d.1 c.1=some v)(hx:x∉an d.1):(an (bT d c x).1).Perm (x::an d.1)∧Rw (bT d c x).1:=by
 have Wz:=dX hv;have hvi:=iC hv;obtain⟨rest,h1,h2⟩:=Dq h.s Wz;have od:x∉v.2.1:=fun k=>hx (aS.2 ⟨v,Wz,k⟩);have e:bT d c x=cf d v.1 (nc v.2.1 c.2 x):=by unfold bT;rw[←hvi,ku h.s Wz]
 rw[e];have p:(an (cf d v.1 (nc v.2.1 c.2 x)).1).Perm (x::an d.1) :=(h2 _).trans ((ach rest (QE c.2 od)).trans (List.Perm.cons x h1.symm));exact⟨p,h.s.re _ _,p.nodup_iff.2 (abR.2 ⟨hx,h.n⟩)⟩
structure GV(v:ai):Prop where
 i:cF v.1=true
 l:kj v.2.2.1=true
 a:jJ v.2.2.2=true
 t:cj v.2.1=v.2.1
structure GE(e:aj):Prop where
 i:cF e.1=true
 l:kj e.2.1=true
 a:jJ e.2.2=true
structure Wf(d:ak):Prop where
 sv:b6 d.1
 se:dq d.2
 nv:d.1.length≤24
 ne:d.2.length≤40
 gv:∀v∈d.1,GV v
 ge:∀e∈d.2,GE e
 pd:(an d.1).Perm (ends d.2)
theorem Wf.rw{d:ak}(h:Wf d):Rw d.1:=⟨h.sv,h.pd.nodup_iff.2 (vD h.se)⟩
theorem Wf.zero:Wf zS.1:=⟨List.Pairwise.nil,List.Pairwise.nil,by simp[zS],by simp[zS],by simp[zS],by simp[zS],ac4 _⟩
theorem GV.re{l:List ai}(h:∀v∈l,GV v)(x:ID){r:List ab}(hr:cj r=r):∀v∈l.map (tF x r),GV v:=fun v hv=>by
 obtain⟨w,hw,rfl⟩:=abW.1 hv;have g:=h w hw;unfold tF
 split
 ·exact⟨g.i,g.l,g.a,hr⟩
 ·exact g
theorem ky{d:ak}(h:∀v∈d.1,GV v)(x:ab):∀v∈(aF d x).1,GV v:=GV.re h _ (QD _ _)
theorem qv{d:ak}(h:∀v∈d.1,GV v)(x y:ab):∀v∈(aC d x y).1,GV v:=GV.re h _ (MA _ _ _)
theorem Af{d:ak}(h:∀v∈d.1,GV v)(c:qP)(y:ab):∀v∈(bT d c y).1,GV v:=GV.re h _ (QC _ _ _)
theorem jf(d:ak)(x:ID)(r:List ab):(cf d x r).1.length=d.1.length:=by unfold cf;simp
theorem Gi:cF zI=false:=by decide
theorem qw{l:List aj}(h:∀e∈l,GE e):cY l zI=l:=by
 unfold cY;rw[List.filter_eq_self];intro e he;have:=(h e he).i
 grind [Gi]
theorem tM{l:List ai}(h:∀e∈l,GV e):cT l zI=l:=by
 unfold cT;rw[List.filter_eq_self];intro e he;have:=(h e he).i
 grind [Gi]
theorem tN:kj e0=true:=by decide
theorem tO:jJ 0=true:=by decide
theorem Dt{l:List aj}{x:ID}(h:aY l x=none)(s:Int):(x,s)∉ends l:=fun k=>by
 grind [dO,aY,List.find?_eq_none]
theorem Du{l:List aj}{x:ID}(h:(aY l x).isSome=true){s:Int}(hs:s=0∨s=1):(x,s)∈ends l:=by
 obtain⟨e,he⟩:=abY.1 h
 grind [dO,Qz,xh]
theorem UA{o:bg}(h:cx o=0):cF (aZ o)=true:=by
 grind [cx]
theorem Dv{o:bg}(h:cx o=0):1≤o.1∧o.1≤8:=by
 grind [cx]
theorem yP{o:bg}(h:cx o=0)(hk:o.1=5):cF (fb o)=true∧cF (bB o)=true∧0≤oN o∧oN o≤3:=by
 unfold cx at h
 grind
theorem KE{o:bg}(h:cx o=0)(hk:o.1=8):jJ (oN o)=true:=by
 unfold cx at h
 grind
theorem Gj{o:bg}(h:cx o=0)(hk:o.1=7):kj (oZ o)=true:=by
 unfold cx at h
 grind
def jt(l:List ax):Prop:=l.Pairwise fun a b=>lY a.1 b.1=true
theorem qx{a b:ab}:oV a b≤0↔a=b∨lY a b=true:=by
 unfold oV
 grind
theorem xj{q g:ax}:∀{l:List ax},q∈lR g l→q=g∨(q∈l∧q.1≠g.1)
 |[],h=>by simp[lR]at h;exact .inl h
 |e::r,h=>by
  unfold lR at h
  split at h
  ·rcases abM.1 h with h|h
   ·exact .inl h
   ·unfold nX at h;rw[List.mem_filter]at h;exact .inr ⟨h.1,by simpa using h.2⟩
  ·split at h
   ·rename_i bw;rcases abM.1 h with rfl|h
    ·exact .inr ⟨abT ..,bw⟩
    ·rcases xj h with h|⟨h,h2⟩
     ·exact .inl h
     ·exact .inr ⟨abq _ h,h2⟩
   ·rcases xj h with h|⟨h,h2⟩
    ·exact .inl h
    ·exact .inr ⟨abq _ h,h2⟩
theorem jt.add(g:ax):∀{l:List ax},jt l→jt (lR g l)
 |[],_=>List.pairwise_singleton _ _
 |e::r,h=>by
  have hr:∀{q:ax},q∈r→lY e.1 q.1=true:=fun {q} hq=>ab1 h hq;unfold lR
  split
  ·rename_i ho;refine List.Pairwise.cons (fun q hq=>?_) (h.filter _);unfold nX at hq;rw[List.mem_filter]at hq;have bw:q.1≠g.1:=by simp_all
   have hle:e.1=q.1∨lY e.1 q.1=true:=by
    grind
   grind [qx,absurd,jr]
  ·rename_i ho;have Ny:lY e.1 g.1=true:=by
    grind [lY,qx,yM]
   have hs:=jt.add g (adj h)
   split
   ·refine List.Pairwise.cons (fun q hq=>?_) hs;rcases xj hq with rfl|⟨hq,_⟩
    ·exact Ny
    ·exact hr hq
   ·exact hs
theorem qy(e:ax)(r:List ax)(x:ab):gS (e::r) x=if e.1=x then some e.2 else gS r x:=by
 unfold gS;rw[List.find?_cons];by_cases h:e.1=x
 ·simp[h]
 ·simp[h]
theorem tP{g:ax}:∀{l:List ax},(∀q∈l,q.1≠g.1)→nX g l=l:=fun {l} h=>by
 grind [nX,List.filter_eq_self]
theorem KF(g:ax):∀{l:List ax},jt l→(lR g l).length=if(gS l g.1).isSome=true then l.length else l.length+1
 |[],_=>rfl
 |e::r,h=>by
  have hr:∀{q:ax},q∈r→lY e.1 q.1=true:=fun {q} hq=>ab1 h hq;have ih:=KF g (adj h);unfold lR
  split
  ·rename_i ho;rcases qx.1 ho with ho|ho
   ·have h1:nX g (e::r)=r:=by
     have:nX g (e::r)=nX g r:=by grind [nX,List.filter_cons_of_neg]
     grind [tP,eF]
    simp_all [qy,if_pos]
   ·have h2:∀q∈e::r,q.1≠g.1:=fun q hq k=>by
     have:lY g.1 q.1=true:=by
      rcases abM.1 hq with rfl|hq
      ·exact ho
      grind [jr]
     grind [eF]
    grind [gS,List.find?,decide,List.find?_eq_none,tP]
  ·rename_i ho;have bw:e.1≠g.1:=fun k=>ho (qx.2 (.inl k.symm));rw[if_pos bw,qy,if_neg bw]
   grind
theorem kz{l:List ax}(h:jt l)(hn:l.length≤400)(g:ax):jt (bR l g)∧(bR l g).length≤400:=by
 grind [bR,jt.add,KF,absurd]
theorem o9{α:Type}{o:Option α}(h:¬o.isSome=false):o.isSome=true:=by grind
structure dF(s:StateT):Prop where
 d:Wf s.1
 g:jt s.2
 n:s.2.length≤400
theorem dF.zero:dF zS:=⟨Wf.zero,List.Pairwise.nil,by simp[zS]⟩
theorem dF.add{l:List ax}(h:jt l)(hn:l.length≤400){d:ak}(hd:Wf d)(g:ax):dF (d,bR l g):=⟨hd,(kz h hn g).1,(kz h hn g).2⟩
theorem QF{f:ai→ai}(hf:∀v,(f v).2.1=v.2.1)(l:List ai):an (l.map f)=an l:=by
 grind [an,List.flatMap_map]
theorem UB{f:aj→aj}(hf:∀v,(f v).1=v.1)(l:List aj):ends (l.map f)=ends l:=by
 grind [ends,List.flatMap_map]
theorem Oe(o:bg)(w:aj):(jK o w).1=w.1:=by grind [jK]
theorem QG(o:bg)(w:ai):(iA o w).2.1=w.2.1:=by grind [iA]
theorem Wf.tQ{d:ak}(h:Wf d){x:ID}(hx:aY d.2 x=none)(s:Int):(x,s)∉an d.1:=fun k=>Dt hx s (h.pd.mem_iff.1 k)
theorem Wf.kA{d:ak}(h:Wf d){x:ID}(hx:(aY d.2 x).isSome=true){s:Int}(hs:s=0∨s=1):(x,s)∈an d.1:=h.pd.mem_iff.2 (Du hx hs)
theorem Wf.vz{s:StateT}(h:Wf s.1){o:bg}(hm:cx o=0)(hk:7≤o.1):Wf (vz s o).1.1:=by
 have hk8:=(Dv hm).2;unfold Vs.vz
 split
 ·refine⟨h.sv.map (Oc o),h.se.map (Oe o),by simp;exact h.nv,by simp;exact h.ne,fun v hv=>?_,fun e he=>?_,?_⟩
  ·obtain⟨w,hw,rfl⟩:=abW.1 hv;have g:=h.gv w hw;unfold iA
   split
   ·split
    ·rename_i h7;exact⟨g.i,Gj hm h7,g.a,g.t⟩
    ·exact⟨g.i,g.l,KE hm (by omega),g.t⟩
   ·exact g
  ·obtain⟨w,hw,rfl⟩:=abW.1 he;have g:=h.ge w hw;unfold jK
   split
   ·split
    ·rename_i h7;exact⟨g.i,Gj hm h7,g.a⟩
    ·exact⟨g.i,g.l,KE hm (by omega)⟩
   ·exact g
  ·show(an (s.1.1.map (iA o))).Perm (ends (s.1.2.map (jK o)));rw[QF (QG o),UB (Oe o)];exact h.pd
 ·exact Wf.zero
theorem qz{s:StateT}{c:qP}(h:(bA s c).2.1=0):(bj s.1 c.1).isSome=true∧(bA s c).1.1=c.1:=by
 unfold bA at h ⊢
 grind
theorem xk{l:List ai}{x y:ID}(r:List ab)(h:(aQ l x).isSome=true):(aQ (l.map (tF y r)) x).isSome=true:=by
 grind [o6,sr]
theorem Wf.link{d:ak}(h:Wf d){x:ID}(hx:cF x=true)(hn:aY d.2 x=none)(he:¬40≤d.2.length){a b:qP}(ha:(aQ d.1 a.1).isSome=true)(hb:(aQ d.1 b.1).isSome=true) :
  Wf (bT (bT (d.1,dv (x,(e0,0)) d.2) a (x,0)) b (x,1)):=by
 have hrw:Rw ((d.1,dv (x,(e0,0)) d.2):ak).1:=h.rw;obtain⟨va,hva⟩:=abY.1 ha;have h0:=h.tQ hn 0;have h1:=h.tQ hn 1;obtain⟨p1,q1⟩:=uL (c:=a) (x:=(x,0)) hrw hva h0;obtain⟨vb,hvb⟩:=abY.1 (xk (x:=b.1) (y:=a.1) (nc (bF (d.1,dv (x,(e0,0)) d.2) a.1) a.2 (x,0)) hb);have We:(x,1)∉an (bT (d.1,dv (x,(e0,0)) d.2) a (x,0)).1:=fun k=>by
  grind
 obtain⟨p2,q2⟩:=uL (c:=b) (x:=(x,1)) q1 hvb We;refine⟨q2.s,yL (x,(e0,0)) h.se hn,?_,?_,Af (Af h.gv _ _) _ _,fun e hem=>?_,?_⟩
 ·unfold bT;rw[jf,jf];exact h.nv
 ·show(dv (x,(e0,0)) d.2).length≤40;rw[ll];omega
 ·rcases o4.1 (show e∈dv (x,(e0,0)) d.2 from hem) with rfl|hem
  ·exact⟨hx,tN,tO⟩
  ·exact h.ge e hem
 ·show(an _).Perm (ends (dv (x,(e0,0)) d.2));refine(p2.trans (List.Perm.cons _ p1)).trans (List.Perm.trans ?_ (Gh (x,(e0,0)) d.2).symm);exact(List.Perm.swap _ _ _).trans (List.Perm.cons _ (List.Perm.cons _ h.pd))
theorem Wf.cut{d:ak}(h:Wf d){x:ID}(hx:(aY d.2 x).isSome=true):Wf (aJ (aF (aF d (x,0)) (x,1)) zI x):=by
 have h0:=h.kA hx (s:=0) (.inl rfl);have h1:=h.kA hx (s:=1) (.inr rfl);obtain⟨p1,q1⟩:=fJ h.rw h0;have We:(x,1)∈an (aF d (x,0)).1:=by
  grind
 obtain⟨p2,q2⟩:=fJ q1 We;have UC:=ky (ky h.gv (x,0)) (x,1);have RC:(aJ (aF (aF d (x,0)) (x,1)) zI x).1=(aF (aF d (x,0)) (x,1)).1:=tM UC;refine⟨by rw[RC];exact q2.s,vA h.se,?_,?_,by simp_all,fun e he=>h.ge e ?_,?_⟩
 ·rw[RC];unfold aF;rw[jf,jf];exact h.nv
 ·exact ab0 (acn _ _) h.ne
 ·exact(acM.1 (show e∈d.2.filter fun w=>decide (w.1≠x) from he)).1
 ·rw[RC];show(an (aF (aF d (x,0)) (x,1)).1).Perm (ends (cY d.2 x));have p3:((x,0)::(x,1)::an (aF (aF d (x,0)) (x,1)).1).Perm ((x,0)::(x,1)::ends (cY d.2 x)) :=((p1.trans (List.Perm.cons _ p2)).symm.trans h.pd).trans (Dp h.se hx);simp_all
theorem gO{x:ab}(h:x.2=0∨x.2=1):(ag x).1=x.1∧((x.2=0∧(ag x).2=1)∨(x.2=1∧(ag x).2=0)):=by
 refine⟨rfl,?_⟩;unfold ag;rcases h with h|h
 ·exact .inl ⟨h,by rw[h];rfl⟩
 ·exact .inr ⟨h,by rw[h];rfl⟩
theorem KG{x:ab}(h:x.2=0∨x.2=1)(l:List ab):(x::ag x::l).Perm ((x.1,0)::(x.1,1)::l):=by
 obtain⟨h1,h2⟩:=gO h
 grind
theorem Dx{n:Int}(h0:0≤n)(h3:n≤3):(IntKind.wrap .i64 (1-Int.tmod n 2)=0∨IntKind.wrap .i64 (1-Int.tmod n 2)=1)∧(IntKind.wrap .i64 (Int.tdiv n 2)=0∨IntKind.wrap .i64 (Int.tdiv n 2)=1):=by
 have:n=0∨n=1∨n=2∨n=3:=by omega
 rcases this with rfl|rfl|rfl|rfl<;>exact⟨by decide,by decide⟩
theorem Wf.split{d:ak}(h:Wf d){m k:ab}{v:ID}(hv:cF v=true)(hk:cF k.1=true)(W0:m.2=0∨m.2=1)(oF:k.2=0∨k.2=1)(hm:(aY d.2 m.1).isSome=true)(Nn:aQ d.1 v=none)(hnk:aY d.2 k.1=none) (Zs:¬24≤d.1.length) (hle:¬40≤d.2.length):Wf (cU (v,(cj [m,k],(e0,0))) (aC d m (ag k)).1,dv (k.1,(e0,0)) (aC d m (ag k)).2):=by
 have IA:m∈an d.1:=h.kA hm W0;have Iz:ag k∉an d.1:=h.tQ hnk _;obtain⟨p1,q1⟩:=jP h.rw IA Iz;have aeY:aQ (aC d m (ag k)).1 v=none:=by
  grind [aC,Vs.cf,o6,sr]
 refine⟨o5 (v,(cj [m,k],(e0,0))) q1.s aeY,yL (k.1,(e0,0)) h.se hnk,?_,?_,fun w hw=>?_,fun e he=>?_,?_⟩
 ·grind [cU,aC,ag,fk,jf]
 ·show(dv _ d.2).length≤40;rw[ll];omega
 ·rcases jL.1 hw with rfl|hw
  ·exact⟨hv,tN,tO,tK _⟩
  ·exact qv h.gv _ _ w hw
 ·rcases o4.1 (show e∈dv (k.1,(e0,0)) d.2 from he) with rfl|he
  ·exact⟨hk,tN,tO⟩
  ·exact h.ge e he
 ·show(an (cU _ _)).Perm (ends (dv (k.1,(e0,0)) d.2));refine(vE _ _).trans (List.Perm.trans ?_ (Gh (k.1,(e0,0)) d.2).symm);refine(ach _ (kq [m,k])).trans ?_;show(m::k::an (aC d m (ag k)).1).Perm _;refine(List.Perm.swap k m _).trans ((List.Perm.cons k p1.symm).trans ?_);refine(KG oF _).trans ?_;exact List.Perm.cons _ (List.Perm.cons _ h.pd)
theorem Wf.UD{d:ak}(h:Wf d){v:ai}(hv:v∈d.1)(hr:v.2.1=[]):Wf (aJ d v.1 zI):=by
 obtain⟨a,b,h1,_,h2,_⟩:=mT h.sv hv;refine⟨mR h.sv,?_,ab0 (acn _ _) h.nv,ab0 (acn _ _) h.ne,fun w hw=>h.gv w ?_,fun e he=>h.ge e ?_,?_⟩
 ·exact vA h.se
 ·exact(acM.1 (show w∈d.1.filter fun w=>decide (w.1≠v.1) from hw)).1
 ·exact(acM.1 (show e∈d.2.filter fun w=>decide (w.1≠zI) from he)).1
 ·show(an (cT d.1 v.1)).Perm (ends (cY d.2 zI));rw[h2,qw h.ge];have p:=js a b v;rw[←h1,hr,List.nil_append]at p;exact p.symm.trans h.pd
theorem Wf.aa0{d:ak}(h:Wf d){v:ai}{a b:ab}(hv:v∈d.1)(hr:v.2.1.Perm [a,b])(z8:a.1≠b.1):Wf (aJ (aC (aJ d v.1 zI) (ag b) a) zI b.1):=by
 obtain⟨p,q,h1,_,h2,_⟩:=mT h.sv hv;have pd:(an d.1).Perm (a::b::an (p++q)):=by have:=(js p q v).trans (ach _ hr);simp_all
 have QH:aJ d v.1 zI=(p++q,d.2):=by unfold aJ;rw[h2,qw h.ge]
 have Et:=pd.nodup_iff.1 h.rw.n;have hbm:b∈ends d.2:=h.pd.mem_iff.1 (pd.mem_iff.2 (by simp));obtain⟨e,he,he1,Eo⟩:=dO.1 hbm;have FL:(aY d.2 b.1).isSome=true:=by
  grind [aY,List.find?_isSome]
 obtain⟨_,ho⟩:=gO Eo;have QI:ag b∈an (p++q):=by
  have h3:ag b∈an d.1:=h.kA (s:=(ag b).2) FL (by omega);rcases abM.1 (pd.mem_iff.1 h3) with k|k
  ·simp_all
  rcases abM.1 k with k|k
  ·have:=congrArg Prod.snd k;omega
  ·exact k
 have H5:Rw (p++q):=by refine⟨?_,(abR.1 (abR.1 Et).2).2⟩;rw[←h2];exact mR h.sv
 have ha:a∉an (p++q):=fun k=>(abR.1 Et).1 (abq _ k);rw[QH];obtain⟨p1,q1⟩:=jP (d:=(p++q,d.2)) H5 QI ha;have UC:∀w∈(aC (p++q,d.2) (ag b) a).1,GV w:=by
  refine qv (d:=(p++q,d.2)) (fun w hw=>h.gv w ?_) _ _
  grind
 have RC:(aJ (aC (p++q,d.2) (ag b) a) zI b.1).1=(aC (p++q,d.2) (ag b) a).1:=tM UC;refine⟨by rw[RC];exact q1.s,vA h.se,?_,ab0 (acn _ _) h.ne,by simp_all,fun f hf=>h.ge f ?_,?_⟩
 ·rw[RC];unfold aC;rw[jf];have:=h.nv
  grind
 ·exact(acM.1 (show f∈d.2.filter fun w=>decide (w.1≠b.1) from hf)).1
 ·rw[RC];show(an (aC (p++q,d.2) (ag b) a).1).Perm (ends (cY d.2 b.1));have p3:(b::ag b::an (aC (p++q,d.2) (ag b) a).1).Perm (b::ag b::ends (cY d.2 b.1)):=by refine List.Perm.trans (List.Perm.cons b p1.symm) ?_;refine(List.Perm.swap a b _).trans (pd.symm.trans (h.pd.trans ?_));exact(Dp h.se FL).trans (KG Eo _).symm
  simp_all
theorem dF.one{s:StateT}(h:dF s)(o:bg):dF (jW s o).1:=by
 unfold jW
 split
 ·exact dF.zero
 rename_i hm;have hm:cx o=0:=Classical.byContradiction fun k=>hm k;have bL:=UA hm
 split
 ·unfold nJ
  split;· exact dF.zero
  split;· exact dF.zero
  rename_i h1 h2;have hn:aQ s.1.1 (aZ o)=none:=by simpa[bj] using h1
  refine⟨⟨o5 _ h.d.sv hn,h.d.se,by grind [cU,fk],h.d.ne,fun w hw=>?_,h.d.ge,?_⟩,h.g,h.n⟩
  ·rcases jL.1 hw with rfl|hw
   ·exact⟨bL,tN,tO,rfl⟩
   ·exact h.d.gv w hw
  ·exact(vE _ _).trans h.d.pd
 split
 ·unfold uI
  cases hv:bj s.1 (aZ o) with
  |none=>exact dF.zero
  |some v =>
   simp only
   split
   ·exact dF.zero
   ·rename_i hr;have:=h.d.UD (dX hv) (by simpa using hr);rw[iC hv]at this;exact⟨this,h.g,h.n⟩
 split
 ·unfold nI
  split;· exact dF.zero
  split;· exact dF.zero
  split;· exact dF.zero
  split;· exact dF.zero
  split;· exact dF.zero
  rename_i h1 h2 h3 h4 h5;have hn:aY s.1.2 (aZ o)=none:=by simpa[gN] using h1
  obtain⟨ca,ca2⟩:=qz (s:=s) (c:=oA o) (Classical.byContradiction fun k=>h3 k);obtain⟨cb,cb2⟩:=qz (s:=s) (c:=oB o) (Classical.byContradiction fun k=>h4 k);refine⟨?_,h.g,h.n⟩;unfold gT;refine h.d.link bL hn h2 (by rw[ca2];exact ca) ?_
  split
  ·exact cb
  ·rw[cb2];exact cb
 split
 ·unfold De
  split;· exact dF.zero
  rename_i h1;have h2:=kz h.g h.n ((aZ o,0),db s.1 (aZ o,0));exact dF.add h2.1 h2.2 (h.d.cut (o9 h1)) _
 split
 ·rename_i hk;unfold kl
  split;· exact dF.zero
  split;· exact dF.zero
  split;· exact dF.zero
  split;· exact dF.zero
  split;· exact dF.zero
  rename_i h1 h2 h3 h4 h5;obtain⟨m1,m2,m3,m4⟩:=yP hm hk;obtain⟨s1,s2⟩:=Dx m3 m4;refine⟨?_,h.g,h.n⟩;exact h.d.split (m:=Ky o) (k:=Gc o) m1 m2 s1 s2 (o9 h1) (by simpa[bj] using h2) (by simpa[gN,Gc] using h3) h4 h5
 split
 ·unfold jM
  split
  ·exact dF.zero
  ·rename_i v hv
   split
   ·rename_i r0 r1 hr;have Wz:=dX hv;have hvi:=iC hv;have key:∀a b:ab,v.2.1.Perm [a,b]→a.1≠b.1→dF (IE s o a b,IC s.2 a b):=fun a b hp z8=>by have h2:=kz h.g h.n ((b.1,0),nY a b 0);have:=h.d.aa0 Wz hp z8;rw[hvi]at this;exact dF.add h2.1 h2.2 this _
    grind [iM,dF.zero]
   ·exact dF.zero
 ·rename_i k1 k2 k3 k4 k5 k6;have hk:=Dv hm;have:=h.d.vz hm (by omega);refine⟨this,?_,?_⟩
  ·unfold vz;split
   ·exact h.g
   ·exact List.Pairwise.nil
  ·unfold vz;split
   ·exact h.n
   ·simp[zS]
theorem dF.go:∀(l:List bg) {s:StateT},dF s→dF (Df l s).1
 |[],s,h=>h
 |o::r,s,h=>by
  unfold Df
  split
  ·exact dF.zero
  ·exact dF.go r (h.one o)
theorem dF.apply{s:StateT}(h:dF s)(l:List bg):dF (cv s l).1:=by
 grind [cv,dF.zero,dF.go]
theorem dF.try{s:StateT}(h:dF s)(l:List bg):dF (iB s l):=by
 unfold iB
 split
 ·exact h
 ·exact h.apply l
theorem dF.reach:∀(m:Nat) (l:List (List bg)) {s:StateT},dF s→dF (mQ m l s)
 |0,_,s,h=>by simpa[mQ] using h
 |m+1,[],s,h=>h
 |m+1,l::r,s,h=>by rw[mQ];exact dF.reach m r (h.try _)
theorem dF.N9(l:List (List bg)):dF (Dg l):=dF.reach 30 l dF.zero
end Go.Vs
