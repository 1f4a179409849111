/- Diagrams that are well formed -/
import Derived.Test.YtoleelddkocpkaaGreatRings
set_option linter.unusedVariables false
set_option linter.unusedSimpArgs false
namespace Go.Vs
open Go.Proofs
theorem kO(row:List ab):(cp row).Perm row:=by
 grind [cp,Fa,List.Perm.of_eq,List.take_append_drop]
theorem R5{row:List ab}(h:0<row.length)(hl:∀j,(hj:j<row.length)→mD row[j] row[0]=false):fW row row 0 0=0:=by
 grind [ow,wE,fW,rk]
theorem V7(row:List ab):Fa row 0=row:=by unfold Fa;simp
theorem uM(row:List ab):cp (cp row)=cp row:=by
 by_cases h0:row.length=0
 ·have:row=[]:=by simpa using h0
  subst this;rfl
 have hp:0<row.length:=by omega
 have hm:=ow row row 0 0 hp (by omega);have hp2:0<(cp row).length:=by grind [jE]
 have h1:(cp row)[0]=row.getD (fW row row 0 0) zD:=by have:=PD (row:=row) (k:=fW row row 0 0) (i:=0) (by omega) hp;rw[Nat.add_zero,Nat.mod_eq_of_lt hm,List.getElem?_eq_getElem hm]at this;rw[rk hm];exact(abC.1 this).2
 have h2:fW (cp row) (cp row) 0 0=0:=by
  grind [R5,cp,pY,List.getElem_mem,List.getElem_of_mem,wE]
 grind [cp,V7]
theorem R6(row:List ab)(a d:ab):cp (nQ row a d)=nQ row a d:=by grind [nQ,uM]
theorem R7(row:List ab)(d:ab):cp (iP row d)=iP row d:=uM _
theorem NS(row:List ab)(a d:ab):cp (fJ row a d)=fJ row a d:=uM _
theorem R8{row:List ab}{d:ab}(a:ab)(h:d∉row):(nQ row a d).Perm (d::row):=by
 unfold nQ;rw[if_neg h]
 grind [kO,trans,List.take_append_drop]
theorem uN{row:List ab}{d:ab}(h:d∈row)(hn:row.Nodup):row.Perm (d::iP row d):=by
 obtain⟨k,_,h2,_⟩:=eV h;obtain⟨h3,h4⟩:=abC.1 h2;unfold iP;rw[zX hn h2];refine List.Perm.trans ?_ (List.Perm.cons d (kO _).symm)
 grind [List.take_append_drop,List.drop_eq_getElem_cons,List.perm_middle]
theorem NT{row:List ab}{cI d:ab}(h:cI∈row)(hd:d∉row):(d::row).Perm (cI::fJ row cI d):=by
 obtain⟨k,h1,h2,_⟩:=eV h;obtain⟨h3,h4⟩:=abC.1 h2;unfold fJ;rw[if_pos ⟨h,hd⟩,h1,Int.toNat_natCast];refine List.Perm.trans ?_ (List.Perm.cons cI (kO _).symm)
 grind
def an(l:List ai):List ab:=l.flatMap fun v=>v.2.1
def ends(l:List ag):List ab:=l.flatMap fun e=>[(e.1,0),(e.1,1)]
theorem fg(v:ai)(l:List ai):an (v::l)=v.2.1++an l:=List.flatMap_cons
theorem kP(a b:List ai):an (a++b)=an a++an b:=List.flatMap_append
theorem jI(a b:List ai)(v:ai):(an (a++v::b)).Perm (v.2.1++an (a++b)):=by
 grind [kP,fg,List.append_assoc,List.Perm.append_right,List.perm_append_comm]
theorem aS{x:ab}{l:List ai}:x∈an l↔∃v∈l,x∈v.2.1:=List.mem_flatMap
theorem gE(e:ag)(l:List ag):ends (e::l)=(e.1,0)::(e.1,1)::ends l:=by rfl
theorem LM(a b:List ag):ends (a++b)=ends a++ends b:=List.flatMap_append
theorem eC{x:ab}{l:List ag}:x∈ends l↔∃e∈l,e.1=x.1∧(x.2=0∨x.2=1):=by
 unfold ends
 grind
theorem wF:∀{l:List ag},dH l→(ends l).Nodup
 |[],_=>List.nodup_nil
 |e::r,h=>by
  have bB:∀s:Int,(e.1,s)∉ends r:=fun s hs=>by obtain⟨f,hf,h1,_⟩:=eC.1 hs;have:=acM h hf;simp only at h1;rw[h1,b5]at this;cases this
  rw[gE];refine ab1.2 ⟨?_,ab1.2 ⟨bB 1,wF h.of_cons⟩⟩;rw[List.mem_cons];rintro(h1|h1)
  ·cases h1
  ·exact bB 0 h1
theorem Hj(e:ag):∀l:List ag,(dL e l).Perm (e::l)
 |[]=>adR _
 |w::r=>by
  unfold dL
  split
  ·exact adR _
  ·exact(List.Perm.cons w (Hj e r)).trans (List.Perm.swap e w r)
theorem Hk(e:ai):∀l:List ai,(c8 e l).Perm (e::l)
 |[]=>adR _
 |w::r=>by
  unfold c8
  split
  ·exact adR _
  ·exact(List.Perm.cons w (Hk e r)).trans (List.Perm.swap e w r)
theorem Hl(e:ag)(l:List ag):(ends (dL e l)).Perm ((e.1,0)::(e.1,1)::ends l):=by rw[←gE];exact List.Perm.flatMap_right _ (Hj e l)
theorem wG(v:ai)(l:List ai):(an (c8 v l)).Perm (v.2.1++an l):=by rw[←fg];exact List.Perm.flatMap_right _ (Hk v l)
theorem El{l:List ag}{x:ID}(hs:dH l)(h:(ba l x).isSome=true):(ends l).Perm ((x,0)::(x,1)::ends (dd l x)):=by
 obtain⟨e,he⟩:=acu.1 h;obtain⟨h3,h4⟩:=abC.1 (nG hs he);rw[zQ hs h]
 conv=>lhs;rw[←List.take_append_drop (cw l x) l,List.drop_eq_getElem_cons h3,h4]
 rw[←yh he,←gE];exact List.Perm.flatMap_right _ List.perm_middle
theorem j8{l:List ai}{v:ai}(hs:cc l)(h:v∈l):aR l v.1=some v:=by
 have hf:(aR l v.1).isSome=true:=by
  grind [aR,List.find?_isSome]
 obtain⟨u,hu⟩:=acu.1 hf;have h1:=dr hs hu;obtain⟨k,hk,he⟩:=adN h;have h2:l[k]? = some v:=by simp_all
 rw[kN hs h2 rfl,h1]at h2;simp_all
theorem nH{l:List ai}{v:ai}(hs:cc l)(h:v∈l):∃a b,l=a++v::b∧(∀u∈a++b,u.1≠v.1)∧cY l v.1=a++b∧∀r,l.map (uH v.1 r)=a++(v.1,(r,v.2.2))::b:=by
 obtain⟨a,b,rfl⟩:=adt h;have hp:=List.pairwise_append.1 hs;have hb:=List.pairwise_cons.1 hp.2.1;have bB:∀u∈a++b,u.1≠v.1:=fun u hu e=>by
  rcases ab6.1 hu with hu|hu
  ·have:=hp.2.2 u hu v (by simp);rw[e,b5]at this;cases this
  ·have:=hb.1 u hu;rw[e,b5]at this;cases this
 have hm:∀(r:List ab) (c:List ai),(∀u∈c,u.1≠v.1)→c.map (uH v.1 r)=c:=fun r c hc=>by
  conv=>rhs;rw[←List.map_id c]
  exact List.map_congr_left fun u hu=>by unfold uH;rw[if_neg (hc u hu)];rfl
 have hd:∀c:List ai,(∀u∈c,u.1≠v.1)→cY c v.1=c:=fun c hc=>by unfold cY;rw[List.filter_eq_self];intro u hu;simpa using hc u hu
 refine⟨a,b,rfl,bB,?_,fun r=>?_⟩
 ·unfold cY;rw[List.filter_append,List.filter_cons_of_neg (by simp)];have h1:=hd a (fun u hu=>bB u (abM _ hu));have h2:=hd b (fun u hu=>bB u (abL _ hu));unfold cY at h1 h2;rw[h1,h2]
 ·rw[List.map_append,List.map_cons,hm r a (fun u hu=>bB u (List.mem_append_left _ hu)),hm r b (fun u hu=>bB u (List.mem_append_right _ hu))];unfold uH;rw[if_pos rfl]
structure Rw(l:List ai):Prop where
 s:cc l
 n:(an l).Nodup
theorem Rw.ring{l:List ai}(h:Rw l){v:ai}(hv:v∈l):v.2.1.Nodup:=by obtain⟨a,b,rfl,_⟩:=nH h.s hv;exact(adw.1 ((jI a b v).nodup_iff.1 h.n)).1
theorem Rw.one{l:List ai}(h:Rw l){v w:ai}{x:ab}(hv:v∈l)(hw:w∈l)(hx:x∈v.2.1)(hy:x∈w.2.1):w=v:=by
 obtain⟨a,b,rfl,_⟩:=nH h.s hv;have hn:=adw.1 ((jI a b v).nodup_iff.1 h.n);have:w∈a++v::b:=hw;rw[List.mem_append,List.mem_cons]at this;rcases this with k|k|k
 ·exact absurd rfl (hn.2.2 x hx x (aS.2 ⟨w,abM _ k,hy⟩))
 ·exact k
 ·exact absurd rfl (hn.2.2 x hx x (aS.2 ⟨w,abL _ k,hy⟩))
theorem fh{l:List ai}(h:Rw l){v:ai}{x:ab}(hv:v∈l)(hx:x∈v.2.1):Fb l x=some v.1:=by
 have hf:(l.find? fun u=>decide (x∈u.2.1)).isSome=true:=by grind
 obtain⟨u,hu⟩:=acu.1 hf;have h1:=adq hu;have h2:x∈u.2.1:=by grind
 unfold Fb;rw[hu,h.one hv h1 hx h2];rfl
theorem LN{l:List ai}{x:ab}(h:x∉an l):Fb l x=none:=by
 grind [Fb,decide,List.find?_eq_none,aS]
theorem kQ{d:ak}(h:cc d.1){v:ai}(hv:v∈d.1):bI d v.1=v.2.1:=by
 grind [bI,bq,j8]
theorem kR{d:ak}(h:Rw d.1){v:ai}{x:ab}(hv:v∈d.1)(hx:x∈v.2.1):aH d x=ck d v.1 (iP v.2.1 x):=by unfold aH cf;rw[fh h hv hx];show ck d v.1 (iP (bI d v.1) x)=_;rw[kQ h.s hv]
theorem rl{d:ak}(h:Rw d.1){v:ai}{x:ab}(y:ab)(hv:v∈d.1)(hx:x∈v.2.1):aE d x y=ck d v.1 (fJ v.2.1 x y):=by unfold aE cf;rw[fh h hv hx];show ck d v.1 (fJ (bI d v.1) x y)=_;rw[kQ h.s hv]
theorem cc.re{l:List ai}(h:cc l)(x:ID)(r:List ab):cc (l.map (uH x r)):=h.map (tv x r)
theorem Em{l:List ai}{v:ai}(hs:cc l)(hv:v∈l):∃rest,(an l).Perm (v.2.1++rest)∧∀r,(an (l.map (uH v.1 r))).Perm (r++rest):=by
 grind [nH,an,jI]
theorem fX{d:ak}(h:Rw d.1){x:ab}(hx:x∈an d.1):(an d.1).Perm (x::an (aH d x).1)∧Rw (aH d x).1:=by obtain⟨v,hv,oY⟩:=aS.1 hx;obtain⟨rest,h1,h2⟩:=Em h.s hv;rw[kR h hv oY];have p:(an d.1).Perm (x::an (ck d v.1 (iP v.2.1 x)).1) :=h1.trans ((ady rest (uN oY (h.ring hv))).trans (List.Perm.cons x (h2 _).symm));exact⟨p,h.s.re _ _,(ab1.1 (p.nodup_iff.1 h.n)).2⟩
theorem j9{d:ak}(h:Rw d.1){x y:ab}(hx:x∈an d.1)(hy:y∉an d.1):(y::an d.1).Perm (x::an (aE d x y).1)∧Rw (aE d x y).1:=by obtain⟨v,hv,oY⟩:=aS.1 hx;obtain⟨rest,h1,h2⟩:=Em h.s hv;rw[rl h y hv oY];have X3:y∉v.2.1:=fun k=>hy (aS.2 ⟨v,hv,k⟩);have p:(y::an d.1).Perm (x::an (ck d v.1 (fJ v.2.1 x y)).1) :=(List.Perm.cons y h1).trans ((ady rest (NT oY X3)).trans (List.Perm.cons x (h2 _).symm));refine⟨p,h.s.re _ _,?_⟩;exact(ab1.1 (p.nodup_iff.1 (ab1.2 ⟨hy,h.n⟩))).2
theorem vI{d:ak}(h:Rw d.1){c:rN}{x:ab}{v:ai}(hv:aR d.1 c.1=some v)(hx:x∉an d.1):(an (bV d c x).1).Perm (x::an d.1)∧Rw (bV d c x).1:=by
 have X4:=eQ hv;have hvi:=iR hv;obtain⟨rest,h1,h2⟩:=Em h.s X4;have oY:x∉v.2.1:=fun k=>hx (aS.2 ⟨v,X4,k⟩);have e:bV d c x=ck d v.1 (nQ v.2.1 c.2 x):=by unfold bV;rw[←hvi,kQ h.s X4]
 rw[e];have p:(an (ck d v.1 (nQ v.2.1 c.2 x)).1).Perm (x::an d.1) :=(h2 _).trans ((ady rest (R8 c.2 oY)).trans (List.Perm.cons x h1.symm));exact⟨p,h.s.re _ _,p.nodup_iff.2 (ab1.2 ⟨hx,h.n⟩)⟩
structure GV(v:ai):Prop where
 i:cd v.1=true
 l:kL v.2.2.1=true
 a:jM v.2.2.2=true
 t:cp v.2.1=v.2.1
structure GE(e:ag):Prop where
 i:cd e.1=true
 l:kL e.2.1=true
 a:jM e.2.2=true
structure Wf(d:ak):Prop where
 sv:cc d.1
 se:dH d.2
 nv:d.1.length≤24
 ne:d.2.length≤40
 gv:∀v∈d.1,GV v
 ge:∀e∈d.2,GE e
 pd:(an d.1).Perm (ends d.2)
theorem Wf.rw{d:ak}(h:Wf d):Rw d.1:=⟨h.sv,h.pd.nodup_iff.2 (wF h.se)⟩
theorem Wf.zero:Wf zS.1:=⟨List.Pairwise.nil,List.Pairwise.nil,by simp[zS],by simp[zS],by simp[zS],by simp[zS],adR _⟩
theorem GV.re{l:List ai}(h:∀v∈l,GV v)(x:ID){r:List ab}(hr:cp r=r):∀v∈l.map (uH x r),GV v:=fun v hv=>by
 obtain⟨w,hw,rfl⟩:=acn.1 hv;have g:=h w hw;unfold uH
 split
 ·exact⟨g.i,g.l,g.a,hr⟩
 ·exact g
theorem kS{d:ak}(h:∀v∈d.1,GV v)(x:ab):∀v∈(aH d x).1,GV v:=GV.re h _ (R7 _ _)
theorem rm{d:ak}(h:∀v∈d.1,GV v)(x y:ab):∀v∈(aE d x y).1,GV v:=GV.re h _ (NS _ _ _)
theorem Bb{d:ak}(h:∀v∈d.1,GV v)(c:rN)(y:ab):∀v∈(bV d c y).1,GV v:=GV.re h _ (R6 _ _ _)
theorem jy(d:ak)(x:ID)(r:List ab):(ck d x r).1.length=d.1.length:=by unfold ck;simp
theorem Hm:cd zI=false:=by decide
theorem rp{l:List ag}(h:∀e∈l,GE e):dd l zI=l:=by
 unfold dd;rw[List.filter_eq_self];intro e he;have:=(h e he).i
 grind [Hm]
theorem uO{l:List ai}(h:∀e∈l,GV e):cY l zI=l:=by
 unfold cY;rw[List.filter_eq_self];intro e he;have:=(h e he).i
 grind [Hm]
theorem uP:kL e0=true:=by decide
theorem uQ:jM 0=true:=by decide
theorem En{l:List ag}{x:ID}(h:ba l x=none)(s:Int):(x,s)∉ends l:=fun k=>by
 grind [eC,ba,List.find?_eq_none]
theorem Eo{l:List ag}{x:ID}(h:(ba l x).isSome=true){s:Int}(hs:s=0∨s=1):(x,s)∈ends l:=by
 obtain⟨e,he⟩:=acu.1 h
 grind [eC,R1,yh]
theorem V8{o:br}(h:cG o=0):cd (bf o)=true:=by
 grind [cG]
theorem Ep{o:br}(h:cG o=0):1≤o.1∧o.1≤8:=by
 grind [cG]
theorem zY{o:br}(h:cG o=0)(hk:o.1=5):cd (fG o)=true∧cd (bD o)=true∧0≤oN o∧oN o≤3:=by
 unfold cG at h
 grind
theorem LO{o:br}(h:cG o=0)(hk:o.1=8):jM (oN o)=true:=by
 unfold cG at h
 grind
theorem Ho{o:br}(h:cG o=0)(hk:o.1=7):kL (p6 o)=true:=by
 unfold cG at h
 grind
def iS(l:List ax):Prop:=l.Pairwise fun a b=>mD a.1 b.1=true
theorem rq{a b:ab}:nP a b≤0↔a=b∨mD a b=true:=by
 unfold nP
 grind
theorem yk{q g:ax}:∀{l:List ax},q∈mv g l→q=g∨(q∈l∧q.1≠g.1)
 |[],h=>by simp[mv]at h;exact .inl h
 |e::r,h=>by
  unfold mv at h
  split at h
  ·rcases abD.1 h with h|h
   ·exact .inl h
   ·unfold oQ at h;rw[List.mem_filter]at h;exact .inr ⟨h.1,by simpa using h.2⟩
  ·split at h
   ·rename_i bB;rcases abD.1 h with rfl|h
    ·exact .inr ⟨ab4 ..,bB⟩
    ·rcases yk h with h|⟨h,h2⟩
     ·exact .inl h
     ·exact .inr ⟨abA _ h,h2⟩
   ·rcases yk h with h|⟨h,h2⟩
    ·exact .inl h
    ·exact .inr ⟨abA _ h,h2⟩
theorem iS.add(g:ax):∀{l:List ax},iS l→iS (mv g l)
 |[],_=>List.pairwise_singleton _ _
 |e::r,h=>by
  have hr:∀{q:ax},q∈r→mD e.1 q.1=true:=fun {q} hq=>acM h hq;unfold mv
  split
  ·rename_i ho;refine List.Pairwise.cons (fun q hq=>?_) (h.filter _);unfold oQ at hq;rw[List.mem_filter]at hq;have bB:q.1≠g.1:=by simp_all
   have hle:e.1=q.1∨mD e.1 q.1=true:=by
    grind
   grind [rq,absurd,jH]
  ·rename_i ho;have OZ:mD e.1 g.1=true:=by
    grind [mD,rq,zT]
   have hs:=iS.add g (adV h)
   split
   ·refine List.Pairwise.cons (fun q hq=>?_) hs;rcases yk hq with rfl|⟨hq,_⟩
    ·exact OZ
    ·exact hr hq
   ·exact hs
theorem rr(e:ax)(r:List ax)(x:ab):ic (e::r) x=if e.1=x then some e.2 else ic r x:=by
 unfold ic;rw[List.find?_cons];by_cases h:e.1=x
 ·simp[h]
 ·simp[h]
theorem uR{g:ax}:∀{l:List ax},(∀q∈l,q.1≠g.1)→oQ g l=l:=fun {l} h=>by
 grind [oQ,List.filter_eq_self]
theorem LP(g:ax):∀{l:List ax},iS l→(mv g l).length=if(ic l g.1).isSome=true then l.length else l.length+1
 |[],_=>rfl
 |e::r,h=>by
  have hr:∀{q:ax},q∈r→mD e.1 q.1=true:=fun {q} hq=>acM h hq;have ih:=LP g (adV h);unfold mv
  split
  ·rename_i ho;rcases rq.1 ho with ho|ho
   ·have h1:oQ g (e::r)=r:=by
     have:oQ g (e::r)=oQ g r:=by grind [oQ,List.filter_cons_of_neg]
     grind [uR,fe]
    simp_all [rr,if_pos]
   ·have h2:∀q∈e::r,q.1≠g.1:=fun q hq k=>by
     have:mD g.1 q.1=true:=by
      rcases abD.1 hq with rfl|hq
      ·exact ho
      grind [jH]
     grind [fe]
    grind [ic,List.find?,decide,List.find?_eq_none,uR]
  ·rename_i ho;have bB:e.1≠g.1:=fun k=>ho (rq.2 (.inl k.symm));rw[if_pos bB,rr,if_neg bB]
   grind
theorem kT{l:List ax}(h:iS l)(hn:l.length≤400)(g:ax):iS (bT l g)∧(bT l g).length≤400:=by
 grind [bT,iS.add,LP,absurd]
theorem qd{α:Type}{o:Option α}(h:¬o.isSome=false):o.isSome=true:=by grind
structure eZ(s:StateT):Prop where
 d:Wf s.1
 g:iS s.2
 n:s.2.length≤400
theorem eZ.zero:eZ zS:=⟨Wf.zero,List.Pairwise.nil,by simp[zS]⟩
theorem eZ.add{l:List ax}(h:iS l)(hn:l.length≤400){d:ak}(hd:Wf d)(g:ax):eZ (d,bT l g):=⟨hd,(kT h hn g).1,(kT h hn g).2⟩
theorem R9{f:ai→ai}(hf:∀v,(f v).2.1=v.2.1)(l:List ai):an (l.map f)=an l:=by
 grind [an,List.flatMap_map]
theorem V9{f:ag→ag}(hf:∀v,(f v).1=v.1)(l:List ag):ends (l.map f)=ends l:=by
 grind [ends,List.flatMap_map]
theorem PJ(o:br)(w:ag):(j4 o w).1=w.1:=by grind [j4]
theorem Sa(o:br)(w:ai):(iQ o w).2.1=w.2.1:=by grind [iQ]
theorem Wf.uU{d:ak}(h:Wf d){x:ID}(hx:ba d.2 x=none)(s:Int):(x,s)∉an d.1:=fun k=>En hx s (h.pd.mem_iff.1 k)
theorem Wf.kU{d:ak}(h:Wf d){x:ID}(hx:(ba d.2 x).isSome=true){s:Int}(hs:s=0∨s=1):(x,s)∈an d.1:=h.pd.mem_iff.2 (Eo hx hs)
theorem Wf.wB{s:StateT}(h:Wf s.1){o:br}(hm:cG o=0)(hk:7≤o.1):Wf (wB s o).1.1:=by
 have hk8:=(Ep hm).2;unfold Vs.wB
 split
 ·refine⟨h.sv.map (PH o),h.se.map (PJ o),by simp;exact h.nv,by simp;exact h.ne,fun v hv=>?_,fun e he=>?_,?_⟩
  ·obtain⟨w,hw,rfl⟩:=acn.1 hv;have g:=h.gv w hw;unfold iQ
   split
   ·split
    ·rename_i h7;exact⟨g.i,Ho hm h7,g.a,g.t⟩
    ·exact⟨g.i,g.l,LO hm (by omega),g.t⟩
   ·exact g
  ·obtain⟨w,hw,rfl⟩:=acn.1 he;have g:=h.ge w hw;unfold j4
   split
   ·split
    ·rename_i h7;exact⟨g.i,Ho hm h7,g.a⟩
    ·exact⟨g.i,g.l,LO hm (by omega)⟩
   ·exact g
  ·show(an (s.1.1.map (iQ o))).Perm (ends (s.1.2.map (j4 o)));rw[R9 (Sa o),V9 (PJ o)];exact h.pd
 ·exact Wf.zero
theorem ru{s:StateT}{c:rN}(h:(bC s c).2.1=0):(bq s.1 c.1).isSome=true∧(bC s c).1.1=c.1:=by
 unfold bC at h ⊢
 grind
theorem yl{l:List ai}{x y:ID}(r:List ab)(h:(aR l x).isSome=true):(aR (l.map (uH y r)) x).isSome=true:=by
 grind [qb,tv]
theorem Wf.link{d:ak}(h:Wf d){x:ID}(hx:cd x=true)(hn:ba d.2 x=none)(he:¬40≤d.2.length){a b:rN}(ha:(aR d.1 a.1).isSome=true)(hb:(aR d.1 b.1).isSome=true) :
  Wf (bV (bV (d.1,dL (x,(e0,0)) d.2) a (x,0)) b (x,1)):=by
 have hrw:Rw ((d.1,dL (x,(e0,0)) d.2):ak).1:=h.rw;obtain⟨va,hva⟩:=acu.1 ha;have h0:=h.uU hn 0;have h1:=h.uU hn 1;obtain⟨p1,q1⟩:=vI (c:=a) (x:=(x,0)) hrw hva h0;obtain⟨vb,hvb⟩:=acu.1 (yl (x:=b.1) (y:=a.1) (nQ (bI (d.1,dL (x,(e0,0)) d.2) a.1) a.2 (x,0)) hb);have XH:(x,1)∉an (bV (d.1,dL (x,(e0,0)) d.2) a (x,0)).1:=fun k=>by
  grind
 obtain⟨p2,q2⟩:=vI (c:=b) (x:=(x,1)) q1 hvb XH;refine⟨q2.s,zR (x,(e0,0)) h.se hn,?_,?_,Bb (Bb h.gv _ _) _ _,fun e hem=>?_,?_⟩
 ·unfold bV;rw[jy,jy];exact h.nv
 ·show(dL (x,(e0,0)) d.2).length≤40;rw[lR];omega
 ·rcases p7.1 (show e∈dL (x,(e0,0)) d.2 from hem) with rfl|hem
  ·exact⟨hx,uP,uQ⟩
  ·exact h.ge e hem
 ·show(an _).Perm (ends (dL (x,(e0,0)) d.2));refine(p2.trans (List.Perm.cons _ p1)).trans (List.Perm.trans ?_ (Hl (x,(e0,0)) d.2).symm);exact(List.Perm.swap _ _ _).trans (List.Perm.cons _ (List.Perm.cons _ h.pd))
theorem Wf.cut{d:ak}(h:Wf d){x:ID}(hx:(ba d.2 x).isSome=true):Wf (aM (aH (aH d (x,0)) (x,1)) zI x):=by
 have h0:=h.kU hx (s:=0) (.inl rfl);have h1:=h.kU hx (s:=1) (.inr rfl);obtain⟨p1,q1⟩:=fX h.rw h0;have XH:(x,1)∈an (aH d (x,0)).1:=by
  grind
 obtain⟨p2,q2⟩:=fX q1 XH;have Sb:=kS (kS h.gv (x,0)) (x,1);have Tf:(aM (aH (aH d (x,0)) (x,1)) zI x).1=(aH (aH d (x,0)) (x,1)).1:=uO Sb;refine⟨by rw[Tf];exact q2.s,wC h.se,?_,?_,by simp_all,fun e he=>h.ge e ?_,?_⟩
 ·rw[Tf];unfold aH;rw[jy,jy];exact h.nv
 ·exact acE (adA _ _) h.ne
 ·exact(adE.1 (show e∈d.2.filter fun w=>decide (w.1≠x) from he)).1
 ·rw[Tf];show(an (aH (aH d (x,0)) (x,1)).1).Perm (ends (dd d.2 x));have p3:((x,0)::(x,1)::an (aH (aH d (x,0)) (x,1)).1).Perm ((x,0)::(x,1)::ends (dd d.2 x)) :=((p1.trans (List.Perm.cons _ p2)).symm.trans h.pd).trans (El h.se hx);simp_all
theorem hZ{x:ab}(h:x.2=0∨x.2=1):(aj x).1=x.1∧((x.2=0∧(aj x).2=1)∨(x.2=1∧(aj x).2=0)):=by
 refine⟨rfl,?_⟩;unfold aj;rcases h with h|h
 ·exact .inl ⟨h,by rw[h];rfl⟩
 ·exact .inr ⟨h,by rw[h];rfl⟩
theorem LQ{x:ab}(h:x.2=0∨x.2=1)(l:List ab):(x::aj x::l).Perm ((x.1,0)::(x.1,1)::l):=by
 obtain⟨h1,h2⟩:=hZ h
 grind
theorem Er{n:Int}(h0:0≤n)(h3:n≤3):(IntKind.wrap .i64 (1-Int.tmod n 2)=0∨IntKind.wrap .i64 (1-Int.tmod n 2)=1)∧(IntKind.wrap .i64 (Int.tdiv n 2)=0∨IntKind.wrap .i64 (Int.tdiv n 2)=1):=by
 have:n=0∨n=1∨n=2∨n=3:=by omega
 rcases this with rfl|rfl|rfl|rfl<;>exact⟨by decide,by decide⟩
theorem Wf.split{d:ak}(h:Wf d){m k:ab}{v:ID}(hv:cd v=true)(hk:cd k.1=true)(TT:m.2=0∨m.2=1)(qu:k.2=0∨k.2=1)(hm:(ba d.2 m.1).isSome=true)(MU:aR d.1 v=none)(hnk:ba d.2 k.1=none) (hlv:¬24≤d.1.length) (hle:¬40≤d.2.length):Wf (c8 (v,(cp [m,k],(e0,0))) (aE d m (aj k)).1,dL (k.1,(e0,0)) (aE d m (aj k)).2):=by
 have JE:m∈an d.1:=h.kU hm TT;have JD:aj k∉an d.1:=h.uU hnk _;obtain⟨p1,q1⟩:=j9 h.rw JE JD;have agy:aR (aE d m (aj k)).1 v=none:=by
  grind [aE,Vs.ck,qb,tv]
 refine⟨qa (v,(cp [m,k],(e0,0))) q1.s agy,zR (k.1,(e0,0)) h.se hnk,?_,?_,fun w hw=>?_,fun e he=>?_,?_⟩
 ·grind [c8,aE,aj,fL,jy]
 ·show(dL _ d.2).length≤40;rw[lR];omega
 ·rcases j5.1 hw with rfl|hw
  ·exact⟨hv,uP,uQ,uM _⟩
  ·exact rm h.gv _ _ w hw
 ·rcases p7.1 (show e∈dL (k.1,(e0,0)) d.2 from he) with rfl|he
  ·exact⟨hk,uP,uQ⟩
  ·exact h.ge e he
 ·show(an (c8 _ _)).Perm (ends (dL (k.1,(e0,0)) d.2));refine(wG _ _).trans (List.Perm.trans ?_ (Hl (k.1,(e0,0)) d.2).symm);refine(ady _ (kO [m,k])).trans ?_;show(m::k::an (aE d m (aj k)).1).Perm _;refine(List.Perm.swap k m _).trans ((List.Perm.cons k p1.symm).trans ?_);refine(LQ qu _).trans ?_;exact List.Perm.cons _ (List.Perm.cons _ h.pd)
theorem Wf.Wa{d:ak}(h:Wf d){v:ai}(hv:v∈d.1)(hr:v.2.1=[]):Wf (aM d v.1 zI):=by
 obtain⟨a,b,h1,_,h2,_⟩:=nH h.sv hv;refine⟨nF h.sv,?_,acE (adA _ _) h.nv,acE (adA _ _) h.ne,fun w hw=>h.gv w ?_,fun e he=>h.ge e ?_,?_⟩
 ·exact wC h.se
 ·exact(adE.1 (show w∈d.1.filter fun w=>decide (w.1≠v.1) from hw)).1
 ·exact(adE.1 (show e∈d.2.filter fun w=>decide (w.1≠zI) from he)).1
 ·show(an (cY d.1 v.1)).Perm (ends (dd d.2 zI));rw[h2,rp h.ge];have p:=jI a b v;rw[←h1,hr,List.nil_append]at p;exact p.symm.trans h.pd
theorem Wf.acv{d:ak}(h:Wf d){v:ai}{a b:ab}(hv:v∈d.1)(hr:v.2.1.Perm [a,b])(zH:a.1≠b.1):Wf (aM (aE (aM d v.1 zI) (aj b) a) zI b.1):=by
 obtain⟨p,q,h1,_,h2,_⟩:=nH h.sv hv;have pd:(an d.1).Perm (a::b::an (p++q)):=by have:=(jI p q v).trans (ady _ hr);simp_all
 have Sc:aM d v.1 zI=(p++q,d.2):=by unfold aM;rw[h2,rp h.ge]
 have Fq:=pd.nodup_iff.1 h.rw.n;have hbm:b∈ends d.2:=h.pd.mem_iff.1 (pd.mem_iff.2 (by simp));obtain⟨e,he,he1,Fk⟩:=eC.1 hbm;have GO:(ba d.2 b.1).isSome=true:=by
  grind [ba,List.find?_isSome]
 obtain⟨_,ho⟩:=hZ Fk;have Sd:aj b∈an (p++q):=by
  have h3:aj b∈an d.1:=h.kU (s:=(aj b).2) GO (by omega);rcases abD.1 (pd.mem_iff.1 h3) with k|k
  ·simp_all
  rcases abD.1 k with k|k
  ·have:=congrArg Prod.snd k;omega
  ·exact k
 have Jd:Rw (p++q):=by refine⟨?_,(ab1.1 (ab1.1 Fq).2).2⟩;rw[←h2];exact nF h.sv
 have ha:a∉an (p++q):=fun k=>(ab1.1 Fq).1 (abA _ k);rw[Sc];obtain⟨p1,q1⟩:=j9 (d:=(p++q,d.2)) Jd Sd ha;have Sb:∀w∈(aE (p++q,d.2) (aj b) a).1,GV w:=by
  refine rm (d:=(p++q,d.2)) (fun w hw=>h.gv w ?_) _ _
  grind
 have Tf:(aM (aE (p++q,d.2) (aj b) a) zI b.1).1=(aE (p++q,d.2) (aj b) a).1:=uO Sb;refine⟨by rw[Tf];exact q1.s,wC h.se,?_,acE (adA _ _) h.ne,by simp_all,fun f hf=>h.ge f ?_,?_⟩
 ·rw[Tf];unfold aE;rw[jy];have:=h.nv
  grind
 ·exact(adE.1 (show f∈d.2.filter fun w=>decide (w.1≠b.1) from hf)).1
 ·rw[Tf];show(an (aE (p++q,d.2) (aj b) a).1).Perm (ends (dd d.2 b.1));have p3:(b::aj b::an (aE (p++q,d.2) (aj b) a).1).Perm (b::aj b::ends (dd d.2 b.1)):=by refine List.Perm.trans (List.Perm.cons b p1.symm) ?_;refine(List.Perm.swap a b _).trans (pd.symm.trans (h.pd.trans ?_));exact(El h.se GO).trans (LQ Fk _).symm
  simp_all
theorem eZ.one{s:StateT}(h:eZ s)(o:br):eZ (kh s o).1:=by
 unfold kh
 split
 ·exact eZ.zero
 rename_i hm;have hm:cG o=0:=Classical.byContradiction fun k=>hm k;have bM:=V8 hm
 split
 ·unfold oy
  split;· exact eZ.zero
  split;· exact eZ.zero
  rename_i h1 h2;have hn:aR s.1.1 (bf o)=none:=by simpa[bq] using h1
  refine⟨⟨qa _ h.d.sv hn,h.d.se,by grind [c8,fL],h.d.ne,fun w hw=>?_,h.d.ge,?_⟩,h.g,h.n⟩
  ·rcases j5.1 hw with rfl|hw
   ·exact⟨bM,uP,uQ,rfl⟩
   ·exact h.d.gv w hw
  ·exact(wG _ _).trans h.d.pd
 split
 ·unfold vF
  cases hv:bq s.1 (bf o) with
  |none=>exact eZ.zero
  |some v =>
   simp only
   split
   ·exact eZ.zero
   ·rename_i hr;have:=h.d.Wa (eQ hv) (by simpa using hr);rw[iR hv]at this;exact⟨this,h.g,h.n⟩
 split
 ·unfold ox
  split;· exact eZ.zero
  split;· exact eZ.zero
  split;· exact eZ.zero
  split;· exact eZ.zero
  split;· exact eZ.zero
  rename_i h1 h2 h3 h4 h5;have hn:ba s.1.2 (bf o)=none:=by simpa[hP] using h1
  obtain⟨ca,ca2⟩:=ru (s:=s) (c:=oA o) (Classical.byContradiction fun k=>h3 k);obtain⟨cb,cb2⟩:=ru (s:=s) (c:=oB o) (Classical.byContradiction fun k=>h4 k);refine⟨?_,h.g,h.n⟩;unfold ig;refine h.d.link bM hn h2 (by rw[ca2];exact ca) ?_
  split
  ·exact cb
  ·rw[cb2];exact cb
 split
 ·unfold Ec
  split;· exact eZ.zero
  rename_i h1;have h2:=kT h.g h.n ((bf o,0),dq s.1 (bf o,0));exact eZ.add h2.1 h2.2 (h.d.cut (qd h1)) _
 split
 ·rename_i hk;unfold kM
  split;· exact eZ.zero
  split;· exact eZ.zero
  split;· exact eZ.zero
  split;· exact eZ.zero
  split;· exact eZ.zero
  rename_i h1 h2 h3 h4 h5;obtain⟨m1,m2,m3,m4⟩:=zY hm hk;obtain⟨s1,s2⟩:=Er m3 m4;refine⟨?_,h.g,h.n⟩;exact h.d.split (m:=LF o) (k:=Hg o) m1 m2 s1 s2 (qd h1) (by simpa[bq] using h2) (by simpa[hP,Hg] using h3) h4 h5
 split
 ·unfold j6
  split
  ·exact eZ.zero
  ·rename_i v hv
   split
   ·rename_i r0 r1 hr;have X4:=eQ hv;have hvi:=iR hv;have key:∀a b:ab,v.2.1.Perm [a,b]→a.1≠b.1→eZ (JH s o a b,JG s.2 a b):=fun a b hp zH=>by have h2:=kT h.g h.n ((b.1,0),oR a b 0);have:=h.d.acv X4 hp zH;rw[hvi]at this;exact eZ.add h2.1 h2.2 this _
    grind [jg,eZ.zero]
   ·exact eZ.zero
 ·rename_i k1 k2 k3 k4 k5 k6;have hk:=Ep hm;have:=h.d.wB hm (by omega);refine⟨this,?_,?_⟩
  ·unfold wB;split
   ·exact h.g
   ·exact List.Pairwise.nil
  ·unfold wB;split
   ·exact h.n
   ·simp[zS]
theorem eZ.go:∀(l:List br) {s:StateT},eZ s→eZ (Ed l s).1
 |[],s,h=>h
 |o::r,s,h=>by
  unfold Ed
  split
  ·exact eZ.zero
  ·exact eZ.go r (h.one o)
theorem eZ.apply{s:StateT}(h:eZ s)(l:List br):eZ (cZ s l).1:=by
 grind [cZ,eZ.zero,eZ.go]
theorem eZ.try{s:StateT}(h:eZ s)(l:List br):eZ (hY s l):=by
 unfold hY
 split
 ·exact h
 ·exact h.apply l
theorem eZ.reach:∀(m:Nat) (l:List (List br)) {s:StateT},eZ s→eZ (nE m l s)
 |0,_,s,h=>by simpa[nE] using h
 |m+1,[],s,h=>h
 |m+1,l::r,s,h=>by rw[nE];exact eZ.reach m r (h.try _)
theorem eZ.PE(l:List (List br)):eZ (Ee l):=eZ.reach 30 l eZ.zero
end Go.Vs
