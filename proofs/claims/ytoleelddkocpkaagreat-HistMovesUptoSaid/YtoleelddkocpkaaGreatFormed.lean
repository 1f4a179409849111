/- Diagrams that are well formed -/
import Derived.Test.YtoleelddkocpkaaGreatRings
set_option linter.unusedVariables false
set_option linter.unusedSimpArgs false
namespace Go.Vs
open Go.Proofs
theorem kL(row:List ab):(cp row).Perm row:=by
 grind [cp,EX,List.Perm.of_eq,List.take_append_drop]
theorem RH{row:List ab}(h:0<row.length)(hl:∀j,(hj:j<row.length)→mv row[j] row[0]=false):fT row row 0 0=0:=by
 grind [ot,wj,fT,qY]
theorem VI(row:List ab):EX row 0=row:=by unfold EX;simp
theorem uB(row:List ab):cp (cp row)=cp row:=by
 by_cases h0:row.length=0
 ·have:row=[]:=by simpa using h0
  subst this;rfl
 have hp:0<row.length:=by omega
 have hm:=ot row row 0 0 hp (by omega);have hp2:0<(cp row).length:=by grind [jD]
 have h1:(cp row)[0]=row.getD (fT row row 0 0) zD:=by have:=Pe (row:=row) (k:=fT row row 0 0) (i:=0) (by omega) hp;rw[Nat.add_zero,Nat.mod_eq_of_lt hm,List.getElem?_eq_getElem hm]at this;rw[qY hm];exact(abu.1 this).2
 have h2:fT (cp row) (cp row) 0 0=0:=by
  grind [RH,cp,pQ,List.getElem_mem,List.getElem_of_mem,wj]
 grind [cp,VI]
theorem RI(row:List ab)(a d:ab):cp (nM row a d)=nM row a d:=by grind [nM,uB]
theorem RJ(row:List ab)(d:ab):cp (iM row d)=iM row d:=uB _
theorem Nu(row:List ab)(a d:ab):cp (fF row a d)=fF row a d:=uB _
theorem RL{row:List ab}{d:ab}(a:ab)(h:d∉row):(nM row a d).Perm (d::row):=by
 unfold nM;rw[if_neg h]
 grind [kL,trans,List.take_append_drop]
theorem uC{row:List ab}{d:ab}(h:d∈row)(hn:row.Nodup):row.Perm (d::iM row d):=by
 obtain⟨k,_,h2,_⟩:=eR h;obtain⟨h3,h4⟩:=abu.1 h2;unfold iM;rw[zM hn h2];refine List.Perm.trans ?_ (List.Perm.cons d (kL _).symm)
 grind [List.take_append_drop,List.drop_eq_getElem_cons,List.perm_middle]
theorem Nv{row:List ab}{cF d:ab}(h:cF∈row)(hd:d∉row):(d::row).Perm (cF::fF row cF d):=by
 obtain⟨k,h1,h2,_⟩:=eR h;obtain⟨h3,h4⟩:=abu.1 h2;unfold fF;rw[if_pos ⟨h,hd⟩,h1,Int.toNat_natCast];refine List.Perm.trans ?_ (List.Perm.cons cF (kL _).symm)
 grind
def an(l:List ai):List ab:=l.flatMap fun v=>v.2.1
def ends(l:List ag):List ab:=l.flatMap fun e=>[(e.1,0),(e.1,1)]
theorem eY(v:ai)(l:List ai):an (v::l)=v.2.1++an l:=List.flatMap_cons
theorem kM(a b:List ai):an (a++b)=an a++an b:=List.flatMap_append
theorem jH(a b:List ai)(v:ai):(an (a++v::b)).Perm (v.2.1++an (a++b)):=by
 grind [kM,eY,List.append_assoc,List.Perm.append_right,List.perm_append_comm]
theorem aU{x:ab}{l:List ai}:x∈an l↔∃v∈l,x∈v.2.1:=List.mem_flatMap
theorem gu(e:ag)(l:List ag):ends (e::l)=(e.1,0)::(e.1,1)::ends l:=by rfl
theorem Ln(a b:List ag):ends (a++b)=ends a++ends b:=List.flatMap_append
theorem dZ{x:ab}{l:List ag}:x∈ends l↔∃e∈l,e.1=x.1∧(x.2=0∨x.2=1):=by
 unfold ends
 grind
theorem wm:∀{l:List ag},dC l→(ends l).Nodup
 |[],_=>List.nodup_nil
 |e::r,h=>by
  have bz:∀s:Int,(e.1,s)∉ends r:=fun s hs=>by obtain⟨f,hf,h1,_⟩:=dZ.1 hs;have:=acF h hf;simp only at h1;rw[h1,bZ]at this;cases this
  rw[gu];refine abP.2 ⟨?_,abP.2 ⟨bz 1,wm h.of_cons⟩⟩;rw[List.mem_cons];rintro(h1|h1)
  ·cases h1
  ·exact bz 0 h1
theorem G4(e:ag):∀l:List ag,(dH e l).Perm (e::l)
 |[]=>adD _
 |w::r=>by
  unfold dH
  split
  ·exact adD _
  ·exact(List.Perm.cons w (G4 e r)).trans (List.Perm.swap e w r)
theorem G5(e:ai):∀l:List ai,(cW e l).Perm (e::l)
 |[]=>adD _
 |w::r=>by
  unfold cW
  split
  ·exact adD _
  ·exact(List.Perm.cons w (G5 e r)).trans (List.Perm.swap e w r)
theorem G6(e:ag)(l:List ag):(ends (dH e l)).Perm ((e.1,0)::(e.1,1)::ends l):=by rw[←gu];exact List.Perm.flatMap_right _ (G4 e l)
theorem wo(v:ai)(l:List ai):(an (cW v l)).Perm (v.2.1++an l):=by rw[←eY];exact List.Perm.flatMap_right _ (G5 v l)
theorem Ed{l:List ag}{x:ID}(hs:dC l)(h:(aZ l x).isSome=true):(ends l).Perm ((x,0)::(x,1)::ends (c9 l x)):=by
 obtain⟨e,he⟩:=acn.1 h;obtain⟨h3,h4⟩:=abu.1 (nw hs he);rw[zH hs h]
 conv=>lhs;rw[←List.take_append_drop (ct l x) l,List.drop_eq_getElem_cons h3,h4]
 rw[←xY he,←gu];exact List.Perm.flatMap_right _ List.perm_middle
theorem j5{l:List ai}{v:ai}(hs:b7 l)(h:v∈l):aR l v.1=some v:=by
 have hf:(aR l v.1).isSome=true:=by
  grind [aR,List.find?_isSome]
 obtain⟨u,hu⟩:=acn.1 hf;have h1:=dm hs hu;obtain⟨k,hk,he⟩:=adA h;have h2:l[k]? = some v:=by simp_all
 rw[kK hs h2 rfl,h1]at h2;simp_all
theorem nC{l:List ai}{v:ai}(hs:b7 l)(h:v∈l):∃a b,l=a++v::b∧(∀u∈a++b,u.1≠v.1)∧cU l v.1=a++b∧∀r,l.map (uu v.1 r)=a++(v.1,(r,v.2.2))::b:=by
 obtain⟨a,b,rfl⟩:=adh h;have hp:=List.pairwise_append.1 hs;have hb:=List.pairwise_cons.1 hp.2.1;have bz:∀u∈a++b,u.1≠v.1:=fun u hu e=>by
  rcases abX.1 hu with hu|hu
  ·have:=hp.2.2 u hu v (by simp);rw[e,bZ]at this;cases this
  ·have:=hb.1 u hu;rw[e,bZ]at this;cases this
 have hm:∀(r:List ab) (c:List ai),(∀u∈c,u.1≠v.1)→c.map (uu v.1 r)=c:=fun r c hc=>by
  conv=>rhs;rw[←List.map_id c]
  exact List.map_congr_left fun u hu=>by unfold uu;rw[if_neg (hc u hu)];rfl
 have hd:∀c:List ai,(∀u∈c,u.1≠v.1)→cU c v.1=c:=fun c hc=>by unfold cU;rw[List.filter_eq_self];intro u hu;simpa using hc u hu
 refine⟨a,b,rfl,bz,?_,fun r=>?_⟩
 ·unfold cU;rw[List.filter_append,List.filter_cons_of_neg (by simp)];have h1:=hd a (fun u hu=>bz u (abG _ hu));have h2:=hd b (fun u hu=>bz u (abA _ hu));unfold cU at h1 h2;rw[h1,h2]
 ·rw[List.map_append,List.map_cons,hm r a (fun u hu=>bz u (List.mem_append_left _ hu)),hm r b (fun u hu=>bz u (List.mem_append_right _ hu))];unfold uu;rw[if_pos rfl]
structure Rw(l:List ai):Prop where
 s:b7 l
 n:(an l).Nodup
theorem Rw.ring{l:List ai}(h:Rw l){v:ai}(hv:v∈l):v.2.1.Nodup:=by obtain⟨a,b,rfl,_⟩:=nC h.s hv;exact(adk.1 ((jH a b v).nodup_iff.1 h.n)).1
theorem Rw.one{l:List ai}(h:Rw l){v w:ai}{x:ab}(hv:v∈l)(hw:w∈l)(hx:x∈v.2.1)(hy:x∈w.2.1):w=v:=by
 obtain⟨a,b,rfl,_⟩:=nC h.s hv;have hn:=adk.1 ((jH a b v).nodup_iff.1 h.n);have:w∈a++v::b:=hw;rw[List.mem_append,List.mem_cons]at this;rcases this with k|k|k
 ·exact absurd rfl (hn.2.2 x hx x (aU.2 ⟨w,abG _ k,hy⟩))
 ·exact k
 ·exact absurd rfl (hn.2.2 x hx x (aU.2 ⟨w,abA _ k,hy⟩))
theorem eZ{l:List ai}(h:Rw l){v:ai}{x:ab}(hv:v∈l)(hx:x∈v.2.1):EY l x=some v.1:=by
 have hf:(l.find? fun u=>decide (x∈u.2.1)).isSome=true:=by grind
 obtain⟨u,hu⟩:=acn.1 hf;have h1:=ade hu;have h2:x∈u.2.1:=by grind
 unfold EY;rw[hu,h.one hv h1 hx h2];rfl
theorem Lo{l:List ai}{x:ab}(h:x∉an l):EY l x=none:=by
 grind [EY,decide,List.find?_eq_none,aU]
theorem kN{d:ak}(h:b7 d.1){v:ai}(hv:v∈d.1):bH d v.1=v.2.1:=by
 grind [bH,bp,j5]
theorem kO{d:ak}(h:Rw d.1){v:ai}{x:ab}(hv:v∈d.1)(hx:x∈v.2.1):aH d x=cj d v.1 (iM v.2.1 x):=by unfold aH cd;rw[eZ h hv hx];show cj d v.1 (iM (bH d v.1) x)=_;rw[kN h.s hv]
theorem qZ{d:ak}(h:Rw d.1){v:ai}{x:ab}(y:ab)(hv:v∈d.1)(hx:x∈v.2.1):aE d x y=cj d v.1 (fF v.2.1 x y):=by unfold aE cd;rw[eZ h hv hx];show cj d v.1 (fF (bH d v.1) x y)=_;rw[kN h.s hv]
theorem b7.re{l:List ai}(h:b7 l)(x:ID)(r:List ab):b7 (l.map (uu x r)):=h.map (s8 x r)
theorem Ee{l:List ai}{v:ai}(hs:b7 l)(hv:v∈l):∃rest,(an l).Perm (v.2.1++rest)∧∀r,(an (l.map (uu v.1 r))).Perm (r++rest):=by
 grind [nC,an,jH]
theorem fU{d:ak}(h:Rw d.1){x:ab}(hx:x∈an d.1):(an d.1).Perm (x::an (aH d x).1)∧Rw (aH d x).1:=by obtain⟨v,hv,oS⟩:=aU.1 hx;obtain⟨rest,h1,h2⟩:=Ee h.s hv;rw[kO h hv oS];have p:(an d.1).Perm (x::an (cj d v.1 (iM v.2.1 x)).1) :=h1.trans ((adm rest (uC oS (h.ring hv))).trans (List.Perm.cons x (h2 _).symm));exact⟨p,h.s.re _ _,(abP.1 (p.nodup_iff.1 h.n)).2⟩
theorem j6{d:ak}(h:Rw d.1){x y:ab}(hx:x∈an d.1)(hy:y∉an d.1):(y::an d.1).Perm (x::an (aE d x y).1)∧Rw (aE d x y).1:=by obtain⟨v,hv,oS⟩:=aU.1 hx;obtain⟨rest,h1,h2⟩:=Ee h.s hv;rw[qZ h y hv oS];have XG:y∉v.2.1:=fun k=>hy (aU.2 ⟨v,hv,k⟩);have p:(y::an d.1).Perm (x::an (cj d v.1 (fF v.2.1 x y)).1) :=(List.Perm.cons y h1).trans ((adm rest (Nv oS XG)).trans (List.Perm.cons x (h2 _).symm));refine⟨p,h.s.re _ _,?_⟩;exact(abP.1 (p.nodup_iff.1 (abP.2 ⟨hy,h.n⟩))).2
theorem vv{d:ak}(h:Rw d.1){c:rC}{x:ab}{v:ai}(hv:aR d.1 c.1=some v)(hx:x∉an d.1):(an (bU d c x).1).Perm (x::an d.1)∧Rw (bU d c x).1:=by
 have XH:=eO hv;have hvi:=iP hv;obtain⟨rest,h1,h2⟩:=Ee h.s XH;have oS:x∉v.2.1:=fun k=>hx (aU.2 ⟨v,XH,k⟩);have e:bU d c x=cj d v.1 (nM v.2.1 c.2 x):=by unfold bU;rw[←hvi,kN h.s XH]
 rw[e];have p:(an (cj d v.1 (nM v.2.1 c.2 x)).1).Perm (x::an d.1) :=(h2 _).trans ((adm rest (RL c.2 oS)).trans (List.Perm.cons x h1.symm));exact⟨p,h.s.re _ _,p.nodup_iff.2 (abP.2 ⟨hx,h.n⟩)⟩
structure GV(v:ai):Prop where
 i:ck v.1=true
 l:kI v.2.2.1=true
 a:jX v.2.2.2=true
 t:cp v.2.1=v.2.1
structure GE(e:ag):Prop where
 i:ck e.1=true
 l:kI e.2.1=true
 a:jX e.2.2=true
structure Wf(d:ak):Prop where
 sv:b7 d.1
 se:dC d.2
 nv:d.1.length≤24
 ne:d.2.length≤40
 gv:∀v∈d.1,GV v
 ge:∀e∈d.2,GE e
 pd:(an d.1).Perm (ends d.2)
theorem Wf.rw{d:ak}(h:Wf d):Rw d.1:=⟨h.sv,h.pd.nodup_iff.2 (wm h.se)⟩
theorem Wf.zero:Wf zS.1:=⟨List.Pairwise.nil,List.Pairwise.nil,by simp[zS],by simp[zS],by simp[zS],by simp[zS],adD _⟩
theorem GV.re{l:List ai}(h:∀v∈l,GV v)(x:ID){r:List ab}(hr:cp r=r):∀v∈l.map (uu x r),GV v:=fun v hv=>by
 obtain⟨w,hw,rfl⟩:=ace.1 hv;have g:=h w hw;unfold uu
 split
 ·exact⟨g.i,g.l,g.a,hr⟩
 ·exact g
theorem kP{d:ak}(h:∀v∈d.1,GV v)(x:ab):∀v∈(aH d x).1,GV v:=GV.re h _ (RJ _ _)
theorem q6{d:ak}(h:∀v∈d.1,GV v)(x y:ab):∀v∈(aE d x y).1,GV v:=GV.re h _ (Nu _ _ _)
theorem A2{d:ak}(h:∀v∈d.1,GV v)(c:rC)(y:ab):∀v∈(bU d c y).1,GV v:=GV.re h _ (RI _ _ _)
theorem jv(d:ak)(x:ID)(r:List ab):(cj d x r).1.length=d.1.length:=by unfold cj;simp
theorem G7:ck zI=false:=by decide
theorem q7{l:List ag}(h:∀e∈l,GE e):c9 l zI=l:=by
 unfold c9;rw[List.filter_eq_self];intro e he;have:=(h e he).i
 grind [G7]
theorem uD{l:List ai}(h:∀e∈l,GV e):cU l zI=l:=by
 unfold cU;rw[List.filter_eq_self];intro e he;have:=(h e he).i
 grind [G7]
theorem uE:kI e0=true:=by decide
theorem uF:jX 0=true:=by decide
theorem Ef{l:List ag}{x:ID}(h:aZ l x=none)(s:Int):(x,s)∉ends l:=fun k=>by
 grind [dZ,aZ,List.find?_eq_none]
theorem Eg{l:List ag}{x:ID}(h:(aZ l x).isSome=true){s:Int}(hs:s=0∨s=1):(x,s)∈ends l:=by
 obtain⟨e,he⟩:=acn.1 h
 grind [dZ,RF,xY]
theorem VJ{o:bq}(h:cC o=0):ck (ba o)=true:=by
 grind [cC]
theorem Eh{o:bq}(h:cC o=0):1≤o.1∧o.1≤8:=by
 grind [cC]
theorem zN{o:bq}(h:cC o=0)(hk:o.1=5):ck (fC o)=true∧ck (bC o)=true∧0≤oN o∧oN o≤3:=by
 unfold cC at h
 grind
theorem Lq{o:bq}(h:cC o=0)(hk:o.1=8):jX (oN o)=true:=by
 unfold cC at h
 grind
theorem G8{o:bq}(h:cC o=0)(hk:o.1=7):kI (pT o)=true:=by
 unfold cC at h
 grind
def iQ(l:List ax):Prop:=l.Pairwise fun a b=>mv a.1 b.1=true
theorem q8{a b:ab}:nL a b≤0↔a=b∨mv a b=true:=by
 unfold nL
 grind
theorem yd{q g:ax}:∀{l:List ax},q∈mj g l→q=g∨(q∈l∧q.1≠g.1)
 |[],h=>by simp[mj]at h;exact .inl h
 |e::r,h=>by
  unfold mj at h
  split at h
  ·rcases abz.1 h with h|h
   ·exact .inl h
   ·unfold oK at h;rw[List.mem_filter]at h;exact .inr ⟨h.1,by simpa using h.2⟩
  ·split at h
   ·rename_i bz;rcases abz.1 h with rfl|h
    ·exact .inr ⟨abV ..,bz⟩
    ·rcases yd h with h|⟨h,h2⟩
     ·exact .inl h
     ·exact .inr ⟨abt _ h,h2⟩
   ·rcases yd h with h|⟨h,h2⟩
    ·exact .inl h
    ·exact .inr ⟨abt _ h,h2⟩
theorem iQ.add(g:ax):∀{l:List ax},iQ l→iQ (mj g l)
 |[],_=>List.pairwise_singleton _ _
 |e::r,h=>by
  have hr:∀{q:ax},q∈r→mv e.1 q.1=true:=fun {q} hq=>acF h hq;unfold mj
  split
  ·rename_i ho;refine List.Pairwise.cons (fun q hq=>?_) (h.filter _);unfold oK at hq;rw[List.mem_filter]at hq;have bz:q.1≠g.1:=by simp_all
   have hle:e.1=q.1∨mv e.1 q.1=true:=by
    grind
   grind [q8,absurd,jG]
  ·rename_i ho;have Ov:mv e.1 g.1=true:=by
    grind [mv,q8,zK]
   have hs:=iQ.add g (adE h)
   split
   ·refine List.Pairwise.cons (fun q hq=>?_) hs;rcases yd hq with rfl|⟨hq,_⟩
    ·exact Ov
    ·exact hr hq
   ·exact hs
theorem q9(e:ax)(r:List ax)(x:ab):ia (e::r) x=if e.1=x then some e.2 else ia r x:=by
 unfold ia;rw[List.find?_cons];by_cases h:e.1=x
 ·simp[h]
 ·simp[h]
theorem uG{g:ax}:∀{l:List ax},(∀q∈l,q.1≠g.1)→oK g l=l:=fun {l} h=>by
 grind [oK,List.filter_eq_self]
theorem Lr(g:ax):∀{l:List ax},iQ l→(mj g l).length=if(ia l g.1).isSome=true then l.length else l.length+1
 |[],_=>rfl
 |e::r,h=>by
  have hr:∀{q:ax},q∈r→mv e.1 q.1=true:=fun {q} hq=>acF h hq;have ih:=Lr g (adE h);unfold mj
  split
  ·rename_i ho;rcases q8.1 ho with ho|ho
   ·have h1:oK g (e::r)=r:=by
     have:oK g (e::r)=oK g r:=by grind [oK,List.filter_cons_of_neg]
     grind [uG,eX]
    simp_all [q9,if_pos]
   ·have h2:∀q∈e::r,q.1≠g.1:=fun q hq k=>by
     have:mv g.1 q.1=true:=by
      rcases abz.1 hq with rfl|hq
      ·exact ho
      grind [jG]
     grind [eX]
    grind [ia,List.find?,decide,List.find?_eq_none,uG]
  ·rename_i ho;have bz:e.1≠g.1:=fun k=>ho (q8.2 (.inl k.symm));rw[if_pos bz,q9,if_neg bz]
   grind
theorem kQ{l:List ax}(h:iQ l)(hn:l.length≤400)(g:ax):iQ (bS l g)∧(bS l g).length≤400:=by
 grind [bS,iQ.add,Lr,absurd]
theorem pY{α:Type}{o:Option α}(h:¬o.isSome=false):o.isSome=true:=by grind
structure eI(s:StateT):Prop where
 d:Wf s.1
 g:iQ s.2
 n:s.2.length≤400
theorem eI.zero:eI zS:=⟨Wf.zero,List.Pairwise.nil,by simp[zS]⟩
theorem eI.add{l:List ax}(h:iQ l)(hn:l.length≤400){d:ak}(hd:Wf d)(g:ax):eI (d,bS l g):=⟨hd,(kQ h hn g).1,(kQ h hn g).2⟩
theorem RM{f:ai→ai}(hf:∀v,(f v).2.1=v.2.1)(l:List ai):an (l.map f)=an l:=by
 grind [an,List.flatMap_map]
theorem VL{f:ag→ag}(hf:∀v,(f v).1=v.1)(l:List ag):ends (l.map f)=ends l:=by
 grind [ends,List.flatMap_map]
theorem Pk(o:bq)(w:ag):(jY o w).1=w.1:=by grind [jY]
theorem RN(o:bq)(w:ai):(iO o w).2.1=w.2.1:=by grind [iO]
theorem Wf.uH{d:ak}(h:Wf d){x:ID}(hx:aZ d.2 x=none)(s:Int):(x,s)∉an d.1:=fun k=>Ef hx s (h.pd.mem_iff.1 k)
theorem Wf.kR{d:ak}(h:Wf d){x:ID}(hx:(aZ d.2 x).isSome=true){s:Int}(hs:s=0∨s=1):(x,s)∈an d.1:=h.pd.mem_iff.2 (Eg hx hs)
theorem Wf.wg{s:StateT}(h:Wf s.1){o:bq}(hm:cC o=0)(hk:7≤o.1):Wf (wg s o).1.1:=by
 have hk8:=(Eh hm).2;unfold Vs.wg
 split
 ·refine⟨h.sv.map (Ph o),h.se.map (Pk o),by simp;exact h.nv,by simp;exact h.ne,fun v hv=>?_,fun e he=>?_,?_⟩
  ·obtain⟨w,hw,rfl⟩:=ace.1 hv;have g:=h.gv w hw;unfold iO
   split
   ·split
    ·rename_i h7;exact⟨g.i,G8 hm h7,g.a,g.t⟩
    ·exact⟨g.i,g.l,Lq hm (by omega),g.t⟩
   ·exact g
  ·obtain⟨w,hw,rfl⟩:=ace.1 he;have g:=h.ge w hw;unfold jY
   split
   ·split
    ·rename_i h7;exact⟨g.i,G8 hm h7,g.a⟩
    ·exact⟨g.i,g.l,Lq hm (by omega)⟩
   ·exact g
  ·show(an (s.1.1.map (iO o))).Perm (ends (s.1.2.map (jY o)));rw[RM (RN o),VL (Pk o)];exact h.pd
 ·exact Wf.zero
theorem rf{s:StateT}{c:rC}(h:(bA s c).2.1=0):(bp s.1 c.1).isSome=true∧(bA s c).1.1=c.1:=by
 unfold bA at h ⊢
 grind
theorem ye{l:List ai}{x y:ID}(r:List ab)(h:(aR l x).isSome=true):(aR (l.map (uu y r)) x).isSome=true:=by
 grind [pW,s8]
theorem Wf.link{d:ak}(h:Wf d){x:ID}(hx:ck x=true)(hn:aZ d.2 x=none)(he:¬40≤d.2.length){a b:rC}(ha:(aR d.1 a.1).isSome=true)(hb:(aR d.1 b.1).isSome=true) :
  Wf (bU (bU (d.1,dH (x,(e0,0)) d.2) a (x,0)) b (x,1)):=by
 have hrw:Rw ((d.1,dH (x,(e0,0)) d.2):ak).1:=h.rw;obtain⟨va,hva⟩:=acn.1 ha;have h0:=h.uH hn 0;have h1:=h.uH hn 1;obtain⟨p1,q1⟩:=vv (c:=a) (x:=(x,0)) hrw hva h0;obtain⟨vb,hvb⟩:=acn.1 (ye (x:=b.1) (y:=a.1) (nM (bH (d.1,dH (x,(e0,0)) d.2) a.1) a.2 (x,0)) hb);have Xn:(x,1)∉an (bU (d.1,dH (x,(e0,0)) d.2) a (x,0)).1:=fun k=>by
  grind
 obtain⟨p2,q2⟩:=vv (c:=b) (x:=(x,1)) q1 hvb Xn;refine⟨q2.s,zJ (x,(e0,0)) h.se hn,?_,?_,A2 (A2 h.gv _ _) _ _,fun e hem=>?_,?_⟩
 ·unfold bU;rw[jv,jv];exact h.nv
 ·show(dH (x,(e0,0)) d.2).length≤40;rw[lM];omega
 ·rcases pU.1 (show e∈dH (x,(e0,0)) d.2 from hem) with rfl|hem
  ·exact⟨hx,uE,uF⟩
  ·exact h.ge e hem
 ·show(an _).Perm (ends (dH (x,(e0,0)) d.2));refine(p2.trans (List.Perm.cons _ p1)).trans (List.Perm.trans ?_ (G6 (x,(e0,0)) d.2).symm);exact(List.Perm.swap _ _ _).trans (List.Perm.cons _ (List.Perm.cons _ h.pd))
theorem Wf.cut{d:ak}(h:Wf d){x:ID}(hx:(aZ d.2 x).isSome=true):Wf (aM (aH (aH d (x,0)) (x,1)) zI x):=by
 have h0:=h.kR hx (s:=0) (.inl rfl);have h1:=h.kR hx (s:=1) (.inr rfl);obtain⟨p1,q1⟩:=fU h.rw h0;have Xn:(x,1)∈an (aH d (x,0)).1:=by
  grind
 obtain⟨p2,q2⟩:=fU q1 Xn;have RO:=kP (kP h.gv (x,0)) (x,1);have SK:(aM (aH (aH d (x,0)) (x,1)) zI x).1=(aH (aH d (x,0)) (x,1)).1:=uD RO;refine⟨by rw[SK];exact q2.s,wh h.se,?_,?_,by simp_all,fun e he=>h.ge e ?_,?_⟩
 ·rw[SK];unfold aH;rw[jv,jv];exact h.nv
 ·exact acz (ado _ _) h.ne
 ·exact(ads.1 (show e∈d.2.filter fun w=>decide (w.1≠x) from he)).1
 ·rw[SK];show(an (aH (aH d (x,0)) (x,1)).1).Perm (ends (c9 d.2 x));have p3:((x,0)::(x,1)::an (aH (aH d (x,0)) (x,1)).1).Perm ((x,0)::(x,1)::ends (c9 d.2 x)) :=((p1.trans (List.Perm.cons _ p2)).symm.trans h.pd).trans (Ed h.se hx);simp_all
theorem hP{x:ab}(h:x.2=0∨x.2=1):(aj x).1=x.1∧((x.2=0∧(aj x).2=1)∨(x.2=1∧(aj x).2=0)):=by
 refine⟨rfl,?_⟩;unfold aj;rcases h with h|h
 ·exact .inl ⟨h,by rw[h];rfl⟩
 ·exact .inr ⟨h,by rw[h];rfl⟩
theorem Ls{x:ab}(h:x.2=0∨x.2=1)(l:List ab):(x::aj x::l).Perm ((x.1,0)::(x.1,1)::l):=by
 obtain⟨h1,h2⟩:=hP h
 grind
theorem Ei{n:Int}(h0:0≤n)(h3:n≤3):(IntKind.wrap .i64 (1-Int.tmod n 2)=0∨IntKind.wrap .i64 (1-Int.tmod n 2)=1)∧(IntKind.wrap .i64 (Int.tdiv n 2)=0∨IntKind.wrap .i64 (Int.tdiv n 2)=1):=by
 have:n=0∨n=1∨n=2∨n=3:=by omega
 rcases this with rfl|rfl|rfl|rfl<;>exact⟨by decide,by decide⟩
theorem Wf.split{d:ak}(h:Wf d){m k:ab}{v:ID}(hv:ck v=true)(hk:ck k.1=true)(Tx:m.2=0∨m.2=1)(qh:k.2=0∨k.2=1)(hm:(aZ d.2 m.1).isSome=true)(My:aR d.1 v=none)(hnk:aZ d.2 k.1=none) (hlv:¬24≤d.1.length) (hle:¬40≤d.2.length):Wf (cW (v,(cp [m,k],(e0,0))) (aE d m (aj k)).1,dH (k.1,(e0,0)) (aE d m (aj k)).2):=by
 have Jm:m∈an d.1:=h.kR hm Tx;have Jl:aj k∉an d.1:=h.uH hnk _;obtain⟨p1,q1⟩:=j6 h.rw Jm Jl;have agj:aR (aE d m (aj k)).1 v=none:=by
  grind [aE,Vs.cj,pW,s8]
 refine⟨pV (v,(cp [m,k],(e0,0))) q1.s agj,zJ (k.1,(e0,0)) h.se hnk,?_,?_,fun w hw=>?_,fun e he=>?_,?_⟩
 ·grind [cW,aE,aj,fH,jv]
 ·show(dH _ d.2).length≤40;rw[lM];omega
 ·rcases jZ.1 hw with rfl|hw
  ·exact⟨hv,uE,uF,uB _⟩
  ·exact q6 h.gv _ _ w hw
 ·rcases pU.1 (show e∈dH (k.1,(e0,0)) d.2 from he) with rfl|he
  ·exact⟨hk,uE,uF⟩
  ·exact h.ge e he
 ·show(an (cW _ _)).Perm (ends (dH (k.1,(e0,0)) d.2));refine(wo _ _).trans (List.Perm.trans ?_ (G6 (k.1,(e0,0)) d.2).symm);refine(adm _ (kL [m,k])).trans ?_;show(m::k::an (aE d m (aj k)).1).Perm _;refine(List.Perm.swap k m _).trans ((List.Perm.cons k p1.symm).trans ?_);refine(Ls qh _).trans ?_;exact List.Perm.cons _ (List.Perm.cons _ h.pd)
theorem Wf.VM{d:ak}(h:Wf d){v:ai}(hv:v∈d.1)(hr:v.2.1=[]):Wf (aM d v.1 zI):=by
 obtain⟨a,b,h1,_,h2,_⟩:=nC h.sv hv;refine⟨nu h.sv,?_,acz (ado _ _) h.nv,acz (ado _ _) h.ne,fun w hw=>h.gv w ?_,fun e he=>h.ge e ?_,?_⟩
 ·exact wh h.se
 ·exact(ads.1 (show w∈d.1.filter fun w=>decide (w.1≠v.1) from hw)).1
 ·exact(ads.1 (show e∈d.2.filter fun w=>decide (w.1≠zI) from he)).1
 ·show(an (cU d.1 v.1)).Perm (ends (c9 d.2 zI));rw[h2,q7 h.ge];have p:=jH a b v;rw[←h1,hr,List.nil_append]at p;exact p.symm.trans h.pd
theorem Wf.acd{d:ak}(h:Wf d){v:ai}{a b:ab}(hv:v∈d.1)(hr:v.2.1.Perm [a,b])(AW:a.1≠b.1):Wf (aM (aE (aM d v.1 zI) (aj b) a) zI b.1):=by
 obtain⟨p,q,h1,_,h2,_⟩:=nC h.sv hv;have pd:(an d.1).Perm (a::b::an (p++q)):=by have:=(jH p q v).trans (adm _ hr);simp_all
 have RP:aM d v.1 zI=(p++q,d.2):=by unfold aM;rw[h2,q7 h.ge]
 have E9:=pd.nodup_iff.1 h.rw.n;have hbm:b∈ends d.2:=h.pd.mem_iff.1 (pd.mem_iff.2 (by simp));obtain⟨e,he,he1,E5⟩:=dZ.1 hbm;have Gz:(aZ d.2 b.1).isSome=true:=by
  grind [aZ,List.find?_isSome]
 obtain⟨_,ho⟩:=hP E5;have RQ:aj b∈an (p++q):=by
  have h3:aj b∈an d.1:=h.kR (s:=(aj b).2) Gz (by omega);rcases abz.1 (pd.mem_iff.1 h3) with k|k
  ·simp_all
  rcases abz.1 k with k|k
  ·have:=congrArg Prod.snd k;omega
  ·exact k
 have IV:Rw (p++q):=by refine⟨?_,(abP.1 (abP.1 E9).2).2⟩;rw[←h2];exact nu h.sv
 have ha:a∉an (p++q):=fun k=>(abP.1 E9).1 (abt _ k);rw[RP];obtain⟨p1,q1⟩:=j6 (d:=(p++q,d.2)) IV RQ ha;have RO:∀w∈(aE (p++q,d.2) (aj b) a).1,GV w:=by
  refine q6 (d:=(p++q,d.2)) (fun w hw=>h.gv w ?_) _ _
  grind
 have SK:(aM (aE (p++q,d.2) (aj b) a) zI b.1).1=(aE (p++q,d.2) (aj b) a).1:=uD RO;refine⟨by rw[SK];exact q1.s,wh h.se,?_,acz (ado _ _) h.ne,by simp_all,fun f hf=>h.ge f ?_,?_⟩
 ·rw[SK];unfold aE;rw[jv];have:=h.nv
  grind
 ·exact(ads.1 (show f∈d.2.filter fun w=>decide (w.1≠b.1) from hf)).1
 ·rw[SK];show(an (aE (p++q,d.2) (aj b) a).1).Perm (ends (c9 d.2 b.1));have p3:(b::aj b::an (aE (p++q,d.2) (aj b) a).1).Perm (b::aj b::ends (c9 d.2 b.1)):=by refine List.Perm.trans (List.Perm.cons b p1.symm) ?_;refine(List.Perm.swap a b _).trans (pd.symm.trans (h.pd.trans ?_));exact(Ed h.se Gz).trans (Ls E5 _).symm
  simp_all
theorem eI.one{s:StateT}(h:eI s)(o:bq):eI (ke s o).1:=by
 unfold ke
 split
 ·exact eI.zero
 rename_i hm;have hm:cC o=0:=Classical.byContradiction fun k=>hm k;have bL:=VJ hm
 split
 ·unfold ov
  split;· exact eI.zero
  split;· exact eI.zero
  rename_i h1 h2;have hn:aR s.1.1 (ba o)=none:=by simpa[bp] using h1
  refine⟨⟨pV _ h.d.sv hn,h.d.se,by grind [cW,fH],h.d.ne,fun w hw=>?_,h.d.ge,?_⟩,h.g,h.n⟩
  ·rcases jZ.1 hw with rfl|hw
   ·exact⟨bL,uE,uF,rfl⟩
   ·exact h.d.gv w hw
  ·exact(wo _ _).trans h.d.pd
 split
 ·unfold vq
  cases hv:bp s.1 (ba o) with
  |none=>exact eI.zero
  |some v =>
   simp only
   split
   ·exact eI.zero
   ·rename_i hr;have:=h.d.VM (eO hv) (by simpa using hr);rw[iP hv]at this;exact⟨this,h.g,h.n⟩
 split
 ·unfold ou
  split;· exact eI.zero
  split;· exact eI.zero
  split;· exact eI.zero
  split;· exact eI.zero
  split;· exact eI.zero
  rename_i h1 h2 h3 h4 h5;have hn:aZ s.1.2 (ba o)=none:=by simpa[hM] using h1
  obtain⟨ca,ca2⟩:=rf (s:=s) (c:=oA o) (Classical.byContradiction fun k=>h3 k);obtain⟨cb,cb2⟩:=rf (s:=s) (c:=oB o) (Classical.byContradiction fun k=>h4 k);refine⟨?_,h.g,h.n⟩;unfold ib;refine h.d.link bL hn h2 (by rw[ca2];exact ca) ?_
  split
  ·exact cb
  ·rw[cb2];exact cb
 split
 ·unfold D4
  split;· exact eI.zero
  rename_i h1;have h2:=kQ h.g h.n ((ba o,0),dk s.1 (ba o,0));exact eI.add h2.1 h2.2 (h.d.cut (pY h1)) _
 split
 ·rename_i hk;unfold kJ
  split;· exact eI.zero
  split;· exact eI.zero
  split;· exact eI.zero
  split;· exact eI.zero
  split;· exact eI.zero
  rename_i h1 h2 h3 h4 h5;obtain⟨m1,m2,m3,m4⟩:=zN hm hk;obtain⟨s1,s2⟩:=Ei m3 m4;refine⟨?_,h.g,h.n⟩;exact h.d.split (m:=Li o) (k:=G1 o) m1 m2 s1 s2 (pY h1) (by simpa[bp] using h2) (by simpa[hM,G1] using h3) h4 h5
 split
 ·unfold j0
  split
  ·exact eI.zero
  ·rename_i v hv
   split
   ·rename_i r0 r1 hr;have XH:=eO hv;have hvi:=iP hv;have key:∀a b:ab,v.2.1.Perm [a,b]→a.1≠b.1→eI (Jp s o a b,Jo s.2 a b):=fun a b hp AW=>by have h2:=kQ h.g h.n ((b.1,0),oL a b 0);have:=h.d.acd XH hp AW;rw[hvi]at this;exact eI.add h2.1 h2.2 this _
    grind [je,eI.zero]
   ·exact eI.zero
 ·rename_i k1 k2 k3 k4 k5 k6;have hk:=Eh hm;have:=h.d.wg hm (by omega);refine⟨this,?_,?_⟩
  ·unfold wg;split
   ·exact h.g
   ·exact List.Pairwise.nil
  ·unfold wg;split
   ·exact h.n
   ·simp[zS]
theorem eI.go:∀(l:List bq) {s:StateT},eI s→eI (D5 l s).1
 |[],s,h=>h
 |o::r,s,h=>by
  unfold D5
  split
  ·exact eI.zero
  ·exact eI.go r (h.one o)
theorem eI.apply{s:StateT}(h:eI s)(l:List bq):eI (cV s l).1:=by
 grind [cV,eI.zero,eI.go]
theorem eI.try{s:StateT}(h:eI s)(l:List bq):eI (il s l):=by
 unfold il
 split
 ·exact h
 ·exact h.apply l
theorem eI.reach:∀(m:Nat) (l:List (List bq)) {s:StateT},eI s→eI (nt m l s)
 |0,_,s,h=>by simpa[nt] using h
 |m+1,[],s,h=>h
 |m+1,l::r,s,h=>by rw[nt];exact eI.reach m r (h.try _)
theorem eI.Pf(l:List (List bq)):eI (D6 l):=eI.reach 30 l eI.zero
end Go.Vs
