/- Diagrams that are well formed stay so. -/
import Derived.Test.YtpkfpbpbkabkdaaGreatRings
set_option linter.unusedVariables false
set_option linter.unusedSimpArgs false
namespace Go.Vs
open Go.Proofs
theorem mV(row:List ab):(cK row).Perm row:=by
 unfold cK CQ
 exact List.perm_append_comm.trans (List.Perm.of_eq (List.take_append_drop _ _))
theorem Kc{row:List ab}(h:0<row.length)(hl:∀j,(hj:j<row.length)→ke row[j] row[0]=false):fm row row 0 0=0:=by
 have hm:=nW row row 0 0 h (by omega)
 have h2:=(sw h).2 0
 by_cases hz:fm row row 0 0=0
 ·exact hz
 ·have:=h2 (by omega) h
  rw[oa hm,hl _ hm]at this;cases this
theorem MZ(row:List ab):CQ row 0=row:=by unfold CQ;simp
theorem qE(row:List ab):cK (cK row)=cK row:=by
 by_cases h0:row.length=0
 ·have:row=[]:=by simpa using h0
  subst this;rfl
 have hp:0<row.length:=by omega
 have hm:=nW row row 0 0 hp (by omega)
 have hp2:0<(cK row).length:=by rw[fq];exact hp
 have h1:(cK row)[0]=row.getD (fm row row 0 0) zD:=by
  have:=Pn (row:=row) (k:=fm row row 0 0) (i:=0) (by omega) hp
  rw[Nat.add_zero,Nat.mod_eq_of_lt hm,List.getElem?_eq_getElem hm]at this
  rw[oa hm]
  exact(List.getElem?_eq_some_iff.1 this).2
 have h2:fm (cK row) (cK row) 0 0=0:=by
  refine Kc hp2 (fun j hj=>?_)
  rw[h1]
  have iu:(cK row)[j]∈row:=EK.1 (List.getElem_mem hj)
  obtain⟨i,hi,he⟩:=List.getElem_of_mem iu
  rw[←he]
  exact(sw hp).1 i hi
 unfold cK at h2 ⊢
 rw[h2,MZ]
theorem Kd(row:List ab)(a d:ab):cK (oL row a d)=oL row a d:=by unfold oL;split<;>exact qE _
theorem Ke(row:List ab)(d:ab):cK (hY row d)=hY row d:=qE _
theorem G6(row:List ab)(a d:ab):cK (k0 row a d)=k0 row a d:=qE _
theorem Kf{row:List ab}{d:ab}(a:ab)(h:d∉row):(oL row a d).Perm (d::row):=by
 unfold oL
 rw[if_neg h]
 refine(mV _).trans (List.perm_middle.trans ?_)
 rw[List.take_append_drop]
theorem qF{row:List ab}{d:ab}(h:d∈row)(hn:row.Nodup):row.Perm (d::hY row d):=by
 obtain⟨k,_,h2,_⟩:=kZ h
 obtain⟨h3,h4⟩:=List.getElem?_eq_some_iff.1 h2
 unfold hY
 rw[vc hn h2]
 refine List.Perm.trans ?_ (List.Perm.cons d (mV _).symm)
 conv=>lhs;rw[←List.take_append_drop k row,List.drop_eq_getElem_cons h3,h4]
 exact List.perm_middle
theorem G7{row:List ab}{c8 d:ab}(h:c8∈row)(hd:d∉row):(d::row).Perm (c8::k0 row c8 d):=by
 obtain⟨k,h1,h2,_⟩:=kZ h
 obtain⟨h3,h4⟩:=List.getElem?_eq_some_iff.1 h2
 unfold k0
 rw[if_pos ⟨h,hd⟩,h1,Int.toNat_natCast]
 refine List.Perm.trans ?_ (List.Perm.cons c8 (mV _).symm)
 rw[List.set_eq_take_append_cons_drop,if_pos h3]
 conv=>lhs;rw[←List.take_append_drop k row,List.drop_eq_getElem_cons h3,h4]
 have p1:(row.take k++c8::row.drop (k+1)).Perm (c8::(row.take k++row.drop (k+1))):=List.perm_middle
 have p2:(row.take k++d::row.drop (k+1)).Perm (d::(row.take k++row.drop (k+1))):=List.perm_middle
 exact(List.Perm.cons d p1).trans ((List.Perm.swap c8 d _).trans (List.Perm.cons c8 p2.symm))
def aq(l:List aj):List ab:=l.flatMap fun v=>v.2.1
def ends(l:List an):List ab:=l.flatMap fun e=>[(e.1,0),(e.1,1)]
theorem jl(v:aj)(l:List aj):aq (v::l)=v.2.1++aq l:=List.flatMap_cons
theorem mW(a b:List aj):aq (a++b)=aq a++aq b:=List.flatMap_append
theorem jm(a b:List aj)(v:aj):(aq (a++v::b)).Perm (v.2.1++aq (a++b)):=by
 rw[mW,jl,mW,←List.append_assoc,←List.append_assoc]
 exact List.Perm.append_right _ List.perm_append_comm
theorem bm{x:ab}{l:List aj}:x∈aq l↔∃v∈l,x∈v.2.1:=List.mem_flatMap
theorem jn(e:an)(l:List an):ends (e::l)=(e.1,0)::(e.1,1)::ends l:=by unfold ends;rw[List.flatMap_cons];rfl
theorem eu{x:ab}{l:List an}:x∈ends l↔∃e∈l,e.1=x.1∧(x.2=0∨x.2=1):=by
 unfold ends
 rw[List.mem_flatMap]
 constructor
 ·rintro⟨e,he,hx⟩
  rcases List.mem_cons.1 hx with rfl|hx
  ·exact⟨e,he,rfl,.inl rfl⟩
  ·rw[List.mem_singleton]at hx;subst hx;exact⟨e,he,rfl,.inr rfl⟩
 ·rintro⟨e,he,h1,h2⟩
  refine⟨e,he,?_⟩
  obtain⟨x1,x2⟩:=x
  simp only at h1 h2
  subst h1
  rcases h2 with rfl|rfl<;>simp
theorem zk:∀{l:List an},cT l→(ends l).Nodup
 |[],_=>List.nodup_nil
 |e::r,h=>by
  have aV:∀s:Int,(e.1,s)∉ends r:=fun s hs=>by
   obtain⟨f,hf,h1,_⟩:=eu.1 hs
   have:=List.rel_of_pairwise_cons h hf
   simp only at h1
   rw[h1,bS]at this;cases this
  rw[jn]
  refine List.nodup_cons.2 ⟨?_,List.nodup_cons.2 ⟨aV 1,zk h.of_cons⟩⟩
  rw[List.mem_cons]
  rintro(h1|h1)
  ·cases h1
  ·exact aV 0 h1
theorem BA(e:an):∀l:List an,(eR e l).Perm (e::l)
 |[]=>List.Perm.refl _
 |w::r=>by
  unfold eR
  split
  ·exact List.Perm.refl _
  ·exact(List.Perm.cons w (BA e r)).trans (List.Perm.swap e w r)
theorem BB(e:aj):∀l:List aj,(eX e l).Perm (e::l)
 |[]=>List.Perm.refl _
 |w::r=>by
  unfold eX
  split
  ·exact List.Perm.refl _
  ·exact(List.Perm.cons w (BB e r)).trans (List.Perm.swap e w r)
theorem BC(e:an)(l:List an):(ends (eR e l)).Perm ((e.1,0)::(e.1,1)::ends l):=by
 rw[←jn]
 exact List.Perm.flatMap_right _ (BA e l)
theorem zm(v:aj)(l:List aj):(aq (eX v l)).Perm (v.2.1++aq l):=by
 rw[←jl]
 exact List.Perm.flatMap_right _ (BB v l)
theorem zn{l:List an}{x:ID}(hs:cT l)(h:(aQ l x).isSome=true):(ends l).Perm ((x,0)::(x,1)::ends (dG l x)):=by
 obtain⟨e,he⟩:=Option.isSome_iff_exists.1 h
 obtain⟨h3,h4⟩:=List.getElem?_eq_some_iff.1 (lh hs he)
 rw[u5 hs h]
 conv=>lhs;rw[←List.take_append_drop (bP l x) l,List.drop_eq_getElem_cons h3,h4]
 rw[←tP he,←jn]
 exact List.Perm.flatMap_right _ List.perm_middle
theorem mX{l:List aj}{v:aj}(hs:bQ l)(h:v∈l):aN l v.1=some v:=by
 have hf:(aN l v.1).isSome=true:=by
  unfold aN;rw[List.find?_isSome];exact⟨v,h,by simp⟩
 obtain⟨u,hu⟩:=Option.isSome_iff_exists.1 hf
 have h1:=cM hs hu
 obtain⟨k,hk,he⟩:=List.getElem_of_mem h
 have h2:l[k]? = some v:=by rw[List.getElem?_eq_getElem hk,he]
 rw[jk hs h2 rfl,h1]at h2
 rw[hu];exact h2
theorem sx{l:List aj}{v:aj}(hs:bQ l)(h:v∈l):∃a b,l=a++v::b∧(∀u∈a++b,u.1≠v.1)∧fw l v.1=a++b∧∀r,l.map (uU v.1 r)=a++(v.1,(r,v.2.2))::b:=by
 obtain⟨a,b,rfl⟩:=List.append_of_mem h
 have hp:=List.pairwise_append.1 hs
 have hb:=List.pairwise_cons.1 hp.2.1
 have aV:∀u∈a++b,u.1≠v.1:=fun u hu e=>by
  rcases List.mem_append.1 hu with hu|hu
  ·have:=hp.2.2 u hu v (by simp);rw[e,bS]at this;cases this
  ·have:=hb.1 u hu;rw[e,bS]at this;cases this
 have hm:∀(r:List ab) (c:List aj),(∀u∈c,u.1≠v.1)→c.map (uU v.1 r)=c:=fun r c hc=>by
  conv=>rhs;rw[←List.map_id c]
  exact List.map_congr_left fun u hu=>by unfold uU;rw[if_neg (hc u hu)];rfl
 have hd:∀c:List aj,(∀u∈c,u.1≠v.1)→fw c v.1=c:=fun c hc=>by
  unfold fw;rw[List.filter_eq_self];intro u hu;simpa using hc u hu
 refine⟨a,b,rfl,aV,?_,fun r=>?_⟩
 ·unfold fw
  rw[List.filter_append,List.filter_cons_of_neg (by simp)]
  have h1:=hd a (fun u hu=>aV u (List.mem_append_left _ hu))
  have h2:=hd b (fun u hu=>aV u (List.mem_append_right _ hu))
  unfold fw at h1 h2
  rw[h1,h2]
 ·rw[List.map_append,List.map_cons,hm r a (fun u hu=>aV u (List.mem_append_left _ hu)),hm r b (fun u hu=>aV u (List.mem_append_right _ hu))]
  unfold uU;rw[if_pos rfl]
structure Rw(l:List aj):Prop where
 s:bQ l
 n:(aq l).Nodup
theorem Rw.ring{l:List aj}(h:Rw l){v:aj}(hv:v∈l):v.2.1.Nodup:=by
 obtain⟨a,b,rfl,_⟩:=sx h.s hv
 exact(List.nodup_append.1 ((jm a b v).nodup_iff.1 h.n)).1
theorem Rw.one{l:List aj}(h:Rw l){v w:aj}{x:ab}(hv:v∈l)(hw:w∈l)(hx:x∈v.2.1)(hy:x∈w.2.1):w=v:=by
 obtain⟨a,b,rfl,_⟩:=sx h.s hv
 have hn:=List.nodup_append.1 ((jm a b v).nodup_iff.1 h.n)
 have:w∈a++v::b:=hw
 rw[List.mem_append,List.mem_cons]at this
 rcases this with k|k|k
 ·exact absurd rfl (hn.2.2 x hx x (bm.2 ⟨w,List.mem_append_left _ k,hy⟩))
 ·exact k
 ·exact absurd rfl (hn.2.2 x hx x (bm.2 ⟨w,List.mem_append_right _ k,hy⟩))
theorem mh{l:List aj}(h:Rw l){v:aj}{x:ab}(hv:v∈l)(hx:x∈v.2.1):Iz l x=some v.1:=by
 have hf:(l.find? fun u=>decide (x∈u.2.1)).isSome=true:=by rw[List.find?_isSome];exact⟨v,hv,by simpa using hx⟩
 obtain⟨u,hu⟩:=Option.isSome_iff_exists.1 hf
 have h1:=List.mem_of_find?_eq_some hu
 have h2:x∈u.2.1:=by simpa using List.find?_some hu
 unfold Iz
 rw[hu,h.one hv h1 hx h2];rfl
theorem EV{l:List aj}{x:ab}(h:x∉aq l):Iz l x=none:=by
 unfold Iz
 have:(l.find? fun u=>decide (x∈u.2.1))=none:=by
  rw[List.find?_eq_none];intro u hu hx
  exact h (bm.2 ⟨u,hu,by simpa using hx⟩)
 rw[this];rfl
theorem jo{d:ak}(h:bQ d.1){v:aj}(hv:v∈d.1):cX d v.1=v.2.1:=by
 unfold cX ck;rw[mX h hv];rfl
theorem jq{d:ak}(h:Rw d.1){v:aj}{x:ab}(hv:v∈d.1)(hx:x∈v.2.1):aA d x=bW d v.1 (hY v.2.1 x):=by
 unfold aA fN
 rw[mh h hv hx]
 show bW d v.1 (hY (cX d v.1) x)=_
 rw[jo h.s hv]
theorem zo{d:ak}(h:Rw d.1){v:aj}{x:ab}(y:ab)(hv:v∈d.1)(hx:x∈v.2.1):aB d x y=bW d v.1 (k0 v.2.1 x y):=by
 unfold aB fN
 rw[mh h hv hx]
 show bW d v.1 (k0 (cX d v.1) x y)=_
 rw[jo h.s hv]
theorem bQ.re{l:List aj}(h:bQ l)(x:ID)(r:List ab):bQ (l.map (uU x r)):=h.map (pU x r)
theorem zp{l:List aj}{v:aj}(hs:bQ l)(hv:v∈l):∃rest,(aq l).Perm (v.2.1++rest)∧∀r,(aq (l.map (uU v.1 r))).Perm (r++rest):=by
 obtain⟨a,b,h1,_,_,h2⟩:=sx hs hv
 refine⟨aq (a++b),?_,fun r=>?_⟩
 ·conv=>lhs;rw[h1]
  exact jm a b v
 ·rw[h2 r];exact jm a b (v.1,(r,v.2.2))
theorem dY{d:ak}(h:Rw d.1){x:ab}(hx:x∈aq d.1):(aq d.1).Perm (x::aq (aA d x).1)∧Rw (aA d x).1:=by
 obtain⟨v,hv,j0⟩:=bm.1 hx
 obtain⟨rest,h1,h2⟩:=zp h.s hv
 rw[jq h hv j0]
 have p:(aq d.1).Perm (x::aq (bW d v.1 (hY v.2.1 x)).1) :=
  h1.trans ((List.Perm.append_right rest (qF j0 (h.ring hv))).trans (List.Perm.cons x (h2 _).symm))
 exact⟨p,h.s.re _ _,(List.nodup_cons.1 (p.nodup_iff.1 h.n)).2⟩
theorem oc{d:ak}(h:Rw d.1){x y:ab}(hx:x∈aq d.1)(hy:y∉aq d.1):(y::aq d.1).Perm (x::aq (aB d x y).1)∧Rw (aB d x y).1:=by
 obtain⟨v,hv,j0⟩:=bm.1 hx
 obtain⟨rest,h1,h2⟩:=zp h.s hv
 rw[zo h y hv j0]
 have VU:y∉v.2.1:=fun k=>hy (bm.2 ⟨v,hv,k⟩)
 have p:(y::aq d.1).Perm (x::aq (bW d v.1 (k0 v.2.1 x y)).1) :=
  (List.Perm.cons y h1).trans ((List.Perm.append_right rest (G7 j0 VU)).trans (List.Perm.cons x (h2 _).symm))
 refine⟨p,h.s.re _ _,?_⟩
 exact(List.nodup_cons.1 (p.nodup_iff.1 (List.nodup_cons.2 ⟨hy,h.n⟩))).2
theorem rE{d:ak}(h:Rw d.1){c:tq}{x:ab}{v:aj}(hv:aN d.1 c.1=some v)(hx:x∉aq d.1):(aq (b6 d c x).1).Perm (x::aq d.1)∧Rw (b6 d c x).1:=by
 have VV:=fH hv
 have VW:=jS hv
 obtain⟨rest,h1,h2⟩:=zp h.s VV
 have j0:x∉v.2.1:=fun k=>hx (bm.2 ⟨v,VV,k⟩)
 have e:b6 d c x=bW d v.1 (oL v.2.1 c.2 x):=by
  unfold b6
  rw[←VW,jo h.s VV]
 rw[e]
 have p:(aq (bW d v.1 (oL v.2.1 c.2 x)).1).Perm (x::aq d.1) :=
  (h2 _).trans ((List.Perm.append_right rest (Kf c.2 j0)).trans (List.Perm.cons x h1.symm))
 exact⟨p,h.s.re _ _,p.nodup_iff.2 (List.nodup_cons.2 ⟨hx,h.n⟩)⟩
structure GV(v:aj):Prop where
 i:dH v.1=true
 l:EL v.2.2.1=true
 a:AF v.2.2.2=true
 t:cK v.2.1=v.2.1
structure GE(e:an):Prop where
 i:dH e.1=true
 l:EL e.2.1=true
 a:AF e.2.2=true
structure Wf(d:ak):Prop where
 sv:bQ d.1
 se:cT d.2
 nv:d.1.length≤24
 ne:d.2.length≤40
 gv:∀v∈d.1,GV v
 ge:∀e∈d.2,GE e
 pd:(aq d.1).Perm (ends d.2)
theorem Wf.rw{d:ak}(h:Wf d):Rw d.1:=⟨h.sv,h.pd.nodup_iff.2 (zk h.se)⟩
theorem Wf.zero:Wf zS.1:=⟨List.Pairwise.nil,List.Pairwise.nil,by simp[zS],by simp[zS],by simp[zS],by simp[zS],List.Perm.refl _⟩
theorem GV.re{l:List aj}(h:∀v∈l,GV v)(x:ID){r:List ab}(hr:cK r=r):∀v∈l.map (uU x r),GV v:=fun v hv=>by
 obtain⟨w,hw,rfl⟩:=List.mem_map.1 hv
 have g:=h w hw
 unfold uU
 split
 ·exact⟨g.i,g.l,g.a,hr⟩
 ·exact g
theorem jr{d:ak}(h:∀v∈d.1,GV v)(x:ab):∀v∈(aA d x).1,GV v:=GV.re h _ (Ke _ _)
theorem sy{d:ak}(h:∀v∈d.1,GV v)(x y:ab):∀v∈(aB d x y).1,GV v:=GV.re h _ (G6 _ _ _)
theorem v5{d:ak}(h:∀v∈d.1,GV v)(c:tq)(y:ab):∀v∈(b6 d c y).1,GV v:=GV.re h _ (Kd _ _ _)
theorem dZ(d:ak)(x:ID)(r:List ab):(bW d x r).1.length=d.1.length:=by unfold bW;simp
theorem BD:dH zI=false:=by decide
theorem w6{l:List an}(h:∀e∈l,GE e):dG l zI=l:=by
 unfold dG;rw[List.filter_eq_self];intro e he
 have:=(h e he).i
 simp;intro k;rw[k,BD]at this;cases this
theorem tR{l:List aj}(h:∀e∈l,GV e):fw l zI=l:=by
 unfold fw;rw[List.filter_eq_self];intro e he
 have:=(h e he).i
 simp;intro k;rw[k,BD]at this;cases this
theorem qG:EL e0=true:=by decide
theorem qH:AF 0=true:=by decide
theorem zq{l:List an}{x:ID}(h:aQ l x=none)(s:Int):(x,s)∉ends l:=fun k=>by
 obtain⟨e,he,h1,_⟩:=eu.1 k
 unfold aQ at h
 rw[List.find?_eq_none]at h
 exact h e he (by simpa using h1)
theorem zr{l:List an}{x:ID}(h:(aQ l x).isSome=true){s:Int}(hs:s=0∨s=1):(x,s)∈ends l:=by
 obtain⟨e,he⟩:=Option.isSome_iff_exists.1 h
 exact eu.2 ⟨e,Ka he,tP he,hs⟩
end Go.Vs
namespace Go.Vs
open Go.Proofs
theorem M0{o:aO}(h:cO o=0):dH (ba o)=true:=by
 unfold cO at h
 split at h;· cases h
 split at h;· cases h
 split at h;· cases h
 rename_i h3;simpa using h3
theorem zt{o:aO}(h:cO o=0):1≤o.1∧o.1≤8:=by
 unfold cO at h
 split at h;· cases h
 split at h;· cases h
 omega
theorem BE{o:aO}(h:cO o=0)(hk:o.1=5):dH (eT o)=true∧dH (bz o)=true∧0≤oN o∧oN o≤3:=by
 unfold cO at h
 split at h;· cases h
 split at h;· cases h
 split at h;· cases h
 split at h;· cases h
 rw[if_neg (show ¬o.1=3 by omega)]at h
 split at h
 ·assumption
 ·cases h
theorem EW{o:aO}(h:cO o=0)(hk:o.1=8):AF (oN o)=true:=by
 unfold cO at h
 split at h;· cases h
 split at h;· cases h
 split at h;· cases h
 split at h;· cases h
 rw[if_neg (show ¬o.1=3 by omega),if_neg (show ¬o.1=5 by omega),if_neg (show ¬o.1=6 by omega)]at h
 split at h
 ·assumption
 ·cases h
theorem BF{o:aO}(h:cO o=0)(hk:o.1=7):EL (tO o)=true:=by
 unfold cO at h
 split at h;· cases h
 split at h;· cases h
 split at h;· cases h
 split at h;· cases h
 rw[if_neg (show ¬o.1=3 by omega),if_neg (show ¬o.1=5 by omega),if_neg (show ¬o.1=6 by omega),if_neg (show ¬o.1=8 by omega)]at h
 split at h
 ·assumption
 ·cases h
def g6(l:List aG):Prop:=l.Pairwise fun a b=>ke a.1 b.1=true
theorem od{a b:ab}:qS a b≤0↔a=b∨ke a b=true:=by
 unfold qS
 by_cases h:a=b
 ·subst h;simp
 ·rw[if_neg h];cases ke a b<;>simp[h]
theorem zu{q g:aG}:∀{l:List aG},q∈oM g l→q=g∨(q∈l∧q.1≠g.1)
 |[],h=>by simp[oM]at h;exact .inl h
 |e::r,h=>by
  unfold oM at h
  split at h
  ·rcases List.mem_cons.1 h with h|h
   ·exact .inl h
   ·unfold qT at h
    rw[List.mem_filter]at h
    exact .inr ⟨h.1,by simpa using h.2⟩
  ·split at h
   ·rename_i aV
    rcases List.mem_cons.1 h with rfl|h
    ·exact .inr ⟨List.mem_cons_self ..,aV⟩
    ·rcases zu h with h|⟨h,h2⟩
     ·exact .inl h
     ·exact .inr ⟨List.mem_cons_of_mem _ h,h2⟩
   ·rcases zu h with h|⟨h,h2⟩
    ·exact .inl h
    ·exact .inr ⟨List.mem_cons_of_mem _ h,h2⟩
theorem g6.add(g:aG):∀{l:List aG},g6 l→g6 (oM g l)
 |[],_=>List.pairwise_singleton _ _
 |e::r,h=>by
  have hr:∀{q:aG},q∈r→ke e.1 q.1=true:=fun {q} hq=>List.rel_of_pairwise_cons h hq
  unfold oM
  split
  ·rename_i ho
   refine List.Pairwise.cons (fun q hq=>?_) (h.filter _)
   unfold qT at hq
   rw[List.mem_filter]at hq
   have aV:q.1≠g.1:=by simpa using hq.2
   have hle:e.1=q.1∨ke e.1 q.1=true:=by
    rcases List.mem_cons.1 hq.1 with rfl|hq
    ·exact .inl rfl
    ·exact .inr (hr hq)
   rcases od.1 ho with ho|ho
   ·rcases hle with k|k
    ·exact absurd (ho.trans k).symm aV
    ·rw[ho];exact k
   ·rcases hle with k|k
    ·rw[←k];exact ho
    ·exact fJ ho k
  ·rename_i ho
   have FM:ke e.1 g.1=true:=by
    have h1:¬(g.1=e.1∨ke g.1 e.1=true):=fun k=>ho (od.2 k)
    exact u7 (by simpa using fun k=>h1 (.inr k)) (fun k=>h1 (.inl k))
   have hs:=g6.add g (List.Pairwise.of_cons h)
   split
   ·refine List.Pairwise.cons (fun q hq=>?_) hs
    rcases zu hq with rfl|⟨hq,_⟩
    ·exact FM
    ·exact hr hq
   ·exact hs
theorem og(e:aG)(r:List aG)(x:ab):la (e::r) x=if e.1=x then some e.2 else la r x:=by
 unfold la
 rw[List.find?_cons]
 by_cases h:e.1=x
 ·simp[h]
 ·simp[h]
theorem qI{g:aG}:∀{l:List aG},(∀q∈l,q.1≠g.1)→qT g l=l:=fun {l} h=>by
 unfold qT;rw[List.filter_eq_self];intro q hq;simpa using h q hq
theorem EX(g:aG):∀{l:List aG},g6 l→(oM g l).length=if(la l g.1).isSome=true then l.length else l.length+1
 |[],_=>rfl
 |e::r,h=>by
  have hr:∀{q:aG},q∈r→ke e.1 q.1=true:=fun {q} hq=>List.rel_of_pairwise_cons h hq
  have ih:=EX g (List.Pairwise.of_cons h)
  unfold oM
  split
  ·rename_i ho
   rcases od.1 ho with ho|ho
   ·have h1:qT g (e::r)=r:=by
     have:qT g (e::r)=qT g r:=by unfold qT;rw[List.filter_cons_of_neg (by simp[ho])]
     rw[this]
     exact qI (fun q hq k=>by have:=hr hq;rw[k,ho,dk]at this;cases this)
    rw[h1,og,if_pos ho.symm];simp
   ·have h2:∀q∈e::r,q.1≠g.1:=fun q hq k=>by
     have:ke g.1 q.1=true:=by
      rcases List.mem_cons.1 hq with rfl|hq
      ·exact ho
      ·exact fJ ho (hr hq)
     rw[k,dk]at this;cases this
    have h3:la (e::r) g.1=none:=by
     unfold la
     have:(List.find? (fun q=>decide (q.1=g.1)) (e::r))=none:=by
      rw[List.find?_eq_none];intro q hq;simpa using h2 q hq
     rw[this];rfl
    rw[qI h2,h3];simp
  ·rename_i ho
   have aV:e.1≠g.1:=fun k=>ho (od.2 (.inl k.symm))
   rw[if_pos aV,og,if_neg aV]
   simp only[List.length_cons,ih]
   split<;>rfl
theorem js{l:List aG}(h:g6 l)(hn:l.length≤400)(g:aG):g6 (bJ l g)∧(bJ l g).length≤400:=by
 unfold bJ
 split
 ·exact⟨h,hn⟩
 ·rename_i hc
  refine⟨g6.add g h,?_⟩
  rw[EX g h]
  split
  ·exact hn
  ·rename_i h1
   by_cases h2:400≤l.length
   ·exact absurd ⟨by simpa using h1,h2⟩ hc
   ·omega
theorem BG{α:Type}{o:Option α}(h:¬o.isSome=false):o.isSome=true:=by cases o<;>simp_all
structure ed(s:StateT):Prop where
 d:Wf s.1
 g:g6 s.2
 n:s.2.length≤400
theorem ed.zero:ed zS:=⟨Wf.zero,List.Pairwise.nil,by simp[zS]⟩
theorem ed.add{l:List aG}(h:g6 l)(hn:l.length≤400){d:ak}(hd:Wf d)(g:aG):ed (d,bJ l g):=⟨hd,(js h hn g).1,(js h hn g).2⟩
theorem Kg{f:aj→aj}(hf:∀v,(f v).2.1=v.2.1)(l:List aj):aq (l.map f)=aq l:=by
 unfold aq;rw[List.flatMap_map];congr 1;funext v;exact hf v
theorem M1{f:an→an}(hf:∀v,(f v).1=v.1)(l:List an):ends (l.map f)=ends l:=by
 unfold ends;rw[List.flatMap_map];congr 1;funext v;rw[hf]
theorem IF(o:aO)(w:an):(sq o w).1=w.1:=by unfold sq;split<;>(try split)<;>rfl
theorem Kh(o:aO)(w:aj):(nY o w).2.1=w.2.1:=by unfold nY;split<;>(try split)<;>rfl
theorem Wf.w7{d:ak}(h:Wf d){x:ID}(hx:aQ d.2 x=none)(s:Int):(x,s)∉aq d.1:=fun k=>zq hx s (h.pd.mem_iff.1 k)
theorem Wf.mi{d:ak}(h:Wf d){x:ID}(hx:(aQ d.2 x).isSome=true){s:Int}(hs:s=0∨s=1):(x,s)∈aq d.1:=h.pd.mem_iff.2 (zr hx hs)
theorem Wf.wx{s:StateT}(h:Wf s.1){o:aO}(hm:cO o=0)(hk:7≤o.1):Wf (wx s o).1.1:=by
 have hk8:=(zt hm).2
 unfold Vs.wx
 split
 ·refine⟨h.sv.map (IC o),h.se.map (IF o),by simp;exact h.nv,by simp;exact h.ne,fun v hv=>?_,fun e he=>?_,?_⟩
  ·obtain⟨w,hw,rfl⟩:=List.mem_map.1 hv
   have g:=h.gv w hw
   unfold nY
   split
   ·split
    ·rename_i h7
     exact⟨g.i,BF hm h7,g.a,g.t⟩
    ·exact⟨g.i,g.l,EW hm (by omega),g.t⟩
   ·exact g
  ·obtain⟨w,hw,rfl⟩:=List.mem_map.1 he
   have g:=h.ge w hw
   unfold sq
   split
   ·split
    ·rename_i h7
     exact⟨g.i,BF hm h7,g.a⟩
    ·exact⟨g.i,g.l,EW hm (by omega)⟩
   ·exact g
  ·show(aq (s.1.1.map (nY o))).Perm (ends (s.1.2.map (sq o)))
   rw[Kg (Kh o),M1 (IF o)];exact h.pd
 ·exact Wf.zero
theorem oi{s:StateT}{c:tq}(h:(bO s c).2.1=0):(ck s.1 c.1).isSome=true∧(bO s c).1.1=c.1:=by
 unfold bO at h ⊢
 cases hv:ck s.1 c.1 with
 |none=>rw[hv]at h;cases h
 |some v=>exact⟨rfl,rfl⟩
theorem tS{l:List aj}{x y:ID}(r:List ab)(h:(aN l x).isSome=true):(aN (l.map (uU y r)) x).isSome=true:=by
 rw[mT (pU y r)];simpa using h
theorem Wf.link{d:ak}(h:Wf d){x:ID}(hx:dH x=true)(hn:aQ d.2 x=none)(he:¬40≤d.2.length){a b:tq}(ha:(aN d.1 a.1).isSome=true)(hb:(aN d.1 b.1).isSome=true) :
  Wf (b6 (b6 (d.1,eR (x,(e0,0)) d.2) a (x,0)) b (x,1)):=by
 have hrw:Rw ((d.1,eR (x,(e0,0)) d.2):ak).1:=h.rw
 obtain⟨va,hva⟩:=Option.isSome_iff_exists.1 ha
 have h0:=h.w7 hn 0
 have h1:=h.w7 hn 1
 obtain⟨p1,q1⟩:=rE (c:=a) (x:=(x,0)) hrw hva h0
 obtain⟨vb,hvb⟩:=Option.isSome_iff_exists.1 (tS (x:=b.1) (y:=a.1) (oL (cX (d.1,eR (x,(e0,0)) d.2) a.1) a.2 (x,0)) hb)
 have La:(x,1)∉aq (b6 (d.1,eR (x,(e0,0)) d.2) a (x,0)).1:=fun k=>by
  rcases List.mem_cons.1 (p1.mem_iff.1 k) with k|k
  ·cases k
  ·exact h1 k
 obtain⟨p2,q2⟩:=rE (c:=b) (x:=(x,1)) q1 hvb La
 refine⟨q2.s,u6 (x,(e0,0)) h.se hn,?_,?_,v5 (v5 h.gv _ _) _ _,fun e ZN=>?_,?_⟩
 ·unfold b6;rw[dZ,dZ];exact h.nv
 ·show(eR (x,(e0,0)) d.2).length≤40
  rw[jQ];omega
 ·rcases mQ.1 (show e∈eR (x,(e0,0)) d.2 from ZN) with rfl|ZN
  ·exact⟨hx,qG,qH⟩
  ·exact h.ge e ZN
 ·show(aq _).Perm (ends (eR (x,(e0,0)) d.2))
  refine(p2.trans (List.Perm.cons _ p1)).trans (List.Perm.trans ?_ (BC (x,(e0,0)) d.2).symm)
  exact(List.Perm.swap _ _ _).trans (List.Perm.cons _ (List.Perm.cons _ h.pd))
theorem Wf.cut{d:ak}(h:Wf d){x:ID}(hx:(aQ d.2 x).isSome=true):Wf (bF (aA (aA d (x,0)) (x,1)) zI x):=by
 have h0:=h.mi hx (s:=0) (.inl rfl)
 have h1:=h.mi hx (s:=1) (.inr rfl)
 obtain⟨p1,q1⟩:=dY h.rw h0
 have La:(x,1)∈aq (aA d (x,0)).1:=by
  rcases List.mem_cons.1 (p1.mem_iff.1 h1) with k|k
  ·cases k
  ·exact k
 obtain⟨p2,q2⟩:=dY q1 La
 have KV:=jr (jr h.gv (x,0)) (x,1)
 have Pw:(bF (aA (aA d (x,0)) (x,1)) zI x).1=(aA (aA d (x,0)) (x,1)).1:=tR KV
 refine⟨by rw[Pw];exact q2.s,ss h.se,?_,?_,by rw[Pw];exact KV,fun e he=>h.ge e ?_,?_⟩
 ·rw[Pw];unfold aA;rw[dZ,dZ];exact h.nv
 ·exact Nat.le_trans (List.length_filter_le _ _) h.ne
 ·exact(List.mem_filter.1 (show e∈d.2.filter fun w=>decide (w.1≠x) from he)).1
 ·rw[Pw]
  show(aq (aA (aA d (x,0)) (x,1)).1).Perm (ends (dG d.2 x))
  have p3:((x,0)::(x,1)::aq (aA (aA d (x,0)) (x,1)).1).Perm ((x,0)::(x,1)::ends (dG d.2 x)) :=
   ((p1.trans (List.Perm.cons _ p2)).symm.trans h.pd).trans (zn h.se hx)
  exact p3.cons_inv.cons_inv
theorem qJ{x:ab}(h:x.2=0∨x.2=1):(ar x).1=x.1∧((x.2=0∧(ar x).2=1)∨(x.2=1∧(ar x).2=0)):=by
 refine⟨rfl,?_⟩
 unfold ar
 rcases h with h|h
 ·exact .inl ⟨h,by rw[h];rfl⟩
 ·exact .inr ⟨h,by rw[h];rfl⟩
theorem EY{x:ab}(h:x.2=0∨x.2=1)(l:List ab):(x::ar x::l).Perm ((x.1,0)::(x.1,1)::l):=by
 obtain⟨h1,h2⟩:=qJ h
 have e:x=(x.1,x.2):=rfl
 have e2:ar x=(x.1,(ar x).2):=rfl
 rcases h2 with⟨ha,hb⟩|⟨ha,hb⟩
 ·rw[ha]at e;rw[hb]at e2;rw[e2,e]
 ·rw[ha]at e;rw[hb]at e2;rw[e2,e];exact List.Perm.swap _ _ _
theorem EZ{n:Int}(h0:0≤n)(h3:n≤3):(IntKind.wrap .i64 (1-Int.tmod n 2)=0∨IntKind.wrap .i64 (1-Int.tmod n 2)=1)∧(IntKind.wrap .i64 (Int.tdiv n 2)=0∨IntKind.wrap .i64 (Int.tdiv n 2)=1):=by
 have:n=0∨n=1∨n=2∨n=3:=by omega
 rcases this with rfl|rfl|rfl|rfl<;>exact⟨by decide,by decide⟩
theorem Wf.split{d:ak}(h:Wf d){m k:ab}{v:ID}(hv:dH v=true)(hk:dH k.1=true)(Rv:m.2=0∨m.2=1)(nc:k.2=0∨k.2=1)(hm:(aQ d.2 m.1).isSome=true)(Oy:aN d.1 v=none)(hnk:aQ d.2 k.1=none)
  (QQ:¬24≤d.1.length) (hle:¬40≤d.2.length):Wf (eX (v,(cK [m,k],(e0,0))) (aB d m (ar k)).1,eR (k.1,(e0,0)) (aB d m (ar k)).2):=by
 have XW:m∈aq d.1:=h.mi hm Rv
 have FL:ar k∉aq d.1:=h.w7 hnk _
 obtain⟨p1,q1⟩:=oc h.rw XW FL
 have Px:aN (aB d m (ar k)).1 v=none:=by
  unfold aB Vs.bW
  rw[mT (pU _ _),Oy];rfl
 refine⟨mS (v,(cK [m,k],(e0,0))) q1.s Px,u6 (k.1,(e0,0)) h.se hnk,?_,?_,fun w hw=>?_,fun e he=>?_,?_⟩
 ·show(eX _ (aB d m (ar k)).1).length≤24
  rw[fz];unfold aB;rw[dZ];omega
 ·show(eR _ d.2).length≤40
  rw[jQ];omega
 ·rcases lf.1 hw with rfl|hw
  ·exact⟨hv,qG,qH,qE _⟩
  ·exact sy h.gv _ _ w hw
 ·rcases mQ.1 (show e∈eR (k.1,(e0,0)) d.2 from he) with rfl|he
  ·exact⟨hk,qG,qH⟩
  ·exact h.ge e he
 ·show(aq (eX _ _)).Perm (ends (eR (k.1,(e0,0)) d.2))
  refine(zm _ _).trans (List.Perm.trans ?_ (BC (k.1,(e0,0)) d.2).symm)
  refine(List.Perm.append_right _ (mV [m,k])).trans ?_
  show(m::k::aq (aB d m (ar k)).1).Perm _
  refine(List.Perm.swap k m _).trans ((List.Perm.cons k p1.symm).trans ?_)
  refine(EY nc _).trans ?_
  exact List.Perm.cons _ (List.Perm.cons _ h.pd)
theorem Wf.R7{d:ak}(h:Wf d){v:aj}(hv:v∈d.1)(hr:v.2.1=[]):Wf (bF d v.1 zI):=by
 obtain⟨a,b,h1,_,h2,_⟩:=sx h.sv hv
 refine⟨n8 h.sv,?_,Nat.le_trans (List.length_filter_le _ _) h.nv,Nat.le_trans (List.length_filter_le _ _) h.ne,fun w hw=>h.gv w ?_,fun e he=>h.ge e ?_,?_⟩
 ·exact ss h.se
 ·exact(List.mem_filter.1 (show w∈d.1.filter fun w=>decide (w.1≠v.1) from hw)).1
 ·exact(List.mem_filter.1 (show e∈d.2.filter fun w=>decide (w.1≠zI) from he)).1
 ·show(aq (fw d.1 v.1)).Perm (ends (dG d.2 zI))
  rw[h2,w6 h.ge]
  have p:=jm a b v
  rw[←h1,hr,List.nil_append]at p
  exact p.symm.trans h.pd
theorem Wf.R8{d:ak}(h:Wf d){v:aj}{a b:ab}(hv:v∈d.1)(hr:v.2.1.Perm [a,b])(Ah:a.1≠b.1):Wf (bF (aB (bF d v.1 zI) (ar b) a) zI b.1):=by
 obtain⟨p,q,h1,_,h2,_⟩:=sx h.sv hv
 have pd:(aq d.1).Perm (a::b::aq (p++q)):=by
  have:=(jm p q v).trans (List.Perm.append_right _ hr)
  rw[←h1]at this;exact this
 have Ki:bF d v.1 zI=(p++q,d.2):=by unfold bF;rw[h2,w6 h.ge]
 have Db:=pd.nodup_iff.1 h.rw.n
 have ZO:b∈ends d.2:=h.pd.mem_iff.1 (pd.mem_iff.2 (by simp))
 obtain⟨e,he,T5,Ao⟩:=eu.1 ZO
 have Ct:(aQ d.2 b.1).isSome=true:=by
  unfold aQ;rw[List.find?_isSome];exact⟨e,he,by simpa using T5⟩
 obtain⟨_,ho⟩:=qJ Ao
 have R9:ar b∈aq (p++q):=by
  have h3:ar b∈aq d.1:=h.mi (s:=(ar b).2) Ct (by rcases ho with⟨_,k⟩|⟨_,k⟩<;>omega)
  rcases List.mem_cons.1 (pd.mem_iff.1 h3) with k|k
  ·exact absurd (congrArg Prod.fst k) (fun k=>Ah k.symm)
  rcases List.mem_cons.1 k with k|k
  ·have:=congrArg Prod.snd k;omega
  ·exact k
 have Py:Rw (p++q):=by
  refine⟨?_,(List.nodup_cons.1 (List.nodup_cons.1 Db).2).2⟩
  rw[←h2];exact n8 h.sv
 have ha:a∉aq (p++q):=fun k=>(List.nodup_cons.1 Db).1 (List.mem_cons_of_mem _ k)
 rw[Ki]
 obtain⟨p1,q1⟩:=oc (d:=(p++q,d.2)) Py R9 ha
 have KV:∀w∈(aB (p++q,d.2) (ar b) a).1,GV w:=by
  refine sy (d:=(p++q,d.2)) (fun w hw=>h.gv w ?_) _ _
  rw[h1]
  rcases List.mem_append.1 hw with k|k
  ·exact List.mem_append_left _ k
  ·exact List.mem_append_right _ (List.mem_cons_of_mem _ k)
 have Pw:(bF (aB (p++q,d.2) (ar b) a) zI b.1).1=(aB (p++q,d.2) (ar b) a).1:=tR KV
 refine⟨by rw[Pw];exact q1.s,ss h.se,?_,Nat.le_trans (List.length_filter_le _ _) h.ne,by rw[Pw];exact KV,fun f hf=>h.ge f ?_,?_⟩
 ·rw[Pw];unfold aB;rw[dZ]
  have:=h.nv
  rw[h1]at this
  simp at this ⊢;omega
 ·exact(List.mem_filter.1 (show f∈d.2.filter fun w=>decide (w.1≠b.1) from hf)).1
 ·rw[Pw]
  show(aq (aB (p++q,d.2) (ar b) a).1).Perm (ends (dG d.2 b.1))
  have p3:(b::ar b::aq (aB (p++q,d.2) (ar b) a).1).Perm (b::ar b::ends (dG d.2 b.1)):=by
   refine List.Perm.trans (List.Perm.cons b p1.symm) ?_
   refine(List.Perm.swap a b _).trans (pd.symm.trans (h.pd.trans ?_))
   exact(zn h.se Ct).trans (EY Ao _).symm
  exact p3.cons_inv.cons_inv
theorem ed.one{s:StateT}(h:ed s)(o:aO):ed (oO s o).1:=by
 unfold oO
 split
 ·exact ed.zero
 rename_i hm
 have hm:cO o=0:=Classical.byContradiction fun k=>hm k
 have bD:=M0 hm
 split
 ·unfold pT
  split;· exact ed.zero
  split;· exact ed.zero
  rename_i h1 h2
  have hn:aN s.1.1 (ba o)=none:=by simpa[ck] using h1
  refine⟨⟨mS _ h.d.sv hn,h.d.se,by show(eX _ s.1.1).length≤24;rw[fz];omega,h.d.ne,fun w hw=>?_,h.d.ge,?_⟩,h.g,h.n⟩
  ·rcases lf.1 hw with rfl|hw
   ·exact⟨bD,qG,qH,rfl⟩
   ·exact h.d.gv w hw
  ·exact(zm _ _).trans h.d.pd
 split
 ·unfold zd
  cases hv:ck s.1 (ba o) with
  |none=>exact ed.zero
  |some v =>
   simp only
   split
   ·exact ed.zero
   ·rename_i hr
    have:=h.d.R7 (fH hv) (by simpa using hr)
    rw[jS hv]at this
    exact⟨this,h.g,h.n⟩
 split
 ·unfold rB
  split;· exact ed.zero
  split;· exact ed.zero
  split;· exact ed.zero
  split;· exact ed.zero
  split;· exact ed.zero
  rename_i h1 h2 h3 h4 h5
  have hn:aQ s.1.2 (ba o)=none:=by simpa[mO] using h1
  obtain⟨ca,ca2⟩:=oi (s:=s) (c:=oA o) (Classical.byContradiction fun k=>h3 k)
  obtain⟨cb,cb2⟩:=oi (s:=s) (c:=oB o) (Classical.byContradiction fun k=>h4 k)
  refine⟨?_,h.g,h.n⟩
  unfold mR
  refine h.d.link bD hn h2 (by rw[ca2];exact ca) ?_
  split
  ·exact cb
  ·rw[cb2];exact cb
 split
 ·unfold GZ
  split;· exact ed.zero
  rename_i h1
  have h2:=js h.g h.n ((ba o,0),dX s.1 (ba o,0))
  exact ed.add h2.1 h2.2 (h.d.cut (BG h1)) _
 split
 ·rename_i hk
  unfold n3
  split;· exact ed.zero
  split;· exact ed.zero
  split;· exact ed.zero
  split;· exact ed.zero
  split;· exact ed.zero
  rename_i h1 h2 h3 h4 h5
  obtain⟨m1,m2,m3,m4⟩:=BE hm hk
  obtain⟨s1,s2⟩:=EZ m3 m4
  refine⟨?_,h.g,h.n⟩
  exact h.d.split (m:=Ps o) (k:=Ol o) m1 m2 s1 s2 (BG h1) (by simpa[ck] using h2) (by simpa[mO,Ol] using h3) h4 h5
 split
 ·unfold n6
  split
  ·exact ed.zero
  ·rename_i v hv
   split
   ·rename_i r0 r1 hr
    have VV:=fH hv
    have VW:=jS hv
    have key:∀a b:ab,v.2.1.Perm [a,b]→a.1≠b.1→ed (J4 s o a b,G1 s.2 a b):=fun a b hp Ah=>by
     have h2:=js h.g h.n ((b.1,0),sr a b 0)
     have:=h.d.R8 VV hp Ah
     rw[VW]at this
     exact ed.add h2.1 h2.2 this _
    unfold lS
    split;· exact ed.zero
    rename_i aV
    split
    ·exact key r1 r0 (by rw[hr];exact List.Perm.swap _ _ _) (fun k=>aV k.symm)
    split
    ·exact key r0 r1 (by rw[hr]) aV
    ·exact ed.zero
   ·exact ed.zero
 ·rename_i k1 k2 k3 k4 k5 k6
  have hk:=zt hm
  have:=h.d.wx hm (by omega)
  refine⟨this,?_,?_⟩
  ·unfold wx;split
   ·exact h.g
   ·exact List.Pairwise.nil
  ·unfold wx;split
   ·exact h.n
   ·simp[zS]
theorem ed.go:∀(l:List aO) {s:StateT},ed s→ed (ER l s).1
 |[],s,h=>h
 |o::r,s,h=>by
  unfold ER
  split
  ·exact ed.zero
  ·exact ed.go r (h.one o)
theorem ed.apply{s:StateT}(h:ed s)(l:List aO):ed (cy s l).1:=by
 unfold cy
 split
 ·exact ed.zero
 ·exact ed.go l h
theorem ed.try{s:StateT}(h:ed s)(l:List aO):ed (ji s l):=by
 unfold ji
 split
 ·exact h
 ·exact h.apply l
theorem ed.reach:∀(m:Nat) (l:List (List aO)) {s:StateT},ed s→ed (lg m l s)
 |0,_,s,h=>by simpa[lg] using h
 |m+1,[],s,h=>h
 |m+1,l::r,s,h=>by rw[lg];exact ed.reach m r (h.try _)
theorem ed.IB(l:List (List aO)):ed (ze l):=ed.reach 30 l ed.zero
end Go.Vs
