/- Diagrams that are well formed stay so. -/
import Derived.Test.YtpkfpbpbkabkdaaGreatRings
set_option linter.unusedVariables false
set_option linter.unusedSimpArgs false
namespace Go.Vs
open Go.Proofs
theorem nR(row:List ab):(cI row).Perm row:=by
 unfold cI B8
 exact List.perm_append_comm.trans (List.Perm.of_eq (List.take_append_drop _ _))
theorem MT{row:List ab}(h:0<row.length)(hl:∀j,(hj:j<row.length)→kK row[j] row[0]=false):fj row row 0 0=0:=by
 have hm:=oS row row 0 0 h (by omega)
 have h2:=(tB h).2 0
 by_cases hz:fj row row 0 0=0
 ·exact hz
 ·have:=h2 (by omega) h
  rw[oV hm,hl _ hm]at this;cases this
theorem QE(row:List ab):B8 row 0=row:=by unfold B8;simp
theorem rH(row:List ab):cI (cI row)=cI row:=by
 by_cases h0:row.length=0
 ·have:row=[]:=by simpa using h0
  subst this;rfl
 have hp:0<row.length:=by omega
 have hm:=oS row row 0 0 hp (by omega)
 have hp2:0<(cI row).length:=by rw[fU];exact hp
 have h1:(cI row)[0]=row.getD (fj row row 0 0) zD:=by
  have:=K7 (row:=row) (k:=fj row row 0 0) (i:=0) (by omega) hp
  rw[Nat.add_zero,Nat.mod_eq_of_lt hm,List.getElem?_eq_getElem hm]at this
  rw[oV hm]
  exact(List.getElem?_eq_some_iff.1 this).2
 have h2:fj (cI row) (cI row) 0 0=0:=by
  refine MT hp2 (fun j hj=>?_)
  rw[h1]
  have iX:(cI row)[j]∈row:=Hq.1 (List.getElem_mem hj)
  obtain⟨i,hi,he⟩:=List.getElem_of_mem iX
  rw[←he]
  exact(tB hp).1 i hi
 unfold cI at h2 ⊢
 rw[h2,QE]
theorem MU(row:List ab)(a d:ab):cI (lT row a d)=lT row a d:=by unfold lT;split<;>exact rH _
theorem MV(row:List ab)(d:ab):cI (gR row d)=gR row d:=rH _
theorem JN(row:List ab)(a d:ab):cI (js row a d)=js row a d:=rH _
theorem MW{row:List ab}{d:ab}(a:ab)(h:d∉row):(lT row a d).Perm (d::row):=by
 unfold lT
 rw[if_neg h]
 refine(nR _).trans (List.perm_middle.trans ?_)
 rw[List.take_append_drop]
theorem rI{row:List ab}{d:ab}(h:d∈row)(hn:row.Nodup):row.Perm (d::gR row d):=by
 obtain⟨k,_,h2,_⟩:=fi h
 obtain⟨h3,h4⟩:=List.getElem?_eq_some_iff.1 h2
 unfold gR
 rw[wG hn h2]
 refine List.Perm.trans ?_ (List.Perm.cons d (nR _).symm)
 conv=>lhs;rw[←List.take_append_drop k row,List.drop_eq_getElem_cons h3,h4]
 exact List.perm_middle
theorem JO{row:List ab}{cK d:ab}(h:cK∈row)(hd:d∉row):(d::row).Perm (cK::js row cK d):=by
 obtain⟨k,h1,h2,_⟩:=fi h
 obtain⟨h3,h4⟩:=List.getElem?_eq_some_iff.1 h2
 unfold js
 rw[if_pos ⟨h,hd⟩,h1,Int.toNat_natCast]
 refine List.Perm.trans ?_ (List.Perm.cons cK (nR _).symm)
 rw[List.set_eq_take_append_cons_drop,if_pos h3]
 conv=>lhs;rw[←List.take_append_drop k row,List.drop_eq_getElem_cons h3,h4]
 have p1:(row.take k++cK::row.drop (k+1)).Perm (cK::(row.take k++row.drop (k+1))):=List.perm_middle
 have p2:(row.take k++d::row.drop (k+1)).Perm (d::(row.take k++row.drop (k+1))):=List.perm_middle
 exact(List.Perm.cons d p1).trans ((List.Perm.swap cK d _).trans (List.Perm.cons cK p2.symm))
def aq(l:List ag):List ab:=l.flatMap fun v=>v.2.1
def ends(l:List ah):List ab:=l.flatMap fun e=>[(e.1,0),(e.1,1)]
theorem jM(v:ag)(l:List ag):aq (v::l)=v.2.1++aq l:=List.flatMap_cons
theorem nS(a b:List ag):aq (a++b)=aq a++aq b:=List.flatMap_append
theorem iB(a b:List ag)(v:ag):(aq (a++v::b)).Perm (v.2.1++aq (a++b)):=by
 rw[nS,jM,nS,←List.append_assoc,←List.append_assoc]
 exact List.Perm.append_right _ List.perm_append_comm
theorem br{x:ab}{l:List ag}:x∈aq l↔∃v∈l,x∈v.2.1:=List.mem_flatMap
theorem jN(e:ah)(l:List ah):ends (e::l)=(e.1,0)::(e.1,1)::ends l:=by unfold ends;rw[List.flatMap_cons];rfl
theorem eL{x:ab}{l:List ah}:x∈ends l↔∃e∈l,e.1=x.1∧(x.2=0∨x.2=1):=by
 unfold ends
 rw[List.mem_flatMap]
 constructor
 ·rintro⟨e,he,hx⟩
  rcases List.mem_cons.1 hx with rfl|hx
  ·exact⟨e,he,rfl,.inl rfl⟩
  ·rw[List.mem_singleton]at hx;subst hx;exact⟨e,he,rfl,.inr rfl⟩
 ·rintro⟨e,he,h1,h2⟩
  refine⟨e,he,?_⟩
  obtain⟨x1,x2⟩:=x
  simp only at h1 h2
  subst h1
  rcases h2 with rfl|rfl<;>simp
theorem Bn:∀{l:List ah},dg l→(ends l).Nodup
 |[],_=>List.nodup_nil
 |e::r,h=>by
  have bq:∀s:Int,(e.1,s)∉ends r:=fun s hs=>by
   obtain⟨f,hf,h1,_⟩:=eL.1 hs
   have:=List.rel_of_pairwise_cons h hf
   simp only at h1
   rw[h1,b5]at this;cases this
  rw[jN]
  refine List.nodup_cons.2 ⟨?_,List.nodup_cons.2 ⟨bq 1,Bn h.of_cons⟩⟩
  rw[List.mem_cons]
  rintro(h1|h1)
  ·cases h1
  ·exact bq 0 h1
theorem DA(e:ah):∀l:List ah,(dp e l).Perm (e::l)
 |[]=>List.Perm.refl _
 |w::r=>by
  unfold dp
  split
  ·exact List.Perm.refl _
  ·exact(List.Perm.cons w (DA e r)).trans (List.Perm.swap e w r)
theorem DB(e:ag):∀l:List ag,(dW e l).Perm (e::l)
 |[]=>List.Perm.refl _
 |w::r=>by
  unfold dW
  split
  ·exact List.Perm.refl _
  ·exact(List.Perm.cons w (DB e r)).trans (List.Perm.swap e w r)
theorem DC(e:ah)(l:List ah):(ends (dp e l)).Perm ((e.1,0)::(e.1,1)::ends l):=by
 rw[←jN]
 exact List.Perm.flatMap_right _ (DA e l)
theorem Bo(v:ag)(l:List ag):(aq (dW v l)).Perm (v.2.1++aq l):=by
 rw[←jM]
 exact List.Perm.flatMap_right _ (DB v l)
theorem Bp{l:List ah}{x:ID}(hs:dg l)(h:(aU l x).isSome=true):(ends l).Perm ((x,0)::(x,1)::ends (cT l x)):=by
 obtain⟨e,he⟩:=Option.isSome_iff_exists.1 h
 obtain⟨h3,h4⟩:=List.getElem?_eq_some_iff.1 (lY hs he)
 rw[wC hs h]
 conv=>lhs;rw[←List.take_append_drop (bY l x) l,List.drop_eq_getElem_cons h3,h4]
 rw[←u9 he,←jN]
 exact List.Perm.flatMap_right _ List.perm_middle
theorem kr{l:List ag}{v:ag}(hs:bX l)(h:v∈l):aR l v.1=some v:=by
 have hf:(aR l v.1).isSome=true:=by
  unfold aR;rw[List.find?_isSome];exact⟨v,h,by simp⟩
 obtain⟨u,hu⟩:=Option.isSome_iff_exists.1 hf
 have h1:=c8 hs hu
 obtain⟨k,hk,he⟩:=List.getElem_of_mem h
 have h2:l[k]? = some v:=by rw[List.getElem?_eq_getElem hk,he]
 rw[jL hs h2 rfl,h1]at h2
 rw[hu];exact h2
theorem qJ{l:List ag}{v:ag}(hs:bX l)(h:v∈l):∃a b,l=a++v::b∧(∀u∈a++b,u.1≠v.1)∧dv l v.1=a++b∧∀r,l.map (rC v.1 r)=a++(v.1,(r,v.2.2))::b:=by
 obtain⟨a,b,rfl⟩:=List.append_of_mem h
 have hp:=List.pairwise_append.1 hs
 have hb:=List.pairwise_cons.1 hp.2.1
 have bq:∀u∈a++b,u.1≠v.1:=fun u hu e=>by
  rcases List.mem_append.1 hu with hu|hu
  ·have:=hp.2.2 u hu v (by simp);rw[e,b5]at this;cases this
  ·have:=hb.1 u hu;rw[e,b5]at this;cases this
 have hm:∀(r:List ab) (c:List ag),(∀u∈c,u.1≠v.1)→c.map (rC v.1 r)=c:=fun r c hc=>by
  conv=>rhs;rw[←List.map_id c]
  exact List.map_congr_left fun u hu=>by unfold rC;rw[if_neg (hc u hu)];rfl
 have hd:∀c:List ag,(∀u∈c,u.1≠v.1)→dv c v.1=c:=fun c hc=>by
  unfold dv;rw[List.filter_eq_self];intro u hu;simpa using hc u hu
 refine⟨a,b,rfl,bq,?_,fun r=>?_⟩
 ·unfold dv
  rw[List.filter_append,List.filter_cons_of_neg (by simp)]
  have h1:=hd a (fun u hu=>bq u (List.mem_append_left _ hu))
  have h2:=hd b (fun u hu=>bq u (List.mem_append_right _ hu))
  unfold dv at h1 h2
  rw[h1,h2]
 ·rw[List.map_append,List.map_cons,hm r a (fun u hu=>bq u (List.mem_append_left _ hu)),hm r b (fun u hu=>bq u (List.mem_append_right _ hu))]
  unfold rC;rw[if_pos rfl]
structure Rw(l:List ag):Prop where
 s:bX l
 n:(aq l).Nodup
theorem Rw.ring{l:List ag}(h:Rw l){v:ag}(hv:v∈l):v.2.1.Nodup:=by
 obtain⟨a,b,rfl,_⟩:=qJ h.s hv
 exact(List.nodup_append.1 ((iB a b v).nodup_iff.1 h.n)).1
theorem Rw.one{l:List ag}(h:Rw l){v w:ag}{x:ab}(hv:v∈l)(hw:w∈l)(hx:x∈v.2.1)(hy:x∈w.2.1):w=v:=by
 obtain⟨a,b,rfl,_⟩:=qJ h.s hv
 have hn:=List.nodup_append.1 ((iB a b v).nodup_iff.1 h.n)
 have:w∈a++v::b:=hw
 rw[List.mem_append,List.mem_cons]at this
 rcases this with k|k|k
 ·exact absurd rfl (hn.2.2 x hx x (br.2 ⟨w,List.mem_append_left _ k,hy⟩))
 ·exact k
 ·exact absurd rfl (hn.2.2 x hx x (br.2 ⟨w,List.mem_append_right _ k,hy⟩))
theorem ji{l:List ag}(h:Rw l){v:ag}{x:ab}(hv:v∈l)(hx:x∈v.2.1):EU l x=some v.1:=by
 have hf:(l.find? fun u=>decide (x∈u.2.1)).isSome=true:=by rw[List.find?_isSome];exact⟨v,hv,by simpa using hx⟩
 obtain⟨u,hu⟩:=Option.isSome_iff_exists.1 hf
 have h1:=List.mem_of_find?_eq_some hu
 have h2:x∈u.2.1:=by simpa using List.find?_some hu
 unfold EU
 rw[hu,h.one hv h1 hx h2];rfl
theorem HD{l:List ag}{x:ab}(h:x∉aq l):EU l x=none:=by
 unfold EU
 have:(l.find? fun u=>decide (x∈u.2.1))=none:=by
  rw[List.find?_eq_none];intro u hu hx
  exact h (br.2 ⟨u,hu,by simpa using hx⟩)
 rw[this];rfl
theorem jO{d:aj}(h:bX d.1){v:ag}(hv:v∈d.1):bJ d v.1=v.2.1:=by
 unfold bJ bp;rw[kr h hv];rfl
theorem jP{d:aj}(h:Rw d.1){v:ag}{x:ab}(hv:v∈d.1)(hx:x∈v.2.1):aB d x=b6 d v.1 (gR v.2.1 x):=by
 unfold aB cm
 rw[ji h hv hx]
 show b6 d v.1 (gR (bJ d v.1) x)=_
 rw[jO h.s hv]
theorem Bq{d:aj}(h:Rw d.1){v:ag}{x:ab}(y:ab)(hv:v∈d.1)(hx:x∈v.2.1):aC d x y=b6 d v.1 (js v.2.1 x y):=by
 unfold aC cm
 rw[ji h hv hx]
 show b6 d v.1 (js (bJ d v.1) x y)=_
 rw[jO h.s hv]
theorem bX.re{l:List ag}(h:bX l)(x:ID)(r:List ab):bX (l.map (rC x r)):=h.map (qI x r)
theorem Br{l:List ag}{v:ag}(hs:bX l)(hv:v∈l):∃rest,(aq l).Perm (v.2.1++rest)∧∀r,(aq (l.map (rC v.1 r))).Perm (r++rest):=by
 obtain⟨a,b,h1,_,_,h2⟩:=qJ hs hv
 refine⟨aq (a++b),?_,fun r=>?_⟩
 ·conv=>lhs;rw[h1]
  exact iB a b v
 ·rw[h2 r];exact iB a b (v.1,(r,v.2.2))
theorem fa{d:aj}(h:Rw d.1){x:ab}(hx:x∈aq d.1):(aq d.1).Perm (x::aq (aB d x).1)∧Rw (aB d x).1:=by
 obtain⟨v,hv,kE⟩:=br.1 hx
 obtain⟨rest,h1,h2⟩:=Br h.s hv
 rw[jP h hv kE]
 have p:(aq d.1).Perm (x::aq (b6 d v.1 (gR v.2.1 x)).1) :=
  h1.trans ((List.Perm.append_right rest (rI kE (h.ring hv))).trans (List.Perm.cons x (h2 _).symm))
 exact⟨p,h.s.re _ _,(List.nodup_cons.1 (p.nodup_iff.1 h.n)).2⟩
theorem oW{d:aj}(h:Rw d.1){x y:ab}(hx:x∈aq d.1)(hy:y∉aq d.1):(y::aq d.1).Perm (x::aq (aC d x y).1)∧Rw (aC d x y).1:=by
 obtain⟨v,hv,kE⟩:=br.1 hx
 obtain⟨rest,h1,h2⟩:=Br h.s hv
 rw[Bq h y hv kE]
 have Sc:y∉v.2.1:=fun k=>hy (br.2 ⟨v,hv,k⟩)
 have p:(y::aq d.1).Perm (x::aq (b6 d v.1 (js v.2.1 x y)).1) :=
  (List.Perm.cons y h1).trans ((List.Perm.append_right rest (JO kE Sc)).trans (List.Perm.cons x (h2 _).symm))
 refine⟨p,h.s.re _ _,?_⟩
 exact(List.nodup_cons.1 (p.nodup_iff.1 (List.nodup_cons.2 ⟨hy,h.n⟩))).2
theorem sM{d:aj}(h:Rw d.1){c:pn}{x:ab}{v:ag}(hv:aR d.1 c.1=some v)(hx:x∉aq d.1):(aq (bN d c x).1).Perm (x::aq d.1)∧Rw (bN d c x).1:=by
 have hvm:=gm hv
 have hvi:=kq hv
 obtain⟨rest,h1,h2⟩:=Br h.s hvm
 have kE:x∉v.2.1:=fun k=>hx (br.2 ⟨v,hvm,k⟩)
 have e:bN d c x=b6 d v.1 (lT v.2.1 c.2 x):=by
  unfold bN
  rw[←hvi,jO h.s hvm]
 rw[e]
 have p:(aq (b6 d v.1 (lT v.2.1 c.2 x)).1).Perm (x::aq d.1) :=
  (h2 _).trans ((List.Perm.append_right rest (MW c.2 kE)).trans (List.Perm.cons x h1.symm))
 exact⟨p,h.s.re _ _,p.nodup_iff.2 (List.nodup_cons.2 ⟨hx,h.n⟩)⟩
structure GV(v:ag):Prop where
 i:cY v.1=true
 l:yd v.2.2.1=true
 a:rW v.2.2.2=true
 t:cI v.2.1=v.2.1
structure GE(e:ah):Prop where
 i:cY e.1=true
 l:yd e.2.1=true
 a:rW e.2.2=true
structure Wf(d:aj):Prop where
 sv:bX d.1
 se:dg d.2
 nv:d.1.length≤24
 ne:d.2.length≤40
 gv:∀v∈d.1,GV v
 ge:∀e∈d.2,GE e
 pd:(aq d.1).Perm (ends d.2)
theorem Wf.rw{d:aj}(h:Wf d):Rw d.1:=⟨h.sv,h.pd.nodup_iff.2 (Bn h.se)⟩
theorem Wf.zero:Wf zS.1:=⟨List.Pairwise.nil,List.Pairwise.nil,by simp[zS],by simp[zS],by simp[zS],by simp[zS],List.Perm.refl _⟩
theorem GV.re{l:List ag}(h:∀v∈l,GV v)(x:ID){r:List ab}(hr:cI r=r):∀v∈l.map (rC x r),GV v:=fun v hv=>by
 obtain⟨w,hw,rfl⟩:=List.mem_map.1 hv
 have g:=h w hw
 unfold rC
 split
 ·exact⟨g.i,g.l,g.a,hr⟩
 ·exact g
theorem jQ{d:aj}(h:∀v∈d.1,GV v)(x:ab):∀v∈(aB d x).1,GV v:=GV.re h _ (MV _ _)
theorem tC{d:aj}(h:∀v∈d.1,GV v)(x y:ab):∀v∈(aC d x y).1,GV v:=GV.re h _ (JN _ _ _)
theorem xK{d:aj}(h:∀v∈d.1,GV v)(c:pn)(y:ab):∀v∈(bN d c y).1,GV v:=GV.re h _ (MU _ _ _)
theorem fb(d:aj)(x:ID)(r:List ab):(b6 d x r).1.length=d.1.length:=by unfold b6;simp
theorem DD:cY zI=false:=by decide
theorem vd{l:List ah}(h:∀e∈l,GE e):cT l zI=l:=by
 unfold cT;rw[List.filter_eq_self];intro e he
 have:=(h e he).i
 simp;intro k;rw[k,DD]at this;cases this
theorem ve{l:List ag}(h:∀e∈l,GV e):dv l zI=l:=by
 unfold dv;rw[List.filter_eq_self];intro e he
 have:=(h e he).i
 simp;intro k;rw[k,DD]at this;cases this
theorem rJ:yd e0=true:=by decide
theorem rK:rW 0=true:=by decide
theorem Bu{l:List ah}{x:ID}(h:aU l x=none)(s:Int):(x,s)∉ends l:=fun k=>by
 obtain⟨e,he,h1,_⟩:=eL.1 k
 unfold aU at h
 rw[List.find?_eq_none]at h
 exact h e he (by simpa using h1)
theorem Bv{l:List ah}{x:ID}(h:(aU l x).isSome=true){s:Int}(hs:s=0∨s=1):(x,s)∈ends l:=by
 obtain⟨e,he⟩:=Option.isSome_iff_exists.1 h
 exact eL.2 ⟨e,MR he,u9 he,hs⟩
end Go.Vs
namespace Go.Vs
open Go.Proofs
theorem QF{o:ba}(h:cf o=0):cY (aV o)=true:=by
 unfold cf at h
 split at h;· cases h
 split at h;· cases h
 split at h;· cases h
 rename_i h3;simpa using h3
theorem Bw{o:ba}(h:cf o=0):1≤o.1∧o.1≤8:=by
 unfold cf at h
 split at h;· cases h
 split at h;· cases h
 omega
theorem DE{o:ba}(h:cf o=0)(hk:o.1=5):cY (eO o)=true∧cY (aZ o)=true∧0≤oN o∧oN o≤3:=by
 unfold cf at h
 split at h;· cases h
 split at h;· cases h
 split at h;· cases h
 split at h;· cases h
 rw[if_neg (show ¬o.1=3 by omega)]at h
 split at h
 ·assumption
 ·cases h
theorem HE{o:ba}(h:cf o=0)(hk:o.1=8):rW (oN o)=true:=by
 unfold cf at h
 split at h;· cases h
 split at h;· cases h
 split at h;· cases h
 split at h;· cases h
 rw[if_neg (show ¬o.1=3 by omega),if_neg (show ¬o.1=5 by omega),if_neg (show ¬o.1=6 by omega)]at h
 split at h
 ·assumption
 ·cases h
theorem DF{o:ba}(h:cf o=0)(hk:o.1=7):yd (nM o)=true:=by
 unfold cf at h
 split at h;· cases h
 split at h;· cases h
 split at h;· cases h
 split at h;· cases h
 rw[if_neg (show ¬o.1=3 by omega),if_neg (show ¬o.1=5 by omega),if_neg (show ¬o.1=6 by omega),if_neg (show ¬o.1=8 by omega)]at h
 split at h
 ·assumption
 ·cases h
def iC(l:List aw):Prop:=l.Pairwise fun a b=>kK a.1 b.1=true
theorem oX{a b:ab}:mW a b≤0↔a=b∨kK a b=true:=by
 unfold mW
 by_cases h:a=b
 ·subst h;simp
 ·rw[if_neg h];cases kK a b<;>simp[h]
theorem Bx{q g:aw}:∀{l:List aw},q∈kV g l→q=g∨(q∈l∧q.1≠g.1)
 |[],h=>by simp[kV]at h;exact .inl h
 |e::r,h=>by
  unfold kV at h
  split at h
  ·rcases List.mem_cons.1 h with h|h
   ·exact .inl h
   ·unfold mX at h
    rw[List.mem_filter]at h
    exact .inr ⟨h.1,by simpa using h.2⟩
  ·split at h
   ·rename_i bq
    rcases List.mem_cons.1 h with rfl|h
    ·exact .inr ⟨List.mem_cons_self ..,bq⟩
    ·rcases Bx h with h|⟨h,h2⟩
     ·exact .inl h
     ·exact .inr ⟨List.mem_cons_of_mem _ h,h2⟩
   ·rcases Bx h with h|⟨h,h2⟩
    ·exact .inl h
    ·exact .inr ⟨List.mem_cons_of_mem _ h,h2⟩
theorem iC.add(g:aw):∀{l:List aw},iC l→iC (kV g l)
 |[],_=>List.pairwise_singleton _ _
 |e::r,h=>by
  have hr:∀{q:aw},q∈r→kK e.1 q.1=true:=fun {q} hq=>List.rel_of_pairwise_cons h hq
  unfold kV
  split
  ·rename_i ho
   refine List.Pairwise.cons (fun q hq=>?_) (h.filter _)
   unfold mX at hq
   rw[List.mem_filter]at hq
   have bq:q.1≠g.1:=by simpa using hq.2
   have hle:e.1=q.1∨kK e.1 q.1=true:=by
    rcases List.mem_cons.1 hq.1 with rfl|hq
    ·exact .inl rfl
    ·exact .inr (hr hq)
   rcases oX.1 ho with ho|ho
   ·rcases hle with k|k
    ·exact absurd (ho.trans k).symm bq
    ·rw[ho];exact k
   ·rcases hle with k|k
    ·rw[←k];exact ho
    ·exact gq ho k
  ·rename_i ho
   have IA:kK e.1 g.1=true:=by
    have h1:¬(g.1=e.1∨kK g.1 e.1=true):=fun k=>ho (oX.2 k)
    exact wE (by simpa using fun k=>h1 (.inr k)) (fun k=>h1 (.inl k))
   have hs:=iC.add g (List.Pairwise.of_cons h)
   split
   ·refine List.Pairwise.cons (fun q hq=>?_) hs
    rcases Bx hq with rfl|⟨hq,_⟩
    ·exact IA
    ·exact hr hq
   ·exact hs
theorem oY(e:aw)(r:List aw)(x:ab):fV (e::r) x=if e.1=x then some e.2 else fV r x:=by
 unfold fV
 rw[List.find?_cons]
 by_cases h:e.1=x
 ·simp[h]
 ·simp[h]
theorem rL{g:aw}:∀{l:List aw},(∀q∈l,q.1≠g.1)→mX g l=l:=fun {l} h=>by
 unfold mX;rw[List.filter_eq_self];intro q hq;simpa using h q hq
theorem HF(g:aw):∀{l:List aw},iC l→(kV g l).length=if(fV l g.1).isSome=true then l.length else l.length+1
 |[],_=>rfl
 |e::r,h=>by
  have hr:∀{q:aw},q∈r→kK e.1 q.1=true:=fun {q} hq=>List.rel_of_pairwise_cons h hq
  have ih:=HF g (List.Pairwise.of_cons h)
  unfold kV
  split
  ·rename_i ho
   rcases oX.1 ho with ho|ho
   ·have h1:mX g (e::r)=r:=by
     have:mX g (e::r)=mX g r:=by unfold mX;rw[List.filter_cons_of_neg (by simp[ho])]
     rw[this]
     exact rL (fun q hq k=>by have:=hr hq;rw[k,ho,dG]at this;cases this)
    rw[h1,oY,if_pos ho.symm];simp
   ·have h2:∀q∈e::r,q.1≠g.1:=fun q hq k=>by
     have:kK g.1 q.1=true:=by
      rcases List.mem_cons.1 hq with rfl|hq
      ·exact ho
      ·exact gq ho (hr hq)
     rw[k,dG]at this;cases this
    have h3:fV (e::r) g.1=none:=by
     unfold fV
     have:(List.find? (fun q=>decide (q.1=g.1)) (e::r))=none:=by
      rw[List.find?_eq_none];intro q hq;simpa using h2 q hq
     rw[this];rfl
    rw[rL h2,h3];simp
  ·rename_i ho
   have bq:e.1≠g.1:=fun k=>ho (oX.2 (.inl k.symm))
   rw[if_pos bq,oY,if_neg bq]
   simp only[List.length_cons,ih]
   split<;>rfl
theorem jR{l:List aw}(h:iC l)(hn:l.length≤400)(g:aw):iC (bK l g)∧(bK l g).length≤400:=by
 unfold bK
 split
 ·exact⟨h,hn⟩
 ·rename_i hc
  refine⟨iC.add g h,?_⟩
  rw[HF g h]
  split
  ·exact hn
  ·rename_i h1
   by_cases h2:400≤l.length
   ·exact absurd ⟨by simpa using h1,h2⟩ hc
   ·omega
theorem DG{α:Type}{o:Option α}(h:¬o.isSome=false):o.isSome=true:=by cases o<;>simp_all
structure eU(s:StateT):Prop where
 d:Wf s.1
 g:iC s.2
 n:s.2.length≤400
theorem eU.zero:eU zS:=⟨Wf.zero,List.Pairwise.nil,by simp[zS]⟩
theorem eU.add{l:List aw}(h:iC l)(hn:l.length≤400){d:aj}(hd:Wf d)(g:aw):eU (d,bK l g):=⟨hd,(jR h hn g).1,(jR h hn g).2⟩
theorem MX{f:ag→ag}(hf:∀v,(f v).2.1=v.2.1)(l:List ag):aq (l.map f)=aq l:=by
 unfold aq;rw[List.flatMap_map];congr 1;funext v;exact hf v
theorem QG{f:ah→ah}(hf:∀v,(f v).1=v.1)(l:List ah):ends (l.map f)=ends l:=by
 unfold ends;rw[List.flatMap_map];congr 1;funext v;rw[hf]
theorem Lb(o:ba)(w:ah):(jK o w).1=w.1:=by unfold jK;split<;>(try split)<;>rfl
theorem MY(o:ba)(w:ag):(iH o w).2.1=w.2.1:=by unfold iH;split<;>(try split)<;>rfl
theorem Wf.yN{d:aj}(h:Wf d){x:ID}(hx:aU d.2 x=none)(s:Int):(x,s)∉aq d.1:=fun k=>Bu hx s (h.pd.mem_iff.1 k)
theorem Wf.mZ{d:aj}(h:Wf d){x:ID}(hx:(aU d.2 x).isSome=true){s:Int}(hs:s=0∨s=1):(x,s)∈aq d.1:=h.pd.mem_iff.2 (Bv hx hs)
theorem Wf.wu{s:StateT}(h:Wf s.1){o:ba}(hm:cf o=0)(hk:7≤o.1):Wf (wu s o).1.1:=by
 have hk8:=(Bw hm).2
 unfold Vs.wu
 split
 ·refine⟨h.sv.map (K9 o),h.se.map (Lb o),by simp;exact h.nv,by simp;exact h.ne,fun v hv=>?_,fun e he=>?_,?_⟩
  ·obtain⟨w,hw,rfl⟩:=List.mem_map.1 hv
   have g:=h.gv w hw
   unfold iH
   split
   ·split
    ·rename_i h7
     exact⟨g.i,DF hm h7,g.a,g.t⟩
    ·exact⟨g.i,g.l,HE hm (by omega),g.t⟩
   ·exact g
  ·obtain⟨w,hw,rfl⟩:=List.mem_map.1 he
   have g:=h.ge w hw
   unfold jK
   split
   ·split
    ·rename_i h7
     exact⟨g.i,DF hm h7,g.a⟩
    ·exact⟨g.i,g.l,HE hm (by omega)⟩
   ·exact g
  ·show(aq (s.1.1.map (iH o))).Perm (ends (s.1.2.map (jK o)))
   rw[MX (MY o),QG (Lb o)];exact h.pd
 ·exact Wf.zero
theorem oZ{s:StateT}{c:pn}(h:(aY s c).2.1=0):(bp s.1 c.1).isSome=true∧(aY s c).1.1=c.1:=by
 unfold aY at h ⊢
 cases hv:bp s.1 c.1 with
 |none=>rw[hv]at h;cases h
 |some v=>exact⟨rfl,rfl⟩
theorem vf{l:List ag}{x y:ID}(r:List ab)(h:(aR l x).isSome=true):(aR (l.map (rC y r)) x).isSome=true:=by
 rw[nP (qI y r)];simpa using h
theorem Wf.link{d:aj}(h:Wf d){x:ID}(hx:cY x=true)(hn:aU d.2 x=none)(he:¬40≤d.2.length){a b:pn}(ha:(aR d.1 a.1).isSome=true)(hb:(aR d.1 b.1).isSome=true) :
  Wf (bN (bN (d.1,dp (x,(e0,0)) d.2) a (x,0)) b (x,1)):=by
 have hrw:Rw ((d.1,dp (x,(e0,0)) d.2):aj).1:=h.rw
 obtain⟨va,hva⟩:=Option.isSome_iff_exists.1 ha
 have h0:=h.yN hn 0
 have h1:=h.yN hn 1
 obtain⟨p1,q1⟩:=sM (c:=a) (x:=(x,0)) hrw hva h0
 obtain⟨vb,hvb⟩:=Option.isSome_iff_exists.1 (vf (x:=b.1) (y:=a.1) (lT (bJ (d.1,dp (x,(e0,0)) d.2) a.1) a.2 (x,0)) hb)
 have RP:(x,1)∉aq (bN (d.1,dp (x,(e0,0)) d.2) a (x,0)).1:=fun k=>by
  rcases List.mem_cons.1 (p1.mem_iff.1 k) with k|k
  ·cases k
  ·exact h1 k
 obtain⟨p2,q2⟩:=sM (c:=b) (x:=(x,1)) q1 hvb RP
 refine⟨q2.s,wD (x,(e0,0)) h.se hn,?_,?_,xK (xK h.gv _ _) _ _,fun e hem=>?_,?_⟩
 ·unfold bN;rw[fb,fb];exact h.nv
 ·show(dp (x,(e0,0)) d.2).length≤40
  rw[kl];omega
 ·rcases nN.1 (show e∈dp (x,(e0,0)) d.2 from hem) with rfl|hem
  ·exact⟨hx,rJ,rK⟩
  ·exact h.ge e hem
 ·show(aq _).Perm (ends (dp (x,(e0,0)) d.2))
  refine(p2.trans (List.Perm.cons _ p1)).trans (List.Perm.trans ?_ (DC (x,(e0,0)) d.2).symm)
  exact(List.Perm.swap _ _ _).trans (List.Perm.cons _ (List.Perm.cons _ h.pd))
theorem Wf.cut{d:aj}(h:Wf d){x:ID}(hx:(aU d.2 x).isSome=true):Wf (aS (aB (aB d (x,0)) (x,1)) zI x):=by
 have h0:=h.mZ hx (s:=0) (.inl rfl)
 have h1:=h.mZ hx (s:=1) (.inr rfl)
 obtain⟨p1,q1⟩:=fa h.rw h0
 have RP:(x,1)∈aq (aB d (x,0)).1:=by
  rcases List.mem_cons.1 (p1.mem_iff.1 h1) with k|k
  ·cases k
  ·exact k
 obtain⟨p2,q2⟩:=fa q1 RP
 have NB:=jQ (jQ h.gv (x,0)) (x,1)
 have Tz:(aS (aB (aB d (x,0)) (x,1)) zI x).1=(aB (aB d (x,0)) (x,1)).1:=ve NB
 refine⟨by rw[Tz];exact q2.s,tx h.se,?_,?_,by rw[Tz];exact NB,fun e he=>h.ge e ?_,?_⟩
 ·rw[Tz];unfold aB;rw[fb,fb];exact h.nv
 ·exact Nat.le_trans (List.length_filter_le _ _) h.ne
 ·exact(List.mem_filter.1 (show e∈d.2.filter fun w=>decide (w.1≠x) from he)).1
 ·rw[Tz]
  show(aq (aB (aB d (x,0)) (x,1)).1).Perm (ends (cT d.2 x))
  have p3:((x,0)::(x,1)::aq (aB (aB d (x,0)) (x,1)).1).Perm ((x,0)::(x,1)::ends (cT d.2 x)) :=
   ((p1.trans (List.Perm.cons _ p2)).symm.trans h.pd).trans (Bp h.se hx)
  exact p3.cons_inv.cons_inv
theorem iD{x:ab}(h:x.2=0∨x.2=1):(ao x).1=x.1∧((x.2=0∧(ao x).2=1)∨(x.2=1∧(ao x).2=0)):=by
 refine⟨rfl,?_⟩
 unfold ao
 rcases h with h|h
 ·exact .inl ⟨h,by rw[h];rfl⟩
 ·exact .inr ⟨h,by rw[h];rfl⟩
theorem HH{x:ab}(h:x.2=0∨x.2=1)(l:List ab):(x::ao x::l).Perm ((x.1,0)::(x.1,1)::l):=by
 obtain⟨h1,h2⟩:=iD h
 have e:x=(x.1,x.2):=rfl
 have e2:ao x=(x.1,(ao x).2):=rfl
 rcases h2 with⟨ha,hb⟩|⟨ha,hb⟩
 ·rw[ha]at e;rw[hb]at e2;rw[e2,e]
 ·rw[ha]at e;rw[hb]at e2;rw[e2,e];exact List.Perm.swap _ _ _
theorem HI{n:Int}(h0:0≤n)(h3:n≤3):(IntKind.wrap .i64 (1-Int.tmod n 2)=0∨IntKind.wrap .i64 (1-Int.tmod n 2)=1)∧(IntKind.wrap .i64 (Int.tdiv n 2)=0∨IntKind.wrap .i64 (Int.tdiv n 2)=1):=by
 have:n=0∨n=1∨n=2∨n=3:=by omega
 rcases this with rfl|rfl|rfl|rfl<;>exact⟨by decide,by decide⟩
theorem Wf.split{d:aj}(h:Wf d){m k:ab}{v:ID}(hv:cY v=true)(hk:cY k.1=true)(VT:m.2=0∨m.2=1)(n6:k.2=0∨k.2=1)(hm:(aU d.2 m.1).isSome=true)(So:aR d.1 v=none)(hnk:aU d.2 k.1=none)
  (U4:¬24≤d.1.length) (hle:¬40≤d.2.length):Wf (dW (v,(cI [m,k],(e0,0))) (aC d m (ao k)).1,dp (k.1,(e0,0)) (aC d m (ao k)).2):=by
 have hmd:m∈aq d.1:=h.mZ hm VT
 have Iz:ao k∉aq d.1:=h.yN hnk _
 obtain⟨p1,q1⟩:=oW h.rw hmd Iz
 have TA:aR (aC d m (ao k)).1 v=none:=by
  unfold aC Vs.b6
  rw[nP (qI _ _),So];rfl
 refine⟨nO (v,(cI [m,k],(e0,0))) q1.s TA,wD (k.1,(e0,0)) h.se hnk,?_,?_,fun w hw=>?_,fun e he=>?_,?_⟩
 ·show(dW _ (aC d m (ao k)).1).length≤24
  rw[fW];unfold aC;rw[fb];omega
 ·show(dp _ d.2).length≤40
  rw[kl];omega
 ·rcases lV.1 hw with rfl|hw
  ·exact⟨hv,rJ,rK,rH _⟩
  ·exact tC h.gv _ _ w hw
 ·rcases nN.1 (show e∈dp (k.1,(e0,0)) d.2 from he) with rfl|he
  ·exact⟨hk,rJ,rK⟩
  ·exact h.ge e he
 ·show(aq (dW _ _)).Perm (ends (dp (k.1,(e0,0)) d.2))
  refine(Bo _ _).trans (List.Perm.trans ?_ (DC (k.1,(e0,0)) d.2).symm)
  refine(List.Perm.append_right _ (nR [m,k])).trans ?_
  show(m::k::aq (aC d m (ao k)).1).Perm _
  refine(List.Perm.swap k m _).trans ((List.Perm.cons k p1.symm).trans ?_)
  refine(HH n6 _).trans ?_
  exact List.Perm.cons _ (List.Perm.cons _ h.pd)
theorem Wf.QH{d:aj}(h:Wf d){v:ag}(hv:v∈d.1)(hr:v.2.1=[]):Wf (aS d v.1 zI):=by
 obtain⟨a,b,h1,_,h2,_⟩:=qJ h.sv hv
 refine⟨oU h.sv,?_,Nat.le_trans (List.length_filter_le _ _) h.nv,Nat.le_trans (List.length_filter_le _ _) h.ne,fun w hw=>h.gv w ?_,fun e he=>h.ge e ?_,?_⟩
 ·exact tx h.se
 ·exact(List.mem_filter.1 (show w∈d.1.filter fun w=>decide (w.1≠v.1) from hw)).1
 ·exact(List.mem_filter.1 (show e∈d.2.filter fun w=>decide (w.1≠zI) from he)).1
 ·show(aq (dv d.1 v.1)).Perm (ends (cT d.2 zI))
  rw[h2,vd h.ge]
  have p:=iB a b v
  rw[←h1,hr,List.nil_append]at p
  exact p.symm.trans h.pd
theorem Wf.WE{d:aj}(h:Wf d){v:ag}{a b:ab}(hv:v∈d.1)(hr:v.2.1.Perm [a,b])(B6:a.1≠b.1):Wf (aS (aC (aS d v.1 zI) (ao b) a) zI b.1):=by
 obtain⟨p,q,h1,_,h2,_⟩:=qJ h.sv hv
 have pd:(aq d.1).Perm (a::b::aq (p++q)):=by
  have:=(iB p q v).trans (List.Perm.append_right _ hr)
  rw[←h1]at this;exact this
 have MZ:aS d v.1 zI=(p++q,d.2):=by unfold aS;rw[h2,vd h.ge]
 have Fq:=pd.nodup_iff.1 h.rw.n
 have hbm:b∈ends d.2:=h.pd.mem_iff.1 (pd.mem_iff.2 (by simp))
 obtain⟨e,he,Yu,Cf⟩:=eL.1 hbm
 have Eo:(aU d.2 b.1).isSome=true:=by
  unfold aU;rw[List.find?_isSome];exact⟨e,he,by simpa using Yu⟩
 obtain⟨_,ho⟩:=iD Cf
 have WG:ao b∈aq (p++q):=by
  have h3:ao b∈aq d.1:=h.mZ (s:=(ao b).2) Eo (by rcases ho with⟨_,k⟩|⟨_,k⟩<;>omega)
  rcases List.mem_cons.1 (pd.mem_iff.1 h3) with k|k
  ·exact absurd (congrArg Prod.fst k) (fun k=>B6 k.symm)
  rcases List.mem_cons.1 k with k|k
  ·have:=congrArg Prod.snd k;omega
  ·exact k
 have TB:Rw (p++q):=by
  refine⟨?_,(List.nodup_cons.1 (List.nodup_cons.1 Fq).2).2⟩
  rw[←h2];exact oU h.sv
 have ha:a∉aq (p++q):=fun k=>(List.nodup_cons.1 Fq).1 (List.mem_cons_of_mem _ k)
 rw[MZ]
 obtain⟨p1,q1⟩:=oW (d:=(p++q,d.2)) TB WG ha
 have NB:∀w∈(aC (p++q,d.2) (ao b) a).1,GV w:=by
  refine tC (d:=(p++q,d.2)) (fun w hw=>h.gv w ?_) _ _
  rw[h1]
  rcases List.mem_append.1 hw with k|k
  ·exact List.mem_append_left _ k
  ·exact List.mem_append_right _ (List.mem_cons_of_mem _ k)
 have Tz:(aS (aC (p++q,d.2) (ao b) a) zI b.1).1=(aC (p++q,d.2) (ao b) a).1:=ve NB
 refine⟨by rw[Tz];exact q1.s,tx h.se,?_,Nat.le_trans (List.length_filter_le _ _) h.ne,by rw[Tz];exact NB,fun f hf=>h.ge f ?_,?_⟩
 ·rw[Tz];unfold aC;rw[fb]
  have:=h.nv
  rw[h1]at this
  simp at this ⊢;omega
 ·exact(List.mem_filter.1 (show f∈d.2.filter fun w=>decide (w.1≠b.1) from hf)).1
 ·rw[Tz]
  show(aq (aC (p++q,d.2) (ao b) a).1).Perm (ends (cT d.2 b.1))
  have p3:(b::ao b::aq (aC (p++q,d.2) (ao b) a).1).Perm (b::ao b::ends (cT d.2 b.1)):=by
   refine List.Perm.trans (List.Perm.cons b p1.symm) ?_
   refine(List.Perm.swap a b _).trans (pd.symm.trans (h.pd.trans ?_))
   exact(Bp h.se Eo).trans (HH Cf _).symm
  exact p3.cons_inv.cons_inv
theorem eU.one{s:StateT}(h:eU s)(o:ba):eU (kX s o).1:=by
 unfold kX
 split
 ·exact eU.zero
 rename_i hm
 have hm:cf o=0:=Classical.byContradiction fun k=>hm k
 have bL:=QF hm
 split
 ·unfold pz
  split;· exact eU.zero
  split;· exact eU.zero
  rename_i h1 h2
  have hn:aR s.1.1 (aV o)=none:=by simpa[bp] using h1
  refine⟨⟨nO _ h.d.sv hn,h.d.se,by show(dW _ s.1.1).length≤24;rw[fW];omega,h.d.ne,fun w hw=>?_,h.d.ge,?_⟩,h.g,h.n⟩
  ·rcases lV.1 hw with rfl|hw
   ·exact⟨bL,rJ,rK,rfl⟩
   ·exact h.d.gv w hw
  ·exact(Bo _ _).trans h.d.pd
 split
 ·unfold xI
  cases hv:bp s.1 (aV o) with
  |none=>exact eU.zero
  |some v =>
   simp only
   split
   ·exact eU.zero
   ·rename_i hr
    have:=h.d.QH (gm hv) (by simpa using hr)
    rw[kq hv]at this
    exact⟨this,h.g,h.n⟩
 split
 ·unfold py
  split;· exact eU.zero
  split;· exact eU.zero
  split;· exact eU.zero
  split;· exact eU.zero
  split;· exact eU.zero
  rename_i h1 h2 h3 h4 h5
  have hn:aU s.1.2 (aV o)=none:=by simpa[gD] using h1
  obtain⟨ca,ca2⟩:=oZ (s:=s) (c:=oA o) (Classical.byContradiction fun k=>h3 k)
  obtain⟨cb,cb2⟩:=oZ (s:=s) (c:=oB o) (Classical.byContradiction fun k=>h4 k)
  refine⟨?_,h.g,h.n⟩
  unfold fX
  refine h.d.link bL hn h2 (by rw[ca2];exact ca) ?_
  split
  ·exact cb
  ·rw[cb2];exact cb
 split
 ·unfold E0
  split;· exact eU.zero
  rename_i h1
  have h2:=jR h.g h.n ((aV o,0),c9 s.1 (aV o,0))
  exact eU.add h2.1 h2.2 (h.d.cut (DG h1)) _
 split
 ·rename_i hk
  unfold lW
  split;· exact eU.zero
  split;· exact eU.zero
  split;· exact eU.zero
  split;· exact eU.zero
  split;· exact eU.zero
  rename_i h1 h2 h3 h4 h5
  obtain⟨m1,m2,m3,m4⟩:=DE hm hk
  obtain⟨s1,s2⟩:=HI m3 m4
  refine⟨?_,h.g,h.n⟩
  exact h.d.split (m:=IB o) (k:=Ft o) m1 m2 s1 s2 (DG h1) (by simpa[bp] using h2) (by simpa[gD,Ft] using h3) h4 h5
 split
 ·unfold kW
  split
  ·exact eU.zero
  ·rename_i v hv
   split
   ·rename_i r0 r1 hr
    have hvm:=gm hv
    have hvi:=kq hv
    have key:∀a b:ab,v.2.1.Perm [a,b]→a.1≠b.1→eU (JG s o a b,Hz s.2 a b):=fun a b hp B6=>by
     have h2:=jR h.g h.n ((b.1,0),pP a b 0)
     have:=h.d.WE hvm hp B6
     rw[hvi]at this
     exact eU.add h2.1 h2.2 this _
    unfold jX
    split;· exact eU.zero
    rename_i bq
    split
    ·exact key r1 r0 (by rw[hr];exact List.Perm.swap _ _ _) (fun k=>bq k.symm)
    split
    ·exact key r0 r1 (by rw[hr]) bq
    ·exact eU.zero
   ·exact eU.zero
 ·rename_i k1 k2 k3 k4 k5 k6
  have hk:=Bw hm
  have:=h.d.wu hm (by omega)
  refine⟨this,?_,?_⟩
  ·unfold wu;split
   ·exact h.g
   ·exact List.Pairwise.nil
  ·unfold wu;split
   ·exact h.n
   ·simp[zS]
theorem eU.go:∀(l:List ba) {s:StateT},eU s→eU (E1 l s).1
 |[],s,h=>h
 |o::r,s,h=>by
  unfold E1
  split
  ·exact eU.zero
  ·exact eU.go r (h.one o)
theorem eU.apply{s:StateT}(h:eU s)(l:List ba):eU (cP s l).1:=by
 unfold cP
 split
 ·exact eU.zero
 ·exact eU.go l h
theorem eU.try{s:StateT}(h:eU s)(l:List ba):eU (iI s l):=by
 unfold iI
 split
 ·exact h
 ·exact h.apply l
theorem eU.reach:∀(m:Nat) (l:List (List ba)) {s:StateT},eU s→eU (lX m l s)
 |0,_,s,h=>by simpa[lX] using h
 |m+1,[],s,h=>h
 |m+1,l::r,s,h=>by rw[lX];exact eU.reach m r (h.try _)
theorem eU.K8(l:List (List ba)):eU (Bi l):=eU.reach 30 l eU.zero
end Go.Vs
