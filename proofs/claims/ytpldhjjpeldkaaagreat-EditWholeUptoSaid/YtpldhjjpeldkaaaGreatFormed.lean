/- Diagrams that are well formed stay so. -/
import Derived.Test.YtpldhjjpeldkaaaGreatRings
set_option linter.unusedVariables false
set_option linter.unusedSimpArgs false
namespace Go.Vs
open Go.Proofs
theorem nt(row:List ab):(cH row).Perm row:=by
 unfold cH Bv
 exact List.perm_append_comm.trans (List.Perm.of_eq (List.take_append_drop _ _))
theorem LQ{row:List ab}(h:0<row.length)(hl:∀j,(hj:j<row.length)→ku row[j] row[0]=false):eX row row 0 0=0:=by
 have hm:=ov row row 0 0 h (by omega)
 have h2:=(sZ h).2 0
 by_cases hz:eX row row 0 0=0
 ·exact hz
 ·have:=h2 (by omega) h
  rw [oy hm,hl _ hm] at this;cases this
theorem Ps(row:List ab):Bv row 0=row:=by unfold Bv;simp
theorem q7(row:List ab):cH (cH row)=cH row:=by
 by_cases h0:row.length=0
 ·have:row=[]:=by simpa using h0
  subst this;rfl
 have hp:0<row.length:=by omega
 have hm:=ov row row 0 0 hp (by omega)
 have hp2:0<(cH row).length:=by rw [fM];exact hp
 have h1:(cH row)[0]=row.getD (eX row row 0 0) zD:=by
  have:=Kd (row:=row) (k:=eX row row 0 0) (i:=0) (by omega) hp
  rw [Nat.add_zero,Nat.mod_eq_of_lt hm,List.getElem?_eq_getElem hm] at this
  rw [oy hm]
  exact (List.getElem?_eq_some_iff.1 this).2
 have h2:eX (cH row) (cH row) 0 0=0:=by
  refine LQ hp2 (fun j hj => ?_)
  rw [h1]
  have iM:(cH row)[j]∈row:=GB.1 (List.getElem_mem hj)
  obtain ⟨i,hi,he⟩:=List.getElem_of_mem iM
  rw [←he]
  exact (sZ hp).1 i hi
 unfold cH at h2 ⊢
 rw [h2,Ps]
theorem LR(row:List ab)(a d:ab):cH (lC row a d)=lC row a d:=by unfold lC;split<;>exact q7 _
theorem LS(row:List ab)(d:ab):cH (gG row d)=gG row d:=q7 _
theorem IW(row:List ab)(a d:ab):cH (jg row a d)=jg row a d:=q7 _
theorem LU{row:List ab}{d:ab}(a:ab)(h:d∉row):(lC row a d).Perm (d::row):=by
 unfold lC
 rw [if_neg h]
 refine (nt _).trans (List.perm_middle.trans ?_)
 rw [List.take_append_drop]
theorem q8{row:List ab}{d:ab}(h:d∈row)(hn:row.Nodup):row.Perm (d::gG row d):=by
 obtain ⟨k,_,h2,_⟩:=eW h
 obtain ⟨h3,h4⟩:=List.getElem?_eq_some_iff.1 h2
 unfold gG
 rw [vR hn h2]
 refine List.Perm.trans ?_ (List.Perm.cons d (nt _).symm)
 conv=>lhs;rw [←List.take_append_drop k row,List.drop_eq_getElem_cons h3,h4]
 exact List.perm_middle
theorem IX{row:List ab}{cF d:ab}(h:cF∈row)(hd:d∉row):(d::row).Perm (cF::jg row cF d):=by
 obtain ⟨k,h1,h2,_⟩:=eW h
 obtain ⟨h3,h4⟩:=List.getElem?_eq_some_iff.1 h2
 unfold jg
 rw [if_pos ⟨h,hd⟩,h1,Int.toNat_natCast]
 refine List.Perm.trans ?_ (List.Perm.cons cF (nt _).symm)
 rw [List.set_eq_take_append_cons_drop,if_pos h3]
 conv=>lhs;rw [←List.take_append_drop k row,List.drop_eq_getElem_cons h3,h4]
 have p1:(row.take k++cF::row.drop (k+1)).Perm (cF::(row.take k++row.drop (k+1))):=List.perm_middle
 have p2:(row.take k++d::row.drop (k+1)).Perm (d::(row.take k++row.drop (k+1))):=List.perm_middle
 exact (List.Perm.cons d p1).trans ((List.Perm.swap cF d _).trans (List.Perm.cons cF p2.symm))
def aw(l:List ah):List ab:=l.flatMap fun v=>v.2.1
def ends(l:List af):List ab:=l.flatMap fun e=>[(e.1,0),(e.1,1)]
theorem jB(v:ah)(l:List ah):aw (v::l)=v.2.1++aw l:=List.flatMap_cons
theorem nu(a b:List ah):aw (a++b)=aw a++aw b:=List.flatMap_append
theorem jC(a b:List ah)(v:ah):(aw (a++v::b)).Perm (v.2.1++aw (a++b)):=by
 rw [nu,jB,nu,←List.append_assoc,←List.append_assoc]
 exact List.Perm.append_right _ List.perm_append_comm
theorem bD{x:ab}{l:List ah}:x∈aw l↔∃v∈l,x∈v.2.1:=List.mem_flatMap
theorem jD(e:af)(l:List af):ends (e::l)=(e.1,0)::(e.1,1)::ends l:=by unfold ends;rw [List.flatMap_cons];rfl
theorem eY{x:ab}{l:List af}:x∈ends l↔∃e∈l,e.1=x.1∧(x.2=0∨x.2=1):=by
 unfold ends
 rw [List.mem_flatMap]
 constructor
 ·rintro ⟨e,he,hx⟩
  rcases List.mem_cons.1 hx with rfl | hx
  ·exact ⟨e,he,rfl,.inl rfl⟩
  ·rw [List.mem_singleton] at hx;subst hx;exact ⟨e,he,rfl,.inr rfl⟩
 ·rintro ⟨e,he,h1,h2⟩
  refine ⟨e,he,?_⟩
  obtain ⟨x1,x2⟩:=x
  simp only at h1 h2
  subst h1
  rcases h2 with rfl | rfl<;>simp
theorem AM:∀{l:List af},c7 l→(ends l).Nodup
 | [],_=>List.nodup_nil
 | e::r,h=>by
  have bh:∀s:Int,(e.1,s)∉ends r:=fun s hs=>by
   obtain ⟨f,hf,h1,_⟩:=eY.1 hs
   have:=List.rel_of_pairwise_cons h hf
   simp only at h1
   rw [h1,b5] at this;cases this
  rw [jD]
  refine List.nodup_cons.2 ⟨?_,List.nodup_cons.2 ⟨bh 1,AM h.of_cons⟩⟩
  rw [List.mem_cons]
  rintro (h1 | h1)
  ·cases h1
  ·exact bh 0 h1
theorem CT(e:af):∀l:List af,(dp e l).Perm (e::l)
 | []=>List.Perm.refl _
 | w::r=>by
  unfold dp
  split
  ·exact List.Perm.refl _
  ·exact (List.Perm.cons w (CT e r)).trans (List.Perm.swap e w r)
theorem CU(e:ah):∀l:List ah,(dV e l).Perm (e::l)
 | []=>List.Perm.refl _
 | w::r=>by
  unfold dV
  split
  ·exact List.Perm.refl _
  ·exact (List.Perm.cons w (CU e r)).trans (List.Perm.swap e w r)
theorem CV(e:af)(l:List af):(ends (dp e l)).Perm ((e.1,0)::(e.1,1)::ends l):=by
 rw [←jD]
 exact List.Perm.flatMap_right _ (CT e l)
theorem AO(v:ah)(l:List ah):(aw (dV v l)).Perm (v.2.1++aw l):=by
 rw [←jB]
 exact List.Perm.flatMap_right _ (CU v l)
theorem AP{l:List af}{x:ID}(hs:c7 l)(h:(bf l x).isSome=true):(ends l).Perm ((x,0)::(x,1)::ends (cO l x)):=by
 obtain ⟨e,he⟩:=Option.isSome_iff_exists.1 h
 obtain ⟨h3,h4⟩:=List.getElem?_eq_some_iff.1 (lG hs he)
 rw [vN hs h]
 conv=>lhs;rw [←List.take_append_drop (bY l x) l,List.drop_eq_getElem_cons h3,h4]
 rw [←uC he,←jD]
 exact List.Perm.flatMap_right _ List.perm_middle
theorem nw{l:List ah}{v:ah}(hs:bW l)(h:v∈l):aR l v.1=some v:=by
 have hf:(aR l v.1).isSome=true:=by
  unfold aR;rw [List.find?_isSome];exact ⟨v,h,by simp⟩
 obtain ⟨u,hu⟩:=Option.isSome_iff_exists.1 hf
 have h1:=cZ hs hu
 obtain ⟨k,hk,he⟩:=List.getElem_of_mem h
 have h2:l[k]? = some v:=by rw [List.getElem?_eq_getElem hk,he]
 rw [jA hs h2 rfl,h1] at h2
 rw [hu];exact h2
theorem s5{l:List ah}{v:ah}(hs:bW l)(h:v∈l):∃a b,l=a++v::b∧(∀u∈a++b,u.1≠v.1)∧dG l v.1=a++b∧∀r,l.map (qW v.1 r)=a++(v.1,(r,v.2.2))::b:=by
 obtain ⟨a,b,rfl⟩:=List.append_of_mem h
 have hp:=List.pairwise_append.1 hs
 have hb:=List.pairwise_cons.1 hp.2.1
 have bh:∀u∈a++b,u.1≠v.1:=fun u hu e=>by
  rcases List.mem_append.1 hu with hu | hu
  ·have:=hp.2.2 u hu v (by simp);rw [e,b5] at this;cases this
  ·have:=hb.1 u hu;rw [e,b5] at this;cases this
 have hm:∀(r:List ab) (c:List ah),(∀u∈c,u.1≠v.1)→c.map (qW v.1 r)=c:=fun r c hc=>by
  conv=>rhs;rw [←List.map_id c]
  exact List.map_congr_left fun u hu=>by unfold qW;rw [if_neg (hc u hu)];rfl
 have hd:∀c:List ah,(∀u∈c,u.1≠v.1)→dG c v.1=c:=fun c hc=>by
  unfold dG;rw [List.filter_eq_self];intro u hu;simpa using hc u hu
 refine ⟨a,b,rfl,bh,?_,fun r => ?_⟩
 ·unfold dG
  rw [List.filter_append,List.filter_cons_of_neg (by simp)]
  have h1:=hd a (fun u hu=>bh u (List.mem_append_left _ hu))
  have h2:=hd b (fun u hu=>bh u (List.mem_append_right _ hu))
  unfold dG at h1 h2
  rw [h1,h2]
 ·rw [List.map_append,List.map_cons,hm r a (fun u hu=>bh u (List.mem_append_left _ hu)),hm r b (fun u hu=>bh u (List.mem_append_right _ hu))]
  unfold qW;rw [if_pos rfl]
structure Rw(l:List ah):Prop where
 s:bW l
 n:(aw l).Nodup
theorem Rw.ring{l:List ah}(h:Rw l){v:ah}(hv:v∈l):v.2.1.Nodup:=by
 obtain ⟨a,b,rfl,_⟩:=s5 h.s hv
 exact (List.nodup_append.1 ((jC a b v).nodup_iff.1 h.n)).1
theorem Rw.one{l:List ah}(h:Rw l){v w:ah}{x:ab}(hv:v∈l)(hw:w∈l)(hx:x∈v.2.1)(hy:x∈w.2.1):w=v:=by
 obtain ⟨a,b,rfl,_⟩:=s5 h.s hv
 have hn:=List.nodup_append.1 ((jC a b v).nodup_iff.1 h.n)
 have:w∈a++v::b:=hw
 rw [List.mem_append,List.mem_cons] at this
 rcases this with k | k | k
 ·exact absurd rfl (hn.2.2 x hx x (bD.2 ⟨w,List.mem_append_left _ k,hy⟩))
 ·exact k
 ·exact absurd rfl (hn.2.2 x hx x (bD.2 ⟨w,List.mem_append_right _ k,hy⟩))
theorem mG{l:List ah}(h:Rw l){v:ah}{x:ab}(hv:v∈l)(hx:x∈v.2.1):GD l x=some v.1:=by
 have hf:(l.find? fun u=>decide (x∈u.2.1)).isSome=true:=by rw [List.find?_isSome];exact ⟨v,hv,by simpa using hx⟩
 obtain ⟨u,hu⟩:=Option.isSome_iff_exists.1 hf
 have h1:=List.mem_of_find?_eq_some hu
 have h2:x∈u.2.1:=by simpa using List.find?_some hu
 unfold GD
 rw [hu,h.one hv h1 hx h2];rfl
theorem GR{l:List ah}{x:ab}(h:x∉aw l):GD l x=none:=by
 unfold GD
 have:(l.find? fun u=>decide (x∈u.2.1))=none:=by
  rw [List.find?_eq_none];intro u hu hx
  exact h (bD.2 ⟨u,hu,by simpa using hx⟩)
 rw [this];rfl
theorem jE{d:ai}(h:bW d.1){v:ah}(hv:v∈d.1):bJ d v.1=v.2.1:=by
 unfold bJ bj;rw [nw h hv];rfl
theorem jF{d:ai}(h:Rw d.1){v:ah}{x:ab}(hv:v∈d.1)(hx:x∈v.2.1):aB d x=b6 d v.1 (gG v.2.1 x):=by
 unfold aB cr
 rw [mG h hv hx]
 show b6 d v.1 (gG (bJ d v.1) x)=_
 rw [jE h.s hv]
theorem AQ{d:ai}(h:Rw d.1){v:ah}{x:ab}(y:ab)(hv:v∈d.1)(hx:x∈v.2.1):aD d x y=b6 d v.1 (jg v.2.1 x y):=by
 unfold aD cr
 rw [mG h hv hx]
 show b6 d v.1 (jg (bJ d v.1) x y)=_
 rw [jE h.s hv]
theorem bW.re{l:List ah}(h:bW l)(x:ID)(r:List ab):bW (l.map (qW x r)):=h.map (qn x r)
theorem AR{l:List ah}{v:ah}(hs:bW l)(hv:v∈l):∃rest,(aw l).Perm (v.2.1++rest)∧∀r,(aw (l.map (qW v.1 r))).Perm (r++rest):=by
 obtain ⟨a,b,h1,_,_,h2⟩:=s5 hs hv
 refine ⟨aw (a++b),?_,fun r => ?_⟩
 ·conv=>lhs;rw [h1]
  exact jC a b v
 ·rw [h2 r];exact jC a b (v.1,(r,v.2.2))
theorem eT{d:ai}(h:Rw d.1){x:ab}(hx:x∈aw d.1):(aw d.1).Perm (x::aw (aB d x).1)∧Rw (aB d x).1:=by
 obtain ⟨v,hv,km⟩:=bD.1 hx
 obtain ⟨rest,h1,h2⟩:=AR h.s hv
 rw [jF h hv km]
 have p:(aw d.1).Perm (x::aw (b6 d v.1 (gG v.2.1 x)).1) :=
  h1.trans ((List.Perm.append_right rest (q8 km (h.ring hv))).trans (List.Perm.cons x (h2 _).symm))
 exact ⟨p,h.s.re _ _,(List.nodup_cons.1 (p.nodup_iff.1 h.n)).2⟩
theorem oz{d:ai}(h:Rw d.1){x y:ab}(hx:x∈aw d.1)(hy:y∉aw d.1):(y::aw d.1).Perm (x::aw (aD d x y).1)∧Rw (aD d x y).1:=by
 obtain ⟨v,hv,km⟩:=bD.1 hx
 obtain ⟨rest,h1,h2⟩:=AR h.s hv
 rw [AQ h y hv km]
 have Y3:y∉v.2.1:=fun k=>hy (bD.2 ⟨v,hv,k⟩)
 have p:(y::aw d.1).Perm (x::aw (b6 d v.1 (jg v.2.1 x y)).1) :=
  (List.Perm.cons y h1).trans ((List.Perm.append_right rest (IX km Y3)).trans (List.Perm.cons x (h2 _).symm))
 refine ⟨p,h.s.re _ _,?_⟩
 exact (List.nodup_cons.1 (p.nodup_iff.1 (List.nodup_cons.2 ⟨hy,h.n⟩))).2
theorem r9{d:ai}(h:Rw d.1){c:oX}{x:ab}{v:ah}(hv:aR d.1 c.1=some v)(hx:x∉aw d.1):(aw (bR d c x).1).Perm (x::aw d.1)∧Rw (bR d c x).1:=by
 have Y4:=fW hv
 have Y5:=j9 hv
 obtain ⟨rest,h1,h2⟩:=AR h.s Y4
 have km:x∉v.2.1:=fun k=>hx (bD.2 ⟨v,Y4,k⟩)
 have e:bR d c x=b6 d v.1 (lC v.2.1 c.2 x):=by
  unfold bR
  rw [←Y5,jE h.s Y4]
 rw [e]
 have p:(aw (b6 d v.1 (lC v.2.1 c.2 x)).1).Perm (x::aw d.1) :=
  (h2 _).trans ((List.Perm.append_right rest (LU c.2 km)).trans (List.Perm.cons x h1.symm))
 exact ⟨p,h.s.re _ _,p.nodup_iff.2 (List.nodup_cons.2 ⟨hx,h.n⟩)⟩
structure GV(v:ah):Prop where
 i:cU v.1=true
 l:B2 v.2.2.1=true
 a:uz v.2.2.2=true
 t:cH v.2.1=v.2.1
structure GE(e:af):Prop where
 i:cU e.1=true
 l:B2 e.2.1=true
 a:uz e.2.2=true
structure Wf(d:ai):Prop where
 sv:bW d.1
 se:c7 d.2
 nv:d.1.length≤24
 ne:d.2.length≤40
 gv:∀v∈d.1,GV v
 ge:∀e∈d.2,GE e
 pd:(aw d.1).Perm (ends d.2)
theorem Wf.rw{d:ai}(h:Wf d):Rw d.1:=⟨h.sv,h.pd.nodup_iff.2 (AM h.se)⟩
theorem Wf.zero:Wf zS.1:=⟨List.Pairwise.nil,List.Pairwise.nil,by simp [zS],by simp [zS],by simp [zS],by simp [zS],List.Perm.refl _⟩
theorem GV.re{l:List ah}(h:∀v∈l,GV v)(x:ID){r:List ab}(hr:cH r=r):∀v∈l.map (qW x r),GV v:=fun v hv=>by
 obtain ⟨w,hw,rfl⟩:=List.mem_map.1 hv
 have g:=h w hw
 unfold qW
 split
 ·exact ⟨g.i,g.l,g.a,hr⟩
 ·exact g
theorem jG{d:ai}(h:∀v∈d.1,GV v)(x:ab):∀v∈(aB d x).1,GV v:=GV.re h _ (LS _ _)
theorem s6{d:ai}(h:∀v∈d.1,GV v)(x y:ab):∀v∈(aD d x y).1,GV v:=GV.re h _ (IW _ _ _)
theorem w5{d:ai}(h:∀v∈d.1,GV v)(c:oX)(y:ab):∀v∈(bR d c y).1,GV v:=GV.re h _ (LR _ _ _)
theorem fP(d:ai)(x:ID)(r:List ab):(b6 d x r).1.length=d.1.length:=by unfold b6;simp
theorem CW:cU zI=false:=by decide
theorem yc{l:List af}(h:∀e∈l,GE e):cO l zI=l:=by
 unfold cO;rw [List.filter_eq_self];intro e he
 have:=(h e he).i
 simp;intro k;rw [k,CW] at this;cases this
theorem uE{l:List ah}(h:∀e∈l,GV e):dG l zI=l:=by
 unfold dG;rw [List.filter_eq_self];intro e he
 have:=(h e he).i
 simp;intro k;rw [k,CW] at this;cases this
theorem q9:B2 e0=true:=by decide
theorem rf:uz 0=true:=by decide
theorem AS{l:List af}{x:ID}(h:bf l x=none)(s:Int):(x,s)∉ends l:=fun k=>by
 obtain ⟨e,he,h1,_⟩:=eY.1 k
 unfold bf at h
 rw [List.find?_eq_none] at h
 exact h e he (by simpa using h1)
theorem AT{l:List af}{x:ID}(h:(bf l x).isSome=true){s:Int}(hs:s=0∨s=1):(x,s)∈ends l:=by
 obtain ⟨e,he⟩:=Option.isSome_iff_exists.1 h
 exact eY.2 ⟨e,LO he,uC he,hs⟩
end Go.Vs
namespace Go.Vs
open Go.Proofs
theorem Pu{o:bw}(h:cp o=0):cU (aS o)=true:=by
 unfold cp at h
 split at h;· cases h
 split at h;· cases h
 split at h;· cases h
 rename_i h3;simpa using h3
theorem AU{o:bw}(h:cp o=0):1≤o.1∧o.1≤8:=by
 unfold cp at h
 split at h;· cases h
 split at h;· cases h
 omega
theorem CX{o:bw}(h:cp o=0)(hk:o.1=5):cU (eu o)=true∧cU (aV o)=true∧0≤oN o∧oN o≤3:=by
 unfold cp at h
 split at h;· cases h
 split at h;· cases h
 split at h;· cases h
 split at h;· cases h
 rw [if_neg (show ¬o.1=3 by omega)] at h
 split at h
 ·assumption
 ·cases h
theorem GS{o:bw}(h:cp o=0)(hk:o.1=8):uz (oN o)=true:=by
 unfold cp at h
 split at h;· cases h
 split at h;· cases h
 split at h;· cases h
 split at h;· cases h
 rw [if_neg (show ¬o.1=3 by omega),if_neg (show ¬o.1=5 by omega),if_neg (show ¬o.1=6 by omega)] at h
 split at h
 ·assumption
 ·cases h
theorem CY{o:bw}(h:cp o=0)(hk:o.1=7):B2 (np o)=true:=by
 unfold cp at h
 split at h;· cases h
 split at h;· cases h
 split at h;· cases h
 split at h;· cases h
 rw [if_neg (show ¬o.1=3 by omega),if_neg (show ¬o.1=5 by omega),if_neg (show ¬o.1=6 by omega),if_neg (show ¬o.1=8 by omega)] at h
 split at h
 ·assumption
 ·cases h
def iw(l:List ak):Prop:=l.Pairwise fun a b=>ku a.1 b.1=true
theorem oC{a b:ab}:mD a b≤0↔a=b∨ku a b=true:=by
 unfold mD
 by_cases h:a=b
 ·subst h;simp
 ·rw [if_neg h];cases ku a b<;>simp [h]
theorem AW{q g:ak}:∀{l:List ak},q∈kG g l→q=g∨(q∈l∧q.1≠g.1)
 | [],h=>by simp [kG] at h;exact .inl h
 | e::r,h=>by
  unfold kG at h
  split at h
  ·rcases List.mem_cons.1 h with h | h
   ·exact .inl h
   ·unfold mE at h
    rw [List.mem_filter] at h
    exact .inr ⟨h.1,by simpa using h.2⟩
  ·split at h
   ·rename_i bh
    rcases List.mem_cons.1 h with rfl | h
    ·exact .inr ⟨List.mem_cons_self ..,bh⟩
    ·rcases AW h with h | ⟨h,h2⟩
     ·exact .inl h
     ·exact .inr ⟨List.mem_cons_of_mem _ h,h2⟩
   ·rcases AW h with h | ⟨h,h2⟩
    ·exact .inl h
    ·exact .inr ⟨List.mem_cons_of_mem _ h,h2⟩
theorem iw.add(g:ak):∀{l:List ak},iw l→iw (kG g l)
 | [],_=>List.pairwise_singleton _ _
 | e::r,h=>by
  have hr:∀{q:ak},q∈r→ku e.1 q.1=true:=fun {q} hq=>List.rel_of_pairwise_cons h hq
  unfold kG
  split
  ·rename_i ho
   refine List.Pairwise.cons (fun q hq => ?_) (h.filter _)
   unfold mE at hq
   rw [List.mem_filter] at hq
   have bh:q.1≠g.1:=by simpa using hq.2
   have hle:e.1=q.1∨ku e.1 q.1=true:=by
    rcases List.mem_cons.1 hq.1 with rfl | hq
    ·exact .inl rfl
    ·exact .inr (hr hq)
   rcases oC.1 ho with ho | ho
   ·rcases hle with k | k
    ·exact absurd (ho.trans k).symm bh
    ·rw [ho];exact k
   ·rcases hle with k | k
    ·rw [←k];exact ho
    ·exact fX ho k
  ·rename_i ho
   have HK:ku e.1 g.1=true:=by
    have h1:¬(g.1=e.1∨ku g.1 e.1=true):=fun k=>ho (oC.2 k)
    exact vP (by simpa using fun k=>h1 (.inr k)) (fun k=>h1 (.inl k))
   have hs:=iw.add g (List.Pairwise.of_cons h)
   split
   ·refine List.Pairwise.cons (fun q hq => ?_) hs
    rcases AW hq with rfl | ⟨hq,_⟩
    ·exact HK
    ·exact hr hq
   ·exact hs
theorem oD(e:ak)(r:List ak)(x:ab):fN (e::r) x=if e.1=x then some e.2 else fN r x:=by
 unfold fN
 rw [List.find?_cons]
 by_cases h:e.1=x
 ·simp [h]
 ·simp [h]
theorem rh{g:ak}:∀{l:List ak},(∀q∈l,q.1≠g.1)→mE g l=l:=fun {l} h=>by
 unfold mE;rw [List.filter_eq_self];intro q hq;simpa using h q hq
theorem GU(g:ak):∀{l:List ak},iw l→(kG g l).length=if (fN l g.1).isSome=true then l.length else l.length+1
 | [],_=>rfl
 | e::r,h=>by
  have hr:∀{q:ak},q∈r→ku e.1 q.1=true:=fun {q} hq=>List.rel_of_pairwise_cons h hq
  have ih:=GU g (List.Pairwise.of_cons h)
  unfold kG
  split
  ·rename_i ho
   rcases oC.1 ho with ho | ho
   ·have h1:mE g (e::r)=r:=by
     have:mE g (e::r)=mE g r:=by unfold mE;rw [List.filter_cons_of_neg (by simp [ho])]
     rw [this]
     exact rh (fun q hq k=>by have:=hr hq;rw [k,ho,dy] at this;cases this)
    rw [h1,oD,if_pos ho.symm];simp
   ·have h2:∀q∈e::r,q.1≠g.1:=fun q hq k=>by
     have:ku g.1 q.1=true:=by
      rcases List.mem_cons.1 hq with rfl | hq
      ·exact ho
      ·exact fX ho (hr hq)
     rw [k,dy] at this;cases this
    have h3:fN (e::r) g.1=none:=by
     unfold fN
     have:(List.find? (fun q=>decide (q.1=g.1)) (e::r))=none:=by
      rw [List.find?_eq_none];intro q hq;simpa using h2 q hq
     rw [this];rfl
    rw [rh h2,h3];simp
  ·rename_i ho
   have bh:e.1≠g.1:=fun k=>ho (oC.2 (.inl k.symm))
   rw [if_pos bh,oD,if_neg bh]
   simp only [List.length_cons,ih]
   split<;>rfl
theorem jH{l:List ak}(h:iw l)(hn:l.length≤400)(g:ak):iw (bK l g)∧(bK l g).length≤400:=by
 unfold bK
 split
 ·exact ⟨h,hn⟩
 ·rename_i hc
  refine ⟨iw.add g h,?_⟩
  rw [GU g h]
  split
  ·exact hn
  ·rename_i h1
   by_cases h2:400≤l.length
   ·exact absurd ⟨by simpa using h1,h2⟩ hc
   ·omega
theorem CZ{α:Type}{o:Option α}(h:¬o.isSome=false):o.isSome=true:=by cases o<;>simp_all
structure gI(s:StateT):Prop where
 d:Wf s.1
 g:iw s.2
 n:s.2.length≤400
theorem gI.zero:gI zS:=⟨Wf.zero,List.Pairwise.nil,by simp [zS]⟩
theorem gI.add{l:List ak}(h:iw l)(hn:l.length≤400){d:ai}(hd:Wf d)(g:ak):gI (d,bK l g):=⟨hd,(jH h hn g).1,(jH h hn g).2⟩
theorem LV{f:ah→ah}(hf:∀v,(f v).2.1=v.2.1)(l:List ah):aw (l.map f)=aw l:=by
 unfold aw;rw [List.flatMap_map];congr 1;funext v;exact hf v
theorem Pv{f:af→af}(hf:∀v,(f v).1=v.1)(l:List af):ends (l.map f)=ends l:=by
 unfold ends;rw [List.flatMap_map];congr 1;funext v;rw [hf]
theorem Ki(o:bw)(w:af):(jz o w).1=w.1:=by unfold jz;split<;>(try split)<;>rfl
theorem LW(o:bw)(w:ah):(iB o w).2.1=w.2.1:=by unfold iB;split<;>(try split)<;>rfl
theorem Wf.yd{d:ai}(h:Wf d){x:ID}(hx:bf d.2 x=none)(s:Int):(x,s)∉aw d.1:=fun k=>AS hx s (h.pd.mem_iff.1 k)
theorem Wf.mH{d:ai}(h:Wf d){x:ID}(hx:(bf d.2 x).isSome=true){s:Int}(hs:s=0∨s=1):(x,s)∈aw d.1:=h.pd.mem_iff.2 (AT hx hs)
theorem Wf.vI{s:StateT}(h:Wf s.1){o:bw}(hm:cp o=0)(hk:7≤o.1):Wf (vI s o).1.1:=by
 have hk8:=(AU hm).2
 unfold Vs.vI
 split
 ·refine ⟨h.sv.map (Kg o),h.se.map (Ki o),by simp;exact h.nv,by simp;exact h.ne,fun v hv => ?_,fun e he => ?_,?_⟩
  ·obtain ⟨w,hw,rfl⟩:=List.mem_map.1 hv
   have g:=h.gv w hw
   unfold iB
   split
   ·split
    ·rename_i h7
     exact ⟨g.i,CY hm h7,g.a,g.t⟩
    ·exact ⟨g.i,g.l,GS hm (by omega),g.t⟩
   ·exact g
  ·obtain ⟨w,hw,rfl⟩:=List.mem_map.1 he
   have g:=h.ge w hw
   unfold jz
   split
   ·split
    ·rename_i h7
     exact ⟨g.i,CY hm h7,g.a⟩
    ·exact ⟨g.i,g.l,GS hm (by omega)⟩
   ·exact g
  ·show (aw (s.1.1.map (iB o))).Perm (ends (s.1.2.map (jz o)))
   rw [LV (LW o),Pv (Ki o)];exact h.pd
 ·exact Wf.zero
theorem oE{s:StateT}{c:oX}(h:(aU s c).2.1=0):(bj s.1 c.1).isSome=true∧(aU s c).1.1=c.1:=by
 unfold aU at h ⊢
 cases hv:bj s.1 c.1 with
 | none=>rw [hv] at h;cases h
 | some v=>exact ⟨rfl,rfl⟩
theorem GW{l:List ah}{x y:ID}(r:List ab)(h:(aR l x).isSome=true):(aR (l.map (qW y r)) x).isSome=true:=by
 rw [nr (qn y r)];simpa using h
theorem Wf.link{d:ai}(h:Wf d){x:ID}(hx:cU x=true)(hn:bf d.2 x=none)(he:¬40≤d.2.length){a b:oX}(ha:(aR d.1 a.1).isSome=true)(hb:(aR d.1 b.1).isSome=true) :
  Wf (bR (bR (d.1,dp (x,(e0,0)) d.2) a (x,0)) b (x,1)):=by
 have hrw:Rw ((d.1,dp (x,(e0,0)) d.2):ai).1:=h.rw
 obtain ⟨va,hva⟩:=Option.isSome_iff_exists.1 ha
 have h0:=h.yd hn 0
 have h1:=h.yd hn 1
 obtain ⟨p1,q1⟩:=r9 (c:=a) (x:=(x,0)) hrw hva h0
 obtain ⟨vb,hvb⟩:=Option.isSome_iff_exists.1 (GW (x:=b.1) (y:=a.1) (lC (bJ (d.1,dp (x,(e0,0)) d.2) a.1) a.2 (x,0)) hb)
 have MO:(x,1)∉aw (bR (d.1,dp (x,(e0,0)) d.2) a (x,0)).1:=fun k=>by
  rcases List.mem_cons.1 (p1.mem_iff.1 k) with k | k
  ·cases k
  ·exact h1 k
 obtain ⟨p2,q2⟩:=r9 (c:=b) (x:=(x,1)) q1 hvb MO
 refine ⟨q2.s,vO (x,(e0,0)) h.se hn,?_,?_,w5 (w5 h.gv _ _) _ _,fun e hem => ?_,?_⟩
 ·unfold bR;rw [fP,fP];exact h.nv
 ·show (dp (x,(e0,0)) d.2).length≤40
  rw [mh];omega
 ·rcases uB.1 (show e∈dp (x,(e0,0)) d.2 from hem) with rfl | hem
  ·exact ⟨hx,q9,rf⟩
  ·exact h.ge e hem
 ·show (aw _).Perm (ends (dp (x,(e0,0)) d.2))
  refine (p2.trans (List.Perm.cons _ p1)).trans (List.Perm.trans ?_ (CV (x,(e0,0)) d.2).symm)
  exact (List.Perm.swap _ _ _).trans (List.Perm.cons _ (List.Perm.cons _ h.pd))
theorem Wf.cut{d:ai}(h:Wf d){x:ID}(hx:(bf d.2 x).isSome=true):Wf (bu (aB (aB d (x,0)) (x,1)) zI x):=by
 have h0:=h.mH hx (s:=0) (.inl rfl)
 have h1:=h.mH hx (s:=1) (.inr rfl)
 obtain ⟨p1,q1⟩:=eT h.rw h0
 have MO:(x,1)∈aw (aB d (x,0)).1:=by
  rcases List.mem_cons.1 (p1.mem_iff.1 h1) with k | k
  ·cases k
  ·exact k
 obtain ⟨p2,q2⟩:=eT q1 MO
 have Mz:=jG (jG h.gv (x,0)) (x,1)
 have RM:(bu (aB (aB d (x,0)) (x,1)) zI x).1=(aB (aB d (x,0)) (x,1)).1:=uE Mz
 refine ⟨by rw [RM];exact q2.s,sX h.se,?_,?_,by rw [RM];exact Mz,fun e he=>h.ge e ?_,?_⟩
 ·rw [RM];unfold aB;rw [fP,fP];exact h.nv
 ·exact Nat.le_trans (List.length_filter_le _ _) h.ne
 ·exact (List.mem_filter.1 (show e∈d.2.filter fun w=>decide (w.1≠x) from he)).1
 ·rw [RM]
  show (aw (aB (aB d (x,0)) (x,1)).1).Perm (ends (cO d.2 x))
  have p3:((x,0)::(x,1)::aw (aB (aB d (x,0)) (x,1)).1).Perm ((x,0)::(x,1)::ends (cO d.2 x)) :=
   ((p1.trans (List.Perm.cons _ p2)).symm.trans h.pd).trans (AP h.se hx)
  exact p3.cons_inv.cons_inv
theorem ri{x:ab}(h:x.2=0∨x.2=1):(aq x).1=x.1∧((x.2=0∧(aq x).2=1)∨(x.2=1∧(aq x).2=0)):=by
 refine ⟨rfl,?_⟩
 unfold aq
 rcases h with h | h
 ·exact .inl ⟨h,by rw [h];rfl⟩
 ·exact .inr ⟨h,by rw [h];rfl⟩
theorem GX{x:ab}(h:x.2=0∨x.2=1)(l:List ab):(x::aq x::l).Perm ((x.1,0)::(x.1,1)::l):=by
 obtain ⟨h1,h2⟩:=ri h
 have e:x=(x.1,x.2):=rfl
 have e2:aq x=(x.1,(aq x).2):=rfl
 rcases h2 with ⟨ha,hb⟩ | ⟨ha,hb⟩
 ·rw [ha] at e;rw [hb] at e2;rw [e2,e]
 ·rw [ha] at e;rw [hb] at e2;rw [e2,e];exact List.Perm.swap _ _ _
theorem GY{n:Int}(h0:0≤n)(h3:n≤3):(IntKind.wrap .i64 (1 - Int.tmod n 2)=0∨IntKind.wrap .i64 (1 - Int.tmod n 2)=1)∧(IntKind.wrap .i64 (Int.tdiv n 2)=0∨IntKind.wrap .i64 (Int.tdiv n 2)=1):=by
 have:n=0∨n=1∨n=2∨n=3:=by omega
 rcases this with rfl | rfl | rfl | rfl<;>exact ⟨by decide,by decide⟩
theorem Wf.split{d:ai}(h:Wf d){m k:ab}{v:ID}(hv:cU v=true)(hk:cU k.1=true)(T0:m.2=0∨m.2=1)(nH:k.2=0∨k.2=1)(hm:(bf d.2 m.1).isSome=true)(QN:aR d.1 v=none)(hnk:bf d.2 k.1=none)
  (Tk:¬24≤d.1.length) (hle:¬40≤d.2.length):Wf (dV (v,(cH [m,k],(e0,0))) (aD d m (aq k)).1,dp (k.1,(e0,0)) (aD d m (aq k)).2):=by
 have hmd:m∈aw d.1:=h.mH hm T0
 have HJ:aq k∉aw d.1:=h.yd hnk _
 obtain ⟨p1,q1⟩:=oz h.rw hmd HJ
 have RN:aR (aD d m (aq k)).1 v=none:=by
  unfold aD Vs.b6
  rw [nr (qn _ _),QN];rfl
 refine ⟨nq (v,(cH [m,k],(e0,0))) q1.s RN,vO (k.1,(e0,0)) h.se hnk,?_,?_,fun w hw => ?_,fun e he => ?_,?_⟩
 ·show (dV _ (aD d m (aq k)).1).length≤24
  rw [iu];unfold aD;rw [fP];omega
 ·show (dp _ d.2).length≤40
  rw [mh];omega
 ·rcases qk.1 hw with rfl | hw
  ·exact ⟨hv,q9,rf,q7 _⟩
  ·exact s6 h.gv _ _ w hw
 ·rcases uB.1 (show e∈dp (k.1,(e0,0)) d.2 from he) with rfl | he
  ·exact ⟨hk,q9,rf⟩
  ·exact h.ge e he
 ·show (aw (dV _ _)).Perm (ends (dp (k.1,(e0,0)) d.2))
  refine (AO _ _).trans (List.Perm.trans ?_ (CV (k.1,(e0,0)) d.2).symm)
  refine (List.Perm.append_right _ (nt [m,k])).trans ?_
  show (m::k::aw (aD d m (aq k)).1).Perm _
  refine (List.Perm.swap k m _).trans ((List.Perm.cons k p1.symm).trans ?_)
  refine (GX nH _).trans ?_
  exact List.Perm.cons _ (List.Perm.cons _ h.pd)
theorem Wf.UT{d:ai}(h:Wf d){v:ah}(hv:v∈d.1)(hr:v.2.1=[]):Wf (bu d v.1 zI):=by
 obtain ⟨a,b,h1,_,h2,_⟩:=s5 h.sv hv
 refine ⟨ox h.sv,?_,Nat.le_trans (List.length_filter_le _ _) h.nv,Nat.le_trans (List.length_filter_le _ _) h.ne,fun w hw=>h.gv w ?_,fun e he=>h.ge e ?_,?_⟩
 ·exact sX h.se
 ·exact (List.mem_filter.1 (show w∈d.1.filter fun w=>decide (w.1≠v.1) from hw)).1
 ·exact (List.mem_filter.1 (show e∈d.2.filter fun w=>decide (w.1≠zI) from he)).1
 ·show (aw (dG d.1 v.1)).Perm (ends (cO d.2 zI))
  rw [h2,yc h.ge]
  have p:=jC a b v
  rw [←h1,hr,List.nil_append] at p
  exact p.symm.trans h.pd
theorem Wf.UU{d:ai}(h:Wf d){v:ah}{a b:ab}(hv:v∈d.1)(hr:v.2.1.Perm [a,b])(Br:a.1≠b.1):Wf (bu (aD (bu d v.1 zI) (aq b) a) zI b.1):=by
 obtain ⟨p,q,h1,_,h2,_⟩:=s5 h.sv hv
 have pd:(aw d.1).Perm (a::b::aw (p++q)):=by
  have:=(jC p q v).trans (List.Perm.append_right _ hr)
  rw [←h1] at this;exact this
 have LY:bu d v.1 zI=(p++q,d.2):=by unfold bu;rw [h2,yc h.ge]
 have EJ:=pd.nodup_iff.1 h.rw.n
 have hbm:b∈ends d.2:=h.pd.mem_iff.1 (pd.mem_iff.2 (by simp))
 obtain ⟨e,he,WL,yS⟩:=eY.1 hbm
 have BJ:(bf d.2 b.1).isSome=true:=by
  unfold bf;rw [List.find?_isSome];exact ⟨e,he,by simpa using WL⟩
 obtain ⟨_,ho⟩:=ri yS
 have UW:aq b∈aw (p++q):=by
  have h3:aq b∈aw d.1:=h.mH (s:=(aq b).2) BJ (by rcases ho with ⟨_,k⟩ | ⟨_,k⟩<;>omega)
  rcases List.mem_cons.1 (pd.mem_iff.1 h3) with k | k
  ·exact absurd (congrArg Prod.fst k) (fun k=>Br k.symm)
  rcases List.mem_cons.1 k with k | k
  ·have:=congrArg Prod.snd k;omega
  ·exact k
 have RO:Rw (p++q):=by
  refine ⟨?_,(List.nodup_cons.1 (List.nodup_cons.1 EJ).2).2⟩
  rw [←h2];exact ox h.sv
 have ha:a∉aw (p++q):=fun k=>(List.nodup_cons.1 EJ).1 (List.mem_cons_of_mem _ k)
 rw [LY]
 obtain ⟨p1,q1⟩:=oz (d:=(p++q,d.2)) RO UW ha
 have Mz:∀w∈(aD (p++q,d.2) (aq b) a).1,GV w:=by
  refine s6 (d:=(p++q,d.2)) (fun w hw=>h.gv w ?_) _ _
  rw [h1]
  rcases List.mem_append.1 hw with k | k
  ·exact List.mem_append_left _ k
  ·exact List.mem_append_right _ (List.mem_cons_of_mem _ k)
 have RM:(bu (aD (p++q,d.2) (aq b) a) zI b.1).1=(aD (p++q,d.2) (aq b) a).1:=uE Mz
 refine ⟨by rw [RM];exact q1.s,sX h.se,?_,Nat.le_trans (List.length_filter_le _ _) h.ne,by rw [RM];exact Mz,fun f hf=>h.ge f ?_,?_⟩
 ·rw [RM];unfold aD;rw [fP]
  have:=h.nv
  rw [h1] at this
  simp at this ⊢;omega
 ·exact (List.mem_filter.1 (show f∈d.2.filter fun w=>decide (w.1≠b.1) from hf)).1
 ·rw [RM]
  show (aw (aD (p++q,d.2) (aq b) a).1).Perm (ends (cO d.2 b.1))
  have p3:(b::aq b::aw (aD (p++q,d.2) (aq b) a).1).Perm (b::aq b::ends (cO d.2 b.1)):=by
   refine List.Perm.trans (List.Perm.cons b p1.symm) ?_
   refine (List.Perm.swap a b _).trans (pd.symm.trans (h.pd.trans ?_))
   exact (AP h.se BJ).trans (GX yS _).symm
  exact p3.cons_inv.cons_inv
theorem gI.one{s:StateT}(h:gI s)(o:bw):gI (kl s o).1:=by
 unfold kl
 split
 ·exact gI.zero
 rename_i hm
 have hm:cp o=0:=Classical.byContradiction fun k=>hm k
 have bO:=Pu hm
 split
 ·unfold rY
  split;· exact gI.zero
  split;· exact gI.zero
  rename_i h1 h2
  have hn:aR s.1.1 (aS o)=none:=by simpa [bj] using h1
  refine ⟨⟨nq _ h.d.sv hn,h.d.se,by show (dV _ s.1.1).length≤24;rw [iu];omega,h.d.ne,fun w hw => ?_,h.d.ge,?_⟩,h.g,h.n⟩
  ·rcases qk.1 hw with rfl | hw
   ·exact ⟨bO,q9,rf,rfl⟩
   ·exact h.d.gv w hw
  ·exact (AO _ _).trans h.d.pd
 split
 ·unfold wY
  cases hv:bj s.1 (aS o) with
  | none=>exact gI.zero
  | some v =>
   simp only
   split
   ·exact gI.zero
   ·rename_i hr
    have:=h.d.UT (fW hv) (by simpa using hr)
    rw [j9 hv] at this
    exact ⟨this,h.g,h.n⟩
 split
 ·unfold ql
  split;· exact gI.zero
  split;· exact gI.zero
  split;· exact gI.zero
  split;· exact gI.zero
  split;· exact gI.zero
  rename_i h1 h2 h3 h4 h5
  have hn:bf s.1.2 (aS o)=none:=by simpa [gH] using h1
  obtain ⟨ca,ca2⟩:=oE (s:=s) (c:=oA o) (Classical.byContradiction fun k=>h3 k)
  obtain ⟨cb,cb2⟩:=oE (s:=s) (c:=oB o) (Classical.byContradiction fun k=>h4 k)
  refine ⟨?_,h.g,h.n⟩
  unfold kx
  refine h.d.link bO hn h2 (by rw [ca2];exact ca) ?_
  split
  ·exact cb
  ·rw [cb2];exact cb
 split
 ·unfold Ep
  split;· exact gI.zero
  rename_i h1
  have h2:=jH h.g h.n ((aS o,0),c4 s.1 (aS o,0))
  exact gI.add h2.1 h2.2 (h.d.cut (CZ h1)) _
 split
 ·rename_i hk
  unfold lE
  split;· exact gI.zero
  split;· exact gI.zero
  split;· exact gI.zero
  split;· exact gI.zero
  split;· exact gI.zero
  rename_i h1 h2 h3 h4 h5
  obtain ⟨m1,m2,m3,m4⟩:=CX hm hk
  obtain ⟨s1,s2⟩:=GY m3 m4
  refine ⟨?_,h.g,h.n⟩
  exact h.d.split (m:=HL o) (k:=EL o) m1 m2 s1 s2 (CZ h1) (by simpa [bj] using h2) (by simpa [gH,EL] using h3) h4 h5
 split
 ·unfold kH
  split
  ·exact gI.zero
  ·rename_i v hv
   split
   ·rename_i r0 r1 hr
    have Y4:=fW hv
    have Y5:=j9 hv
    have key:∀a b:ab,v.2.1.Perm [a,b]→a.1≠b.1→gI (IS s o a b,GL s.2 a b):=fun a b hp Br=>by
     have h2:=jH h.g h.n ((b.1,0),o6 a b 0)
     have:=h.d.UU Y4 hp Br
     rw [Y5] at this
     exact gI.add h2.1 h2.2 this _
    unfold jN
    split;· exact gI.zero
    rename_i bh
    split
    ·exact key r1 r0 (by rw [hr];exact List.Perm.swap _ _ _) (fun k=>bh k.symm)
    split
    ·exact key r0 r1 (by rw [hr]) bh
    ·exact gI.zero
   ·exact gI.zero
 ·rename_i k1 k2 k3 k4 k5 k6
  have hk:=AU hm
  have:=h.d.vI hm (by omega)
  refine ⟨this,?_,?_⟩
  ·unfold vI;split
   ·exact h.g
   ·exact List.Pairwise.nil
  ·unfold vI;split
   ·exact h.n
   ·simp [zS]
theorem gI.go:∀(l:List bw) {s:StateT},gI s→gI (HM l s).1
 | [],s,h=>h
 | o::r,s,h=>by
  unfold HM
  split
  ·exact gI.zero
  ·exact gI.go r (h.one o)
theorem gI.apply{s:StateT}(h:gI s)(l:List bw):gI (bX s l).1:=by
 unfold bX
 split
 ·exact gI.zero
 ·exact gI.go l h
theorem gI.try{s:StateT}(h:gI s)(l:List bw):gI (lF s l):=by
 unfold lF
 split
 ·exact h
 ·exact h.apply l
theorem gI.reach:∀(m:Nat) (l:List (List bw)) {s:StateT},gI s→gI (iW m l s)
 | 0,_,s,h=>by simpa [iW] using h
 | m+1,[],s,h=>h
 | m+1,l::r,s,h=>by rw [iW];exact gI.reach m r (h.try _)
theorem gI.Er(l:List (List bw)):gI (qm l):=gI.reach 30 l gI.zero
end Go.Vs
