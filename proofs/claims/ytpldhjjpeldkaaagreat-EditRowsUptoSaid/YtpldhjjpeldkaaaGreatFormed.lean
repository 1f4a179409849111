/- Diagrams that are well formed stay so. -/
import Derived.Test.YtpldhjjpeldkaaaGreatRings
set_option linter.unusedVariables false
set_option linter.unusedSimpArgs false
namespace Go.Vs
open Go.Proofs
theorem nq(row:List ab):(cG row).Perm row:=by
 unfold cG Bo
 exact List.perm_append_comm.trans (List.Perm.of_eq (List.take_append_drop _ _))
theorem LD{row:List ab}(h:0<row.length)(hl:∀j,(hj:j<row.length)→kq row[j] row[0]=false):eU row row 0 0=0:=by
 have hm:=ot row row 0 0 h (by omega)
 have h2:=(sV h).2 0
 by_cases hz:eU row row 0 0=0
 ·exact hz
 ·have:=h2 (by omega) h
  rw [ow hm,hl _ hm] at this;cases this
theorem Pe(row:List ab):Bo row 0=row:=by unfold Bo;simp
theorem qW(row:List ab):cG (cG row)=cG row:=by
 by_cases h0:row.length=0
 ·have:row=[]:=by simpa using h0
  subst this;rfl
 have hp:0<row.length:=by omega
 have hm:=ot row row 0 0 hp (by omega)
 have hp2:0<(cG row).length:=by rw [fL];exact hp
 have h1:(cG row)[0]=row.getD (eU row row 0 0) zD:=by
  have:=JY (row:=row) (k:=eU row row 0 0) (i:=0) (by omega) hp
  rw [Nat.add_zero,Nat.mod_eq_of_lt hm,List.getElem?_eq_getElem hm] at this
  rw [ow hm]
  exact (List.getElem?_eq_some_iff.1 this).2
 have h2:eU (cG row) (cG row) 0 0=0:=by
  refine LD hp2 (fun j hj => ?_)
  rw [h1]
  have iM:(cG row)[j]∈row:=Gl.1 (List.getElem_mem hj)
  obtain ⟨i,hi,he⟩:=List.getElem_of_mem iM
  rw [←he]
  exact (sV hp).1 i hi
 unfold cG at h2 ⊢
 rw [h2,Pe]
theorem LF(row:List ab)(a d:ab):cG (lz row a d)=lz row a d:=by unfold lz;split<;>exact qW _
theorem LG(row:List ab)(d:ab):cG (gH row d)=gH row d:=qW _
theorem IG(row:List ab)(a d:ab):cG (je row a d)=je row a d:=qW _
theorem LH{row:List ab}{d:ab}(a:ab)(h:d∉row):(lz row a d).Perm (d::row):=by
 unfold lz
 rw [if_neg h]
 refine (nq _).trans (List.perm_middle.trans ?_)
 rw [List.take_append_drop]
theorem qX{row:List ab}{d:ab}(h:d∈row)(hn:row.Nodup):row.Perm (d::gH row d):=by
 obtain ⟨k,_,h2,_⟩:=eT h
 obtain ⟨h3,h4⟩:=List.getElem?_eq_some_iff.1 h2
 unfold gH
 rw [vO hn h2]
 refine List.Perm.trans ?_ (List.Perm.cons d (nq _).symm)
 conv=>lhs;rw [←List.take_append_drop k row,List.drop_eq_getElem_cons h3,h4]
 exact List.perm_middle
theorem IH{row:List ab}{cE d:ab}(h:cE∈row)(hd:d∉row):(d::row).Perm (cE::je row cE d):=by
 obtain ⟨k,h1,h2,_⟩:=eT h
 obtain ⟨h3,h4⟩:=List.getElem?_eq_some_iff.1 h2
 unfold je
 rw [if_pos ⟨h,hd⟩,h1,Int.toNat_natCast]
 refine List.Perm.trans ?_ (List.Perm.cons cE (nq _).symm)
 rw [List.set_eq_take_append_cons_drop,if_pos h3]
 conv=>lhs;rw [←List.take_append_drop k row,List.drop_eq_getElem_cons h3,h4]
 have p1:(row.take k++cE::row.drop (k+1)).Perm (cE::(row.take k++row.drop (k+1))):=List.perm_middle
 have p2:(row.take k++d::row.drop (k+1)).Perm (d::(row.take k++row.drop (k+1))):=List.perm_middle
 exact (List.Perm.cons d p1).trans ((List.Perm.swap cE d _).trans (List.Perm.cons cE p2.symm))
def aw(l:List ah):List ab:=l.flatMap fun v=>v.2.1
def ends(l:List af):List ab:=l.flatMap fun e=>[(e.1,0),(e.1,1)]
theorem jz(v:ah)(l:List ah):aw (v::l)=v.2.1++aw l:=List.flatMap_cons
theorem nr(a b:List ah):aw (a++b)=aw a++aw b:=List.flatMap_append
theorem jA(a b:List ah)(v:ah):(aw (a++v::b)).Perm (v.2.1++aw (a++b)):=by
 rw [nr,jz,nr,←List.append_assoc,←List.append_assoc]
 exact List.Perm.append_right _ List.perm_append_comm
theorem bD{x:ab}{l:List ah}:x∈aw l↔∃v∈l,x∈v.2.1:=List.mem_flatMap
theorem jB(e:af)(l:List af):ends (e::l)=(e.1,0)::(e.1,1)::ends l:=by unfold ends;rw [List.flatMap_cons];rfl
theorem eV{x:ab}{l:List af}:x∈ends l↔∃e∈l,e.1=x.1∧(x.2=0∨x.2=1):=by
 unfold ends
 rw [List.mem_flatMap]
 constructor
 ·rintro ⟨e,he,hx⟩
  rcases List.mem_cons.1 hx with rfl | hx
  ·exact ⟨e,he,rfl,.inl rfl⟩
  ·rw [List.mem_singleton] at hx;subst hx;exact ⟨e,he,rfl,.inr rfl⟩
 ·rintro ⟨e,he,h1,h2⟩
  refine ⟨e,he,?_⟩
  obtain ⟨x1,x2⟩:=x
  simp only at h1 h2
  subst h1
  rcases h2 with rfl | rfl<;>simp
theorem AG:∀{l:List af},c6 l→(ends l).Nodup
 | [],_=>List.nodup_nil
 | e::r,h=>by
  have bj:∀s:Int,(e.1,s)∉ends r:=fun s hs=>by
   obtain ⟨f,hf,h1,_⟩:=eV.1 hs
   have:=List.rel_of_pairwise_cons h hf
   simp only at h1
   rw [h1,b4] at this;cases this
  rw [jB]
  refine List.nodup_cons.2 ⟨?_,List.nodup_cons.2 ⟨bj 1,AG h.of_cons⟩⟩
  rw [List.mem_cons]
  rintro (h1 | h1)
  ·cases h1
  ·exact bj 0 h1
theorem CL(e:af):∀l:List af,(dm e l).Perm (e::l)
 | []=>List.Perm.refl _
 | w::r=>by
  unfold dm
  split
  ·exact List.Perm.refl _
  ·exact (List.Perm.cons w (CL e r)).trans (List.Perm.swap e w r)
theorem CM(e:ah):∀l:List ah,(dR e l).Perm (e::l)
 | []=>List.Perm.refl _
 | w::r=>by
  unfold dR
  split
  ·exact List.Perm.refl _
  ·exact (List.Perm.cons w (CM e r)).trans (List.Perm.swap e w r)
theorem CN(e:af)(l:List af):(ends (dm e l)).Perm ((e.1,0)::(e.1,1)::ends l):=by
 rw [←jB]
 exact List.Perm.flatMap_right _ (CL e l)
theorem AH(v:ah)(l:List ah):(aw (dR v l)).Perm (v.2.1++aw l):=by
 rw [←jz]
 exact List.Perm.flatMap_right _ (CM v l)
theorem AI{l:List af}{x:ID}(hs:c6 l)(h:(bf l x).isSome=true):(ends l).Perm ((x,0)::(x,1)::ends (cM l x)):=by
 obtain ⟨e,he⟩:=Option.isSome_iff_exists.1 h
 obtain ⟨h3,h4⟩:=List.getElem?_eq_some_iff.1 (lD hs he)
 rw [vK hs h]
 conv=>lhs;rw [←List.take_append_drop (bX l x) l,List.drop_eq_getElem_cons h3,h4]
 rw [←uy he,←jB]
 exact List.Perm.flatMap_right _ List.perm_middle
theorem ns{l:List ah}{v:ah}(hs:bW l)(h:v∈l):aR l v.1=some v:=by
 have hf:(aR l v.1).isSome=true:=by
  unfold aR;rw [List.find?_isSome];exact ⟨v,h,by simp⟩
 obtain ⟨u,hu⟩:=Option.isSome_iff_exists.1 hf
 have h1:=cX hs hu
 obtain ⟨k,hk,he⟩:=List.getElem_of_mem h
 have h2:l[k]? = some v:=by rw [List.getElem?_eq_getElem hk,he]
 rw [jy hs h2 rfl,h1] at h2
 rw [hu];exact h2
theorem sW{l:List ah}{v:ah}(hs:bW l)(h:v∈l):∃a b,l=a++v::b∧(∀u∈a++b,u.1≠v.1)∧dC l v.1=a++b∧∀r,l.map (qR v.1 r)=a++(v.1,(r,v.2.2))::b:=by
 obtain ⟨a,b,rfl⟩:=List.append_of_mem h
 have hp:=List.pairwise_append.1 hs
 have hb:=List.pairwise_cons.1 hp.2.1
 have bj:∀u∈a++b,u.1≠v.1:=fun u hu e=>by
  rcases List.mem_append.1 hu with hu | hu
  ·have:=hp.2.2 u hu v (by simp);rw [e,b4] at this;cases this
  ·have:=hb.1 u hu;rw [e,b4] at this;cases this
 have hm:∀(r:List ab) (c:List ah),(∀u∈c,u.1≠v.1)→c.map (qR v.1 r)=c:=fun r c hc=>by
  conv=>rhs;rw [←List.map_id c]
  exact List.map_congr_left fun u hu=>by unfold qR;rw [if_neg (hc u hu)];rfl
 have hd:∀c:List ah,(∀u∈c,u.1≠v.1)→dC c v.1=c:=fun c hc=>by
  unfold dC;rw [List.filter_eq_self];intro u hu;simpa using hc u hu
 refine ⟨a,b,rfl,bj,?_,fun r => ?_⟩
 ·unfold dC
  rw [List.filter_append,List.filter_cons_of_neg (by simp)]
  have h1:=hd a (fun u hu=>bj u (List.mem_append_left _ hu))
  have h2:=hd b (fun u hu=>bj u (List.mem_append_right _ hu))
  unfold dC at h1 h2
  rw [h1,h2]
 ·rw [List.map_append,List.map_cons,hm r a (fun u hu=>bj u (List.mem_append_left _ hu)),hm r b (fun u hu=>bj u (List.mem_append_right _ hu))]
  unfold qR;rw [if_pos rfl]
structure Rw(l:List ah):Prop where
 s:bW l
 n:(aw l).Nodup
theorem Rw.ring{l:List ah}(h:Rw l){v:ah}(hv:v∈l):v.2.1.Nodup:=by
 obtain ⟨a,b,rfl,_⟩:=sW h.s hv
 exact (List.nodup_append.1 ((jA a b v).nodup_iff.1 h.n)).1
theorem Rw.one{l:List ah}(h:Rw l){v w:ah}{x:ab}(hv:v∈l)(hw:w∈l)(hx:x∈v.2.1)(hy:x∈w.2.1):w=v:=by
 obtain ⟨a,b,rfl,_⟩:=sW h.s hv
 have hn:=List.nodup_append.1 ((jA a b v).nodup_iff.1 h.n)
 have:w∈a++v::b:=hw
 rw [List.mem_append,List.mem_cons] at this
 rcases this with k | k | k
 ·exact absurd rfl (hn.2.2 x hx x (bD.2 ⟨w,List.mem_append_left _ k,hy⟩))
 ·exact k
 ·exact absurd rfl (hn.2.2 x hx x (bD.2 ⟨w,List.mem_append_right _ k,hy⟩))
theorem mE{l:List ah}(h:Rw l){v:ah}{x:ab}(hv:v∈l)(hx:x∈v.2.1):Gn l x=some v.1:=by
 have hf:(l.find? fun u=>decide (x∈u.2.1)).isSome=true:=by rw [List.find?_isSome];exact ⟨v,hv,by simpa using hx⟩
 obtain ⟨u,hu⟩:=Option.isSome_iff_exists.1 hf
 have h1:=List.mem_of_find?_eq_some hu
 have h2:x∈u.2.1:=by simpa using List.find?_some hu
 unfold Gn
 rw [hu,h.one hv h1 hx h2];rfl
theorem GB{l:List ah}{x:ab}(h:x∉aw l):Gn l x=none:=by
 unfold Gn
 have:(l.find? fun u=>decide (x∈u.2.1))=none:=by
  rw [List.find?_eq_none];intro u hu hx
  exact h (bD.2 ⟨u,hu,by simpa using hx⟩)
 rw [this];rfl
theorem jC{d:ai}(h:bW d.1){v:ah}(hv:v∈d.1):bJ d v.1=v.2.1:=by
 unfold bJ bh;rw [ns h hv];rfl
theorem jD{d:ai}(h:Rw d.1){v:ah}{x:ab}(hv:v∈d.1)(hx:x∈v.2.1):aB d x=b5 d v.1 (gH v.2.1 x):=by
 unfold aB cp
 rw [mE h hv hx]
 show b5 d v.1 (gH (bJ d v.1) x)=_
 rw [jC h.s hv]
theorem AJ{d:ai}(h:Rw d.1){v:ah}{x:ab}(y:ab)(hv:v∈d.1)(hx:x∈v.2.1):aD d x y=b5 d v.1 (je v.2.1 x y):=by
 unfold aD cp
 rw [mE h hv hx]
 show b5 d v.1 (je (bJ d v.1) x y)=_
 rw [jC h.s hv]
theorem bW.re{l:List ah}(h:bW l)(x:ID)(r:List ab):bW (l.map (qR x r)):=h.map (qj x r)
theorem AK{l:List ah}{v:ah}(hs:bW l)(hv:v∈l):∃rest,(aw l).Perm (v.2.1++rest)∧∀r,(aw (l.map (qR v.1 r))).Perm (r++rest):=by
 obtain ⟨a,b,h1,_,_,h2⟩:=sW hs hv
 refine ⟨aw (a++b),?_,fun r => ?_⟩
 ·conv=>lhs;rw [h1]
  exact jA a b v
 ·rw [h2 r];exact jA a b (v.1,(r,v.2.2))
theorem eP{d:ai}(h:Rw d.1){x:ab}(hx:x∈aw d.1):(aw d.1).Perm (x::aw (aB d x).1)∧Rw (aB d x).1:=by
 obtain ⟨v,hv,ki⟩:=bD.1 hx
 obtain ⟨rest,h1,h2⟩:=AK h.s hv
 rw [jD h hv ki]
 have p:(aw d.1).Perm (x::aw (b5 d v.1 (gH v.2.1 x)).1) :=
  h1.trans ((List.Perm.append_right rest (qX ki (h.ring hv))).trans (List.Perm.cons x (h2 _).symm))
 exact ⟨p,h.s.re _ _,(List.nodup_cons.1 (p.nodup_iff.1 h.n)).2⟩
theorem ox{d:ai}(h:Rw d.1){x y:ab}(hx:x∈aw d.1)(hy:y∉aw d.1):(y::aw d.1).Perm (x::aw (aD d x y).1)∧Rw (aD d x y).1:=by
 obtain ⟨v,hv,ki⟩:=bD.1 hx
 obtain ⟨rest,h1,h2⟩:=AK h.s hv
 rw [AJ h y hv ki]
 have YS:y∉v.2.1:=fun k=>hy (bD.2 ⟨v,hv,k⟩)
 have p:(y::aw d.1).Perm (x::aw (b5 d v.1 (je v.2.1 x y)).1) :=
  (List.Perm.cons y h1).trans ((List.Perm.append_right rest (IH ki YS)).trans (List.Perm.cons x (h2 _).symm))
 refine ⟨p,h.s.re _ _,?_⟩
 exact (List.nodup_cons.1 (p.nodup_iff.1 (List.nodup_cons.2 ⟨hy,h.n⟩))).2
theorem rW{d:ai}(h:Rw d.1){c:oU}{x:ab}{v:ah}(hv:aR d.1 c.1=some v)(hx:x∉aw d.1):(aw (bR d c x).1).Perm (x::aw d.1)∧Rw (bR d c x).1:=by
 have YT:=fW hv
 have YU:=j7 hv
 obtain ⟨rest,h1,h2⟩:=AK h.s YT
 have ki:x∉v.2.1:=fun k=>hx (bD.2 ⟨v,YT,k⟩)
 have e:bR d c x=b5 d v.1 (lz v.2.1 c.2 x):=by
  unfold bR
  rw [←YU,jC h.s YT]
 rw [e]
 have p:(aw (b5 d v.1 (lz v.2.1 c.2 x)).1).Perm (x::aw d.1) :=
  (h2 _).trans ((List.Perm.append_right rest (LH c.2 ki)).trans (List.Perm.cons x h1.symm))
 exact ⟨p,h.s.re _ _,p.nodup_iff.2 (List.nodup_cons.2 ⟨hx,h.n⟩)⟩
structure GV(v:ah):Prop where
 i:cT v.1=true
 l:BU v.2.2.1=true
 a:uq v.2.2.2=true
 t:cG v.2.1=v.2.1
structure GE(e:af):Prop where
 i:cT e.1=true
 l:BU e.2.1=true
 a:uq e.2.2=true
structure Wf(d:ai):Prop where
 sv:bW d.1
 se:c6 d.2
 nv:d.1.length≤24
 ne:d.2.length≤40
 gv:∀v∈d.1,GV v
 ge:∀e∈d.2,GE e
 pd:(aw d.1).Perm (ends d.2)
theorem Wf.rw{d:ai}(h:Wf d):Rw d.1:=⟨h.sv,h.pd.nodup_iff.2 (AG h.se)⟩
theorem Wf.zero:Wf zS.1:=⟨List.Pairwise.nil,List.Pairwise.nil,by simp [zS],by simp [zS],by simp [zS],by simp [zS],List.Perm.refl _⟩
theorem GV.re{l:List ah}(h:∀v∈l,GV v)(x:ID){r:List ab}(hr:cG r=r):∀v∈l.map (qR x r),GV v:=fun v hv=>by
 obtain ⟨w,hw,rfl⟩:=List.mem_map.1 hv
 have g:=h w hw
 unfold qR
 split
 ·exact ⟨g.i,g.l,g.a,hr⟩
 ·exact g
theorem jE{d:ai}(h:∀v∈d.1,GV v)(x:ab):∀v∈(aB d x).1,GV v:=GV.re h _ (LG _ _)
theorem sX{d:ai}(h:∀v∈d.1,GV v)(x y:ab):∀v∈(aD d x y).1,GV v:=GV.re h _ (IG _ _ _)
theorem wY{d:ai}(h:∀v∈d.1,GV v)(c:oU)(y:ab):∀v∈(bR d c y).1,GV v:=GV.re h _ (LF _ _ _)
theorem fP(d:ai)(x:ID)(r:List ab):(b5 d x r).1.length=d.1.length:=by unfold b5;simp
theorem CO:cT zI=false:=by decide
theorem xX{l:List af}(h:∀e∈l,GE e):cM l zI=l:=by
 unfold cM;rw [List.filter_eq_self];intro e he
 have:=(h e he).i
 simp;intro k;rw [k,CO] at this;cases this
theorem uA{l:List ah}(h:∀e∈l,GV e):dC l zI=l:=by
 unfold dC;rw [List.filter_eq_self];intro e he
 have:=(h e he).i
 simp;intro k;rw [k,CO] at this;cases this
theorem qY:BU e0=true:=by decide
theorem qZ:uq 0=true:=by decide
theorem AL{l:List af}{x:ID}(h:bf l x=none)(s:Int):(x,s)∉ends l:=fun k=>by
 obtain ⟨e,he,h1,_⟩:=eV.1 k
 unfold bf at h
 rw [List.find?_eq_none] at h
 exact h e he (by simpa using h1)
theorem AM{l:List af}{x:ID}(h:(bf l x).isSome=true){s:Int}(hs:s=0∨s=1):(x,s)∈ends l:=by
 obtain ⟨e,he⟩:=Option.isSome_iff_exists.1 h
 exact eV.2 ⟨e,LB he,uy he,hs⟩
end Go.Vs
namespace Go.Vs
open Go.Proofs
theorem Pf{o:bB}(h:cx o=0):cT (aS o)=true:=by
 unfold cx at h
 split at h;· cases h
 split at h;· cases h
 split at h;· cases h
 rename_i h3;simpa using h3
theorem AO{o:bB}(h:cx o=0):1≤o.1∧o.1≤8:=by
 unfold cx at h
 split at h;· cases h
 split at h;· cases h
 omega
theorem CP{o:bB}(h:cx o=0)(hk:o.1=5):cT (ed o)=true∧cT (aU o)=true∧0≤oN o∧oN o≤3:=by
 unfold cx at h
 split at h;· cases h
 split at h;· cases h
 split at h;· cases h
 split at h;· cases h
 rw [if_neg (show ¬o.1=3 by omega)] at h
 split at h
 ·assumption
 ·cases h
theorem GC{o:bB}(h:cx o=0)(hk:o.1=8):uq (oN o)=true:=by
 unfold cx at h
 split at h;· cases h
 split at h;· cases h
 split at h;· cases h
 split at h;· cases h
 rw [if_neg (show ¬o.1=3 by omega),if_neg (show ¬o.1=5 by omega),if_neg (show ¬o.1=6 by omega)] at h
 split at h
 ·assumption
 ·cases h
theorem CQ{o:bB}(h:cx o=0)(hk:o.1=7):BU (nj o)=true:=by
 unfold cx at h
 split at h;· cases h
 split at h;· cases h
 split at h;· cases h
 split at h;· cases h
 rw [if_neg (show ¬o.1=3 by omega),if_neg (show ¬o.1=5 by omega),if_neg (show ¬o.1=6 by omega),if_neg (show ¬o.1=8 by omega)] at h
 split at h
 ·assumption
 ·cases h
def iw(l:List ak):Prop:=l.Pairwise fun a b=>kq a.1 b.1=true
theorem oy{a b:ab}:mA a b≤0↔a=b∨kq a b=true:=by
 unfold mA
 by_cases h:a=b
 ·subst h;simp
 ·rw [if_neg h];cases kq a b<;>simp [h]
theorem AP{q g:ak}:∀{l:List ak},q∈kD g l→q=g∨(q∈l∧q.1≠g.1)
 | [],h=>by simp [kD] at h;exact .inl h
 | e::r,h=>by
  unfold kD at h
  split at h
  ·rcases List.mem_cons.1 h with h | h
   ·exact .inl h
   ·unfold mB at h
    rw [List.mem_filter] at h
    exact .inr ⟨h.1,by simpa using h.2⟩
  ·split at h
   ·rename_i bj
    rcases List.mem_cons.1 h with rfl | h
    ·exact .inr ⟨List.mem_cons_self ..,bj⟩
    ·rcases AP h with h | ⟨h,h2⟩
     ·exact .inl h
     ·exact .inr ⟨List.mem_cons_of_mem _ h,h2⟩
   ·rcases AP h with h | ⟨h,h2⟩
    ·exact .inl h
    ·exact .inr ⟨List.mem_cons_of_mem _ h,h2⟩
theorem iw.add(g:ak):∀{l:List ak},iw l→iw (kD g l)
 | [],_=>List.pairwise_singleton _ _
 | e::r,h=>by
  have hr:∀{q:ak},q∈r→kq e.1 q.1=true:=fun {q} hq=>List.rel_of_pairwise_cons h hq
  unfold kD
  split
  ·rename_i ho
   refine List.Pairwise.cons (fun q hq => ?_) (h.filter _)
   unfold mB at hq
   rw [List.mem_filter] at hq
   have bj:q.1≠g.1:=by simpa using hq.2
   have hle:e.1=q.1∨kq e.1 q.1=true:=by
    rcases List.mem_cons.1 hq.1 with rfl | hq
    ·exact .inl rfl
    ·exact .inr (hr hq)
   rcases oy.1 ho with ho | ho
   ·rcases hle with k | k
    ·exact absurd (ho.trans k).symm bj
    ·rw [ho];exact k
   ·rcases hle with k | k
    ·rw [←k];exact ho
    ·exact fX ho k
  ·rename_i ho
   have Ht:kq e.1 g.1=true:=by
    have h1:¬(g.1=e.1∨kq g.1 e.1=true):=fun k=>ho (oy.2 k)
    exact vM (by simpa using fun k=>h1 (.inr k)) (fun k=>h1 (.inl k))
   have hs:=iw.add g (List.Pairwise.of_cons h)
   split
   ·refine List.Pairwise.cons (fun q hq => ?_) hs
    rcases AP hq with rfl | ⟨hq,_⟩
    ·exact Ht
    ·exact hr hq
   ·exact hs
theorem oz(e:ak)(r:List ak)(x:ab):fM (e::r) x=if e.1=x then some e.2 else fM r x:=by
 unfold fM
 rw [List.find?_cons]
 by_cases h:e.1=x
 ·simp [h]
 ·simp [h]
theorem q6{g:ak}:∀{l:List ak},(∀q∈l,q.1≠g.1)→mB g l=l:=fun {l} h=>by
 unfold mB;rw [List.filter_eq_self];intro q hq;simpa using h q hq
theorem GD(g:ak):∀{l:List ak},iw l→(kD g l).length=if (fM l g.1).isSome=true then l.length else l.length+1
 | [],_=>rfl
 | e::r,h=>by
  have hr:∀{q:ak},q∈r→kq e.1 q.1=true:=fun {q} hq=>List.rel_of_pairwise_cons h hq
  have ih:=GD g (List.Pairwise.of_cons h)
  unfold kD
  split
  ·rename_i ho
   rcases oy.1 ho with ho | ho
   ·have h1:mB g (e::r)=r:=by
     have:mB g (e::r)=mB g r:=by unfold mB;rw [List.filter_cons_of_neg (by simp [ho])]
     rw [this]
     exact q6 (fun q hq k=>by have:=hr hq;rw [k,ho,dw] at this;cases this)
    rw [h1,oz,if_pos ho.symm];simp
   ·have h2:∀q∈e::r,q.1≠g.1:=fun q hq k=>by
     have:kq g.1 q.1=true:=by
      rcases List.mem_cons.1 hq with rfl | hq
      ·exact ho
      ·exact fX ho (hr hq)
     rw [k,dw] at this;cases this
    have h3:fM (e::r) g.1=none:=by
     unfold fM
     have:(List.find? (fun q=>decide (q.1=g.1)) (e::r))=none:=by
      rw [List.find?_eq_none];intro q hq;simpa using h2 q hq
     rw [this];rfl
    rw [q6 h2,h3];simp
  ·rename_i ho
   have bj:e.1≠g.1:=fun k=>ho (oy.2 (.inl k.symm))
   rw [if_pos bj,oz,if_neg bj]
   simp only [List.length_cons,ih]
   split<;>rfl
theorem jF{l:List ak}(h:iw l)(hn:l.length≤400)(g:ak):iw (bK l g)∧(bK l g).length≤400:=by
 unfold bK
 split
 ·exact ⟨h,hn⟩
 ·rename_i hc
  refine ⟨iw.add g h,?_⟩
  rw [GD g h]
  split
  ·exact hn
  ·rename_i h1
   by_cases h2:400≤l.length
   ·exact absurd ⟨by simpa using h1,h2⟩ hc
   ·omega
theorem CR{α:Type}{o:Option α}(h:¬o.isSome=false):o.isSome=true:=by cases o<;>simp_all
structure hP(s:StateT):Prop where
 d:Wf s.1
 g:iw s.2
 n:s.2.length≤400
theorem hP.zero:hP zS:=⟨Wf.zero,List.Pairwise.nil,by simp [zS]⟩
theorem hP.add{l:List ak}(h:iw l)(hn:l.length≤400){d:ai}(hd:Wf d)(g:ak):hP (d,bK l g):=⟨hd,(jF h hn g).1,(jF h hn g).2⟩
theorem LI{f:ah→ah}(hf:∀v,(f v).2.1=v.2.1)(l:List ah):aw (l.map f)=aw l:=by
 unfold aw;rw [List.flatMap_map];congr 1;funext v;exact hf v
theorem Pg{f:af→af}(hf:∀v,(f v).1=v.1)(l:List af):ends (l.map f)=ends l:=by
 unfold ends;rw [List.flatMap_map];congr 1;funext v;rw [hf]
theorem J3(o:bB)(w:af):(jx o w).1=w.1:=by unfold jx;split<;>(try split)<;>rfl
theorem LJ(o:bB)(w:ah):(iB o w).2.1=w.2.1:=by unfold iB;split<;>(try split)<;>rfl
theorem Wf.xY{d:ai}(h:Wf d){x:ID}(hx:bf d.2 x=none)(s:Int):(x,s)∉aw d.1:=fun k=>AL hx s (h.pd.mem_iff.1 k)
theorem Wf.mF{d:ai}(h:Wf d){x:ID}(hx:(bf d.2 x).isSome=true){s:Int}(hs:s=0∨s=1):(x,s)∈aw d.1:=h.pd.mem_iff.2 (AM hx hs)
theorem Wf.vE{s:StateT}(h:Wf s.1){o:bB}(hm:cx o=0)(hk:7≤o.1):Wf (vE s o).1.1:=by
 have hk8:=(AO hm).2
 unfold Vs.vE
 split
 ·refine ⟨h.sv.map (J1 o),h.se.map (J3 o),by simp;exact h.nv,by simp;exact h.ne,fun v hv => ?_,fun e he => ?_,?_⟩
  ·obtain ⟨w,hw,rfl⟩:=List.mem_map.1 hv
   have g:=h.gv w hw
   unfold iB
   split
   ·split
    ·rename_i h7
     exact ⟨g.i,CQ hm h7,g.a,g.t⟩
    ·exact ⟨g.i,g.l,GC hm (by omega),g.t⟩
   ·exact g
  ·obtain ⟨w,hw,rfl⟩:=List.mem_map.1 he
   have g:=h.ge w hw
   unfold jx
   split
   ·split
    ·rename_i h7
     exact ⟨g.i,CQ hm h7,g.a⟩
    ·exact ⟨g.i,g.l,GC hm (by omega)⟩
   ·exact g
  ·show (aw (s.1.1.map (iB o))).Perm (ends (s.1.2.map (jx o)))
   rw [LI (LJ o),Pg (J3 o)];exact h.pd
 ·exact Wf.zero
theorem oC{s:StateT}{c:oU}(h:(aT s c).2.1=0):(bh s.1 c.1).isSome=true∧(aT s c).1.1=c.1:=by
 unfold aT at h ⊢
 cases hv:bh s.1 c.1 with
 | none=>rw [hv] at h;cases h
 | some v=>exact ⟨rfl,rfl⟩
theorem GF{l:List ah}{x y:ID}(r:List ab)(h:(aR l x).isSome=true):(aR (l.map (qR y r)) x).isSome=true:=by
 rw [nm (qj y r)];simpa using h
theorem Wf.link{d:ai}(h:Wf d){x:ID}(hx:cT x=true)(hn:bf d.2 x=none)(he:¬40≤d.2.length){a b:oU}(ha:(aR d.1 a.1).isSome=true)(hb:(aR d.1 b.1).isSome=true) :
  Wf (bR (bR (d.1,dm (x,(e0,0)) d.2) a (x,0)) b (x,1)):=by
 have hrw:Rw ((d.1,dm (x,(e0,0)) d.2):ai).1:=h.rw
 obtain ⟨va,hva⟩:=Option.isSome_iff_exists.1 ha
 have h0:=h.xY hn 0
 have h1:=h.xY hn 1
 obtain ⟨p1,q1⟩:=rW (c:=a) (x:=(x,0)) hrw hva h0
 obtain ⟨vb,hvb⟩:=Option.isSome_iff_exists.1 (GF (x:=b.1) (y:=a.1) (lz (bJ (d.1,dm (x,(e0,0)) d.2) a.1) a.2 (x,0)) hb)
 have MD:(x,1)∉aw (bR (d.1,dm (x,(e0,0)) d.2) a (x,0)).1:=fun k=>by
  rcases List.mem_cons.1 (p1.mem_iff.1 k) with k | k
  ·cases k
  ·exact h1 k
 obtain ⟨p2,q2⟩:=rW (c:=b) (x:=(x,1)) q1 hvb MD
 refine ⟨q2.s,vL (x,(e0,0)) h.se hn,?_,?_,wY (wY h.gv _ _) _ _,fun e hem => ?_,?_⟩
 ·unfold bR;rw [fP,fP];exact h.nv
 ·show (dm (x,(e0,0)) d.2).length≤40
  rw [me];omega
 ·rcases ux.1 (show e∈dm (x,(e0,0)) d.2 from hem) with rfl | hem
  ·exact ⟨hx,qY,qZ⟩
  ·exact h.ge e hem
 ·show (aw _).Perm (ends (dm (x,(e0,0)) d.2))
  refine (p2.trans (List.Perm.cons _ p1)).trans (List.Perm.trans ?_ (CN (x,(e0,0)) d.2).symm)
  exact (List.Perm.swap _ _ _).trans (List.Perm.cons _ (List.Perm.cons _ h.pd))
theorem Wf.cut{d:ai}(h:Wf d){x:ID}(hx:(bf d.2 x).isSome=true):Wf (bu (aB (aB d (x,0)) (x,1)) zI x):=by
 have h0:=h.mF hx (s:=0) (.inl rfl)
 have h1:=h.mF hx (s:=1) (.inr rfl)
 obtain ⟨p1,q1⟩:=eP h.rw h0
 have MD:(x,1)∈aw (aB d (x,0)).1:=by
  rcases List.mem_cons.1 (p1.mem_iff.1 h1) with k | k
  ·cases k
  ·exact k
 obtain ⟨p2,q2⟩:=eP q1 MD
 have Mn:=jE (jE h.gv (x,0)) (x,1)
 have RB:(bu (aB (aB d (x,0)) (x,1)) zI x).1=(aB (aB d (x,0)) (x,1)).1:=uA Mn
 refine ⟨by rw [RB];exact q2.s,sR h.se,?_,?_,by rw [RB];exact Mn,fun e he=>h.ge e ?_,?_⟩
 ·rw [RB];unfold aB;rw [fP,fP];exact h.nv
 ·exact Nat.le_trans (List.length_filter_le _ _) h.ne
 ·exact (List.mem_filter.1 (show e∈d.2.filter fun w=>decide (w.1≠x) from he)).1
 ·rw [RB]
  show (aw (aB (aB d (x,0)) (x,1)).1).Perm (ends (cM d.2 x))
  have p3:((x,0)::(x,1)::aw (aB (aB d (x,0)) (x,1)).1).Perm ((x,0)::(x,1)::ends (cM d.2 x)) :=
   ((p1.trans (List.Perm.cons _ p2)).symm.trans h.pd).trans (AI h.se hx)
  exact p3.cons_inv.cons_inv
theorem q7{x:ab}(h:x.2=0∨x.2=1):(aq x).1=x.1∧((x.2=0∧(aq x).2=1)∨(x.2=1∧(aq x).2=0)):=by
 refine ⟨rfl,?_⟩
 unfold aq
 rcases h with h | h
 ·exact .inl ⟨h,by rw [h];rfl⟩
 ·exact .inr ⟨h,by rw [h];rfl⟩
theorem GG{x:ab}(h:x.2=0∨x.2=1)(l:List ab):(x::aq x::l).Perm ((x.1,0)::(x.1,1)::l):=by
 obtain ⟨h1,h2⟩:=q7 h
 have e:x=(x.1,x.2):=rfl
 have e2:aq x=(x.1,(aq x).2):=rfl
 rcases h2 with ⟨ha,hb⟩ | ⟨ha,hb⟩
 ·rw [ha] at e;rw [hb] at e2;rw [e2,e]
 ·rw [ha] at e;rw [hb] at e2;rw [e2,e];exact List.Perm.swap _ _ _
theorem GH{n:Int}(h0:0≤n)(h3:n≤3):(IntKind.wrap .i64 (1 - Int.tmod n 2)=0∨IntKind.wrap .i64 (1 - Int.tmod n 2)=1)∧(IntKind.wrap .i64 (Int.tdiv n 2)=0∨IntKind.wrap .i64 (Int.tdiv n 2)=1):=by
 have:n=0∨n=1∨n=2∨n=3:=by omega
 rcases this with rfl | rfl | rfl | rfl<;>exact ⟨by decide,by decide⟩
theorem Wf.split{d:ai}(h:Wf d){m k:ab}{v:ID}(hv:cT v=true)(hk:cT k.1=true)(TS:m.2=0∨m.2=1)(nE:k.2=0∨k.2=1)(hm:(bf d.2 m.1).isSome=true)(QB:aR d.1 v=none)(hnk:bf d.2 k.1=none)
  (Ta:¬24≤d.1.length) (hle:¬40≤d.2.length):Wf (dR (v,(cG [m,k],(e0,0))) (aD d m (aq k)).1,dm (k.1,(e0,0)) (aD d m (aq k)).2):=by
 have hmd:m∈aw d.1:=h.mF hm TS
 have Hs:aq k∉aw d.1:=h.xY hnk _
 obtain ⟨p1,q1⟩:=ox h.rw hmd Hs
 have RC:aR (aD d m (aq k)).1 v=none:=by
  unfold aD Vs.b5
  rw [nm (qj _ _),QB];rfl
 refine ⟨nk (v,(cG [m,k],(e0,0))) q1.s RC,vL (k.1,(e0,0)) h.se hnk,?_,?_,fun w hw => ?_,fun e he => ?_,?_⟩
 ·show (dR _ (aD d m (aq k)).1).length≤24
  rw [iu];unfold aD;rw [fP];omega
 ·show (dm _ d.2).length≤40
  rw [me];omega
 ·rcases qh.1 hw with rfl | hw
  ·exact ⟨hv,qY,qZ,qW _⟩
  ·exact sX h.gv _ _ w hw
 ·rcases ux.1 (show e∈dm (k.1,(e0,0)) d.2 from he) with rfl | he
  ·exact ⟨hk,qY,qZ⟩
  ·exact h.ge e he
 ·show (aw (dR _ _)).Perm (ends (dm (k.1,(e0,0)) d.2))
  refine (AH _ _).trans (List.Perm.trans ?_ (CN (k.1,(e0,0)) d.2).symm)
  refine (List.Perm.append_right _ (nq [m,k])).trans ?_
  show (m::k::aw (aD d m (aq k)).1).Perm _
  refine (List.Perm.swap k m _).trans ((List.Perm.cons k p1.symm).trans ?_)
  refine (GG nE _).trans ?_
  exact List.Perm.cons _ (List.Perm.cons _ h.pd)
theorem Wf.UK{d:ai}(h:Wf d){v:ah}(hv:v∈d.1)(hr:v.2.1=[]):Wf (bu d v.1 zI):=by
 obtain ⟨a,b,h1,_,h2,_⟩:=sW h.sv hv
 refine ⟨ov h.sv,?_,Nat.le_trans (List.length_filter_le _ _) h.nv,Nat.le_trans (List.length_filter_le _ _) h.ne,fun w hw=>h.gv w ?_,fun e he=>h.ge e ?_,?_⟩
 ·exact sR h.se
 ·exact (List.mem_filter.1 (show w∈d.1.filter fun w=>decide (w.1≠v.1) from hw)).1
 ·exact (List.mem_filter.1 (show e∈d.2.filter fun w=>decide (w.1≠zI) from he)).1
 ·show (aw (dC d.1 v.1)).Perm (ends (cM d.2 zI))
  rw [h2,xX h.ge]
  have p:=jA a b v
  rw [←h1,hr,List.nil_append] at p
  exact p.symm.trans h.pd
theorem Wf.UL{d:ai}(h:Wf d){v:ah}{a b:ab}(hv:v∈d.1)(hr:v.2.1.Perm [a,b])(Bm:a.1≠b.1):Wf (bu (aD (bu d v.1 zI) (aq b) a) zI b.1):=by
 obtain ⟨p,q,h1,_,h2,_⟩:=sW h.sv hv
 have pd:(aw d.1).Perm (a::b::aw (p++q)):=by
  have:=(jA p q v).trans (List.Perm.append_right _ hr)
  rw [←h1] at this;exact this
 have LK:bu d v.1 zI=(p++q,d.2):=by unfold bu;rw [h2,xX h.ge]
 have Ex:=pd.nodup_iff.1 h.rw.n
 have hbm:b∈ends d.2:=h.pd.mem_iff.1 (pd.mem_iff.2 (by simp))
 obtain ⟨e,he,WA,yN⟩:=eV.1 hbm
 have DF:(bf d.2 b.1).isSome=true:=by
  unfold bf;rw [List.find?_isSome];exact ⟨e,he,by simpa using WA⟩
 obtain ⟨_,ho⟩:=q7 yN
 have UM:aq b∈aw (p++q):=by
  have h3:aq b∈aw d.1:=h.mF (s:=(aq b).2) DF (by rcases ho with ⟨_,k⟩ | ⟨_,k⟩<;>omega)
  rcases List.mem_cons.1 (pd.mem_iff.1 h3) with k | k
  ·exact absurd (congrArg Prod.fst k) (fun k=>Bm k.symm)
  rcases List.mem_cons.1 k with k | k
  ·have:=congrArg Prod.snd k;omega
  ·exact k
 have RD:Rw (p++q):=by
  refine ⟨?_,(List.nodup_cons.1 (List.nodup_cons.1 Ex).2).2⟩
  rw [←h2];exact ov h.sv
 have ha:a∉aw (p++q):=fun k=>(List.nodup_cons.1 Ex).1 (List.mem_cons_of_mem _ k)
 rw [LK]
 obtain ⟨p1,q1⟩:=ox (d:=(p++q,d.2)) RD UM ha
 have Mn:∀w∈(aD (p++q,d.2) (aq b) a).1,GV w:=by
  refine sX (d:=(p++q,d.2)) (fun w hw=>h.gv w ?_) _ _
  rw [h1]
  rcases List.mem_append.1 hw with k | k
  ·exact List.mem_append_left _ k
  ·exact List.mem_append_right _ (List.mem_cons_of_mem _ k)
 have RB:(bu (aD (p++q,d.2) (aq b) a) zI b.1).1=(aD (p++q,d.2) (aq b) a).1:=uA Mn
 refine ⟨by rw [RB];exact q1.s,sR h.se,?_,Nat.le_trans (List.length_filter_le _ _) h.ne,by rw [RB];exact Mn,fun f hf=>h.ge f ?_,?_⟩
 ·rw [RB];unfold aD;rw [fP]
  have:=h.nv
  rw [h1] at this
  simp at this ⊢;omega
 ·exact (List.mem_filter.1 (show f∈d.2.filter fun w=>decide (w.1≠b.1) from hf)).1
 ·rw [RB]
  show (aw (aD (p++q,d.2) (aq b) a).1).Perm (ends (cM d.2 b.1))
  have p3:(b::aq b::aw (aD (p++q,d.2) (aq b) a).1).Perm (b::aq b::ends (cM d.2 b.1)):=by
   refine List.Perm.trans (List.Perm.cons b p1.symm) ?_
   refine (List.Perm.swap a b _).trans (pd.symm.trans (h.pd.trans ?_))
   exact (AI h.se DF).trans (GG yN _).symm
  exact p3.cons_inv.cons_inv
theorem hP.one{s:StateT}(h:hP s)(o:bB):hP (qi s o).1:=by
 unfold qi
 split
 ·exact hP.zero
 rename_i hm
 have hm:cx o=0:=Classical.byContradiction fun k=>hm k
 have bO:=Pf hm
 split
 ·unfold rS
  split;· exact hP.zero
  split;· exact hP.zero
  rename_i h1 h2
  have hn:aR s.1.1 (aS o)=none:=by simpa [bh] using h1
  refine ⟨⟨nk _ h.d.sv hn,h.d.se,by show (dR _ s.1.1).length≤24;rw [iu];omega,h.d.ne,fun w hw => ?_,h.d.ge,?_⟩,h.g,h.n⟩
  ·rcases qh.1 hw with rfl | hw
   ·exact ⟨bO,qY,qZ,rfl⟩
   ·exact h.d.gv w hw
  ·exact (AH _ _).trans h.d.pd
 split
 ·unfold wV
  cases hv:bh s.1 (aS o) with
  | none=>exact hP.zero
  | some v =>
   simp only
   split
   ·exact hP.zero
   ·rename_i hr
    have:=h.d.UK (fW hv) (by simpa using hr)
    rw [j7 hv] at this
    exact ⟨this,h.g,h.n⟩
 split
 ·unfold rR
  split;· exact hP.zero
  split;· exact hP.zero
  split;· exact hP.zero
  split;· exact hP.zero
  split;· exact hP.zero
  rename_i h1 h2 h3 h4 h5
  have hn:bf s.1.2 (aS o)=none:=by simpa [gI] using h1
  obtain ⟨ca,ca2⟩:=oC (s:=s) (c:=oA o) (Classical.byContradiction fun k=>h3 k)
  obtain ⟨cb,cb2⟩:=oC (s:=s) (c:=oB o) (Classical.byContradiction fun k=>h4 k)
  refine ⟨?_,h.g,h.n⟩
  unfold kr
  refine h.d.link bO hn h2 (by rw [ca2];exact ca) ?_
  split
  ·exact cb
  ·rw [cb2];exact cb
 split
 ·unfold Ee
  split;· exact hP.zero
  rename_i h1
  have h2:=jF h.g h.n ((aS o,0),cZ s.1 (aS o,0))
  exact hP.add h2.1 h2.2 (h.d.cut (CR h1)) _
 split
 ·rename_i hk
  unfold lB
  split;· exact hP.zero
  split;· exact hP.zero
  split;· exact hP.zero
  split;· exact hP.zero
  split;· exact hP.zero
  rename_i h1 h2 h3 h4 h5
  obtain ⟨m1,m2,m3,m4⟩:=CP hm hk
  obtain ⟨s1,s2⟩:=GH m3 m4
  refine ⟨?_,h.g,h.n⟩
  exact h.d.split (m:=Hu o) (k:=Ez o) m1 m2 s1 s2 (CR h1) (by simpa [bh] using h2) (by simpa [gI,Ez] using h3) h4 h5
 split
 ·unfold kE
  split
  ·exact hP.zero
  ·rename_i v hv
   split
   ·rename_i r0 r1 hr
    have YT:=fW hv
    have YU:=j7 hv
    have key:∀a b:ab,v.2.1.Perm [a,b]→a.1≠b.1→hP (IB s o a b,Gv s.2 a b):=fun a b hp Bm=>by
     have h2:=jF h.g h.n ((b.1,0),oZ a b 0)
     have:=h.d.UL YT hp Bm
     rw [YU] at this
     exact hP.add h2.1 h2.2 this _
    unfold jL
    split;· exact hP.zero
    rename_i bj
    split
    ·exact key r1 r0 (by rw [hr];exact List.Perm.swap _ _ _) (fun k=>bj k.symm)
    split
    ·exact key r0 r1 (by rw [hr]) bj
    ·exact hP.zero
   ·exact hP.zero
 ·rename_i k1 k2 k3 k4 k5 k6
  have hk:=AO hm
  have:=h.d.vE hm (by omega)
  refine ⟨this,?_,?_⟩
  ·unfold vE;split
   ·exact h.g
   ·exact List.Pairwise.nil
  ·unfold vE;split
   ·exact h.n
   ·simp [zS]
theorem hP.go:∀(l:List bB) {s:StateT},hP s→hP (Lv l s).1
 | [],s,h=>h
 | o::r,s,h=>by
  unfold Lv
  split
  ·exact hP.zero
  ·exact hP.go r (h.one o)
theorem hP.apply{s:StateT}(h:hP s)(l:List bB):hP (fi s l).1:=by
 unfold fi
 split
 ·exact hP.zero
 ·exact hP.go l h
theorem hP.try{s:StateT}(h:hP s)(l:List bB):hP (rq s l):=by
 unfold rq
 split
 ·exact h
 ·exact h.apply l
theorem hP.reach:∀(m:Nat) (l:List (List bB)) {s:StateT},hP s→hP (lC m l s)
 | 0,_,s,h=>by simpa [lC] using h
 | m+1,[],s,h=>h
 | m+1,l::r,s,h=>by rw [lC];exact hP.reach m r (h.try _)
theorem hP.JZ(l:List (List bB)):hP (AA l):=hP.reach 30 l hP.zero
end Go.Vs
