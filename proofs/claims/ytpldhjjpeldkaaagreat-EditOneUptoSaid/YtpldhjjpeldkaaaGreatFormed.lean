/- Diagrams that are well formed stay so. -/
import Derived.Test.YtpldhjjpeldkaaaGreatRings
set_option linter.unusedVariables false
set_option linter.unusedSimpArgs false
namespace Go.Vs
open Go.Proofs
theorem nC(row:List ae):(cp row).Perm row:=by
 unfold cp BL
 exact List.perm_append_comm.trans (List.Perm.of_eq (List.take_append_drop _ _))
theorem L5{row:List ae}(h:0<row.length)(hl:∀j,(hj:j<row.length)→j7 row[j] row[0]=false):eZ row row 0 0=0:=by
 have hm:=oE row row 0 0 h (by omega)
 have h2:=(th h).2 0
 by_cases hz:eZ row row 0 0=0
 ·exact hz
 ·have:=h2 (by omega) h
  rw [oI hm,hl _ hm] at this;cases this
theorem PV(row:List ae):BL row 0=row:=by unfold BL;simp
theorem rk(row:List ae):cp (cp row)=cp row:=by
 by_cases h0:row.length=0
 ·have:row=[]:=by simpa using h0
  subst this;rfl
 have hp:0<row.length:=by omega
 have hm:=oE row row 0 0 hp (by omega)
 have hp2:0<(cp row).length:=by rw [fM];exact hp
 have h1:(cp row)[0]=row.getD (eZ row row 0 0) zD:=by
  have:=Kn (row:=row) (k:=eZ row row 0 0) (i:=0) (by omega) hp
  rw [Nat.add_zero,Nat.mod_eq_of_lt hm,List.getElem?_eq_getElem hm] at this
  rw [oI hm]
  exact (List.getElem?_eq_some_iff.1 this).2
 have h2:eZ (cp row) (cp row) 0 0=0:=by
  refine L5 hp2 (fun j hj => ?_)
  rw [h1]
  have gm:(cp row)[j]∈row:=GJ.1 (List.getElem_mem hj)
  obtain ⟨i,hi,he⟩:=List.getElem_of_mem gm
  rw [←he]
  exact (th hp).1 i hi
 unfold cp at h2 ⊢
 rw [h2,PV]
theorem L6(row:List ae)(a d:ae):cp (lB row a d)=lB row a d:=by unfold lB;split<;>exact rk _
theorem L7(row:List ae)(d:ae):cp (gM row d)=gM row d:=rk _
theorem I8(row:List ae)(a d:ae):cp (jg row a d)=jg row a d:=rk _
theorem L8{row:List ae}{d:ae}(a:ae)(h:d∉row):(lB row a d).Perm (d::row):=by
 unfold lB
 rw [if_neg h]
 refine (nC _).trans (List.perm_middle.trans ?_)
 rw [List.take_append_drop]
theorem rl{row:List ae}{d:ae}(h:d∈row)(hn:row.Nodup):row.Perm (d::gM row d):=by
 obtain ⟨k,_,h2,_⟩:=eY h
 obtain ⟨h3,h4⟩:=List.getElem?_eq_some_iff.1 h2
 unfold gM
 rw [wm hn h2]
 refine List.Perm.trans ?_ (List.Perm.cons d (nC _).symm)
 conv=>lhs;rw [←List.take_append_drop k row,List.drop_eq_getElem_cons h3,h4]
 exact List.perm_middle
theorem I9{row:List ae}{cH d:ae}(h:cH∈row)(hd:d∉row):(d::row).Perm (cH::jg row cH d):=by
 obtain ⟨k,h1,h2,_⟩:=eY h
 obtain ⟨h3,h4⟩:=List.getElem?_eq_some_iff.1 h2
 unfold jg
 rw [if_pos ⟨h,hd⟩,h1,Int.toNat_natCast]
 refine List.Perm.trans ?_ (List.Perm.cons cH (nC _).symm)
 rw [List.set_eq_take_append_cons_drop,if_pos h3]
 conv=>lhs;rw [←List.take_append_drop k row,List.drop_eq_getElem_cons h3,h4]
 have p1:(row.take k++cH::row.drop (k+1)).Perm (cH::(row.take k++row.drop (k+1))):=List.perm_middle
 have p2:(row.take k++d::row.drop (k+1)).Perm (d::(row.take k++row.drop (k+1))):=List.perm_middle
 exact (List.Perm.cons d p1).trans ((List.Perm.swap cH d _).trans (List.Perm.cons cH p2.symm))
def av(l:List ai):List ae:=l.flatMap fun v=>v.2.1
def ends(l:List ah):List ae:=l.flatMap fun e=>[(e.1,0),(e.1,1)]
theorem ia(v:ai)(l:List ai):av (v::l)=v.2.1++av l:=List.flatMap_cons
theorem nD(a b:List ai):av (a++b)=av a++av b:=List.flatMap_append
theorem jB(a b:List ai)(v:ai):(av (a++v::b)).Perm (v.2.1++av (a++b)):=by
 rw [nD,ia,nD,←List.append_assoc,←List.append_assoc]
 exact List.Perm.append_right _ List.perm_append_comm
theorem bz{x:ae}{l:List ai}:x∈av l↔∃v∈l,x∈v.2.1:=List.mem_flatMap
theorem jC(e:ah)(l:List ah):ends (e::l)=(e.1,0)::(e.1,1)::ends l:=by unfold ends;rw [List.flatMap_cons];rfl
theorem dP{x:ae}{l:List ah}:x∈ends l↔∃e∈l,e.1=x.1∧(x.2=0∨x.2=1):=by
 unfold ends
 rw [List.mem_flatMap]
 constructor
 ·rintro ⟨e,he,hx⟩
  rcases List.mem_cons.1 hx with rfl | hx
  ·exact ⟨e,he,rfl,.inl rfl⟩
  ·rw [List.mem_singleton] at hx;subst hx;exact ⟨e,he,rfl,.inr rfl⟩
 ·rintro ⟨e,he,h1,h2⟩
  refine ⟨e,he,?_⟩
  obtain ⟨x1,x2⟩:=x
  simp only at h1 h2
  subst h1
  rcases h2 with rfl | rfl<;>simp
theorem ti:∀{l:List ah},c5 l→(ends l).Nodup
 | [],_=>List.nodup_nil
 | e::r,h=>by
  have bj:∀s:Int,(e.1,s)∉ends r:=fun s hs=>by
   obtain ⟨f,hf,h1,_⟩:=dP.1 hs
   have:=List.rel_of_pairwise_cons h hf
   simp only at h1
   rw [h1,b5] at this;cases this
  rw [jC]
  refine List.nodup_cons.2 ⟨?_,List.nodup_cons.2 ⟨bj 1,ti h.of_cons⟩⟩
  rw [List.mem_cons]
  rintro (h1 | h1)
  ·cases h1
  ·exact bj 0 h1
theorem C5(e:ah):∀l:List ah,(dn e l).Perm (e::l)
 | []=>List.Perm.refl _
 | w::r=>by
  unfold dn
  split
  ·exact List.Perm.refl _
  ·exact (List.Perm.cons w (C5 e r)).trans (List.Perm.swap e w r)
theorem C6(e:ai):∀l:List ai,(dW e l).Perm (e::l)
 | []=>List.Perm.refl _
 | w::r=>by
  unfold dW
  split
  ·exact List.Perm.refl _
  ·exact (List.Perm.cons w (C6 e r)).trans (List.Perm.swap e w r)
theorem C7(e:ah)(l:List ah):(ends (dn e l)).Perm ((e.1,0)::(e.1,1)::ends l):=by
 rw [←jC]
 exact List.Perm.flatMap_right _ (C5 e l)
theorem A3(v:ai)(l:List ai):(av (dW v l)).Perm (v.2.1++av l):=by
 rw [←ia]
 exact List.Perm.flatMap_right _ (C6 v l)
theorem A4{l:List ah}{x:ID}(hs:c5 l)(h:(aW l x).isSome=true):(ends l).Perm ((x,0)::(x,1)::ends (cP l x)):=by
 obtain ⟨e,he⟩:=Option.isSome_iff_exists.1 h
 obtain ⟨h3,h4⟩:=List.getElem?_eq_some_iff.1 (lF hs he)
 rw [wg hs h]
 conv=>lhs;rw [←List.take_append_drop (bZ l x) l,List.drop_eq_getElem_cons h3,h4]
 rw [←qv he,←jC]
 exact List.Perm.flatMap_right _ List.perm_middle
theorem nE{l:List ai}{v:ai}(hs:bV l)(h:v∈l):aV l v.1=some v:=by
 have hf:(aV l v.1).isSome=true:=by
  unfold aV;rw [List.find?_isSome];exact ⟨v,h,by simp⟩
 obtain ⟨u,hu⟩:=Option.isSome_iff_exists.1 hf
 have h1:=c4 hs hu
 obtain ⟨k,hk,he⟩:=List.getElem_of_mem h
 have h2:l[k]? = some v:=by rw [List.getElem?_eq_getElem hk,he]
 rw [jA hs h2 rfl,h1] at h2
 rw [hu];exact h2
theorem tj{l:List ai}{v:ai}(hs:bV l)(h:v∈l):∃a b,l=a++v::b∧(∀u∈a++b,u.1≠v.1)∧dE l v.1=a++b∧∀r,l.map (q8 v.1 r)=a++(v.1,(r,v.2.2))::b:=by
 obtain ⟨a,b,rfl⟩:=List.append_of_mem h
 have hp:=List.pairwise_append.1 hs
 have hb:=List.pairwise_cons.1 hp.2.1
 have bj:∀u∈a++b,u.1≠v.1:=fun u hu e=>by
  rcases List.mem_append.1 hu with hu | hu
  ·have:=hp.2.2 u hu v (by simp);rw [e,b5] at this;cases this
  ·have:=hb.1 u hu;rw [e,b5] at this;cases this
 have hm:∀(r:List ae) (c:List ai),(∀u∈c,u.1≠v.1)→c.map (q8 v.1 r)=c:=fun r c hc=>by
  conv=>rhs;rw [←List.map_id c]
  exact List.map_congr_left fun u hu=>by unfold q8;rw [if_neg (hc u hu)];rfl
 have hd:∀c:List ai,(∀u∈c,u.1≠v.1)→dE c v.1=c:=fun c hc=>by
  unfold dE;rw [List.filter_eq_self];intro u hu;simpa using hc u hu
 refine ⟨a,b,rfl,bj,?_,fun r => ?_⟩
 ·unfold dE
  rw [List.filter_append,List.filter_cons_of_neg (by simp)]
  have h1:=hd a (fun u hu=>bj u (List.mem_append_left _ hu))
  have h2:=hd b (fun u hu=>bj u (List.mem_append_right _ hu))
  unfold dE at h1 h2
  rw [h1,h2]
 ·rw [List.map_append,List.map_cons,hm r a (fun u hu=>bj u (List.mem_append_left _ hu)),hm r b (fun u hu=>bj u (List.mem_append_right _ hu))]
  unfold q8;rw [if_pos rfl]
structure Rw(l:List ai):Prop where
 s:bV l
 n:(av l).Nodup
theorem Rw.ring{l:List ai}(h:Rw l){v:ai}(hv:v∈l):v.2.1.Nodup:=by
 obtain ⟨a,b,rfl,_⟩:=tj h.s hv
 exact (List.nodup_append.1 ((jB a b v).nodup_iff.1 h.n)).1
theorem Rw.one{l:List ai}(h:Rw l){v w:ai}{x:ae}(hv:v∈l)(hw:w∈l)(hx:x∈v.2.1)(hy:x∈w.2.1):w=v:=by
 obtain ⟨a,b,rfl,_⟩:=tj h.s hv
 have hn:=List.nodup_append.1 ((jB a b v).nodup_iff.1 h.n)
 have:w∈a++v::b:=hw
 rw [List.mem_append,List.mem_cons] at this
 rcases this with k | k | k
 ·exact absurd rfl (hn.2.2 x hx x (bz.2 ⟨w,List.mem_append_left _ k,hy⟩))
 ·exact k
 ·exact absurd rfl (hn.2.2 x hx x (bz.2 ⟨w,List.mem_append_right _ k,hy⟩))
theorem mI{l:List ai}(h:Rw l){v:ai}{x:ae}(hv:v∈l)(hx:x∈v.2.1):GK l x=some v.1:=by
 have hf:(l.find? fun u=>decide (x∈u.2.1)).isSome=true:=by rw [List.find?_isSome];exact ⟨v,hv,by simpa using hx⟩
 obtain ⟨u,hu⟩:=Option.isSome_iff_exists.1 hf
 have h1:=List.mem_of_find?_eq_some hu
 have h2:x∈u.2.1:=by simpa using List.find?_some hu
 unfold GK
 rw [hu,h.one hv h1 hx h2];rfl
theorem G2{l:List ai}{x:ae}(h:x∉av l):GK l x=none:=by
 unfold GK
 have:(l.find? fun u=>decide (x∈u.2.1))=none:=by
  rw [List.find?_eq_none];intro u hu hx
  exact h (bz.2 ⟨u,hu,by simpa using hx⟩)
 rw [this];rfl
theorem jD{d:aj}(h:bV d.1){v:ai}(hv:v∈d.1):bJ d v.1=v.2.1:=by
 unfold bJ bm;rw [nE h hv];rfl
theorem jE{d:aj}(h:Rw d.1){v:ai}{x:ae}(hv:v∈d.1)(hx:x∈v.2.1):aD d x=b6 d v.1 (gM v.2.1 x):=by
 unfold aD ct
 rw [mI h hv hx]
 show b6 d v.1 (gM (bJ d v.1) x)=_
 rw [jD h.s hv]
theorem A5{d:aj}(h:Rw d.1){v:ai}{x:ae}(y:ae)(hv:v∈d.1)(hx:x∈v.2.1):aF d x y=b6 d v.1 (jg v.2.1 x y):=by
 unfold aF ct
 rw [mI h hv hx]
 show b6 d v.1 (jg (bJ d v.1) x y)=_
 rw [jD h.s hv]
theorem bV.re{l:List ai}(h:bV l)(x:ID)(r:List ae):bV (l.map (q8 x r)):=h.map (qu x r)
theorem A6{l:List ai}{v:ai}(hs:bV l)(hv:v∈l):∃rest,(av l).Perm (v.2.1++rest)∧∀r,(av (l.map (q8 v.1 r))).Perm (r++rest):=by
 obtain ⟨a,b,h1,_,_,h2⟩:=tj hs hv
 refine ⟨av (a++b),?_,fun r => ?_⟩
 ·conv=>lhs;rw [h1]
  exact jB a b v
 ·rw [h2 r];exact jB a b (v.1,(r,v.2.2))
theorem eV{d:aj}(h:Rw d.1){x:ae}(hx:x∈av d.1):(av d.1).Perm (x::av (aD d x).1)∧Rw (aD d x).1:=by
 obtain ⟨v,hv,kl⟩:=bz.1 hx
 obtain ⟨rest,h1,h2⟩:=A6 h.s hv
 rw [jE h hv kl]
 have p:(av d.1).Perm (x::av (b6 d v.1 (gM v.2.1 x)).1) :=
  h1.trans ((List.Perm.append_right rest (rl kl (h.ring hv))).trans (List.Perm.cons x (h2 _).symm))
 exact ⟨p,h.s.re _ _,(List.nodup_cons.1 (p.nodup_iff.1 h.n)).2⟩
theorem oJ{d:aj}(h:Rw d.1){x y:ae}(hx:x∈av d.1)(hy:y∉av d.1):(y::av d.1).Perm (x::av (aF d x y).1)∧Rw (aF d x y).1:=by
 obtain ⟨v,hv,kl⟩:=bz.1 hx
 obtain ⟨rest,h1,h2⟩:=A6 h.s hv
 rw [A5 h y hv kl]
 have Zn:y∉v.2.1:=fun k=>hy (bz.2 ⟨v,hv,k⟩)
 have p:(y::av d.1).Perm (x::av (b6 d v.1 (jg v.2.1 x y)).1) :=
  (List.Perm.cons y h1).trans ((List.Perm.append_right rest (I9 kl Zn)).trans (List.Perm.cons x (h2 _).symm))
 refine ⟨p,h.s.re _ _,?_⟩
 exact (List.nodup_cons.1 (p.nodup_iff.1 (List.nodup_cons.2 ⟨hy,h.n⟩))).2
theorem sr{d:aj}(h:Rw d.1){c:o8}{x:ae}{v:ai}(hv:aV d.1 c.1=some v)(hx:x∉av d.1):(av (bR d c x).1).Perm (x::av d.1)∧Rw (bR d c x).1:=by
 have Zo:=fY hv
 have Zp:=kb hv
 obtain ⟨rest,h1,h2⟩:=A6 h.s Zo
 have kl:x∉v.2.1:=fun k=>hx (bz.2 ⟨v,Zo,k⟩)
 have e:bR d c x=b6 d v.1 (lB v.2.1 c.2 x):=by
  unfold bR
  rw [←Zp,jD h.s Zo]
 rw [e]
 have p:(av (b6 d v.1 (lB v.2.1 c.2 x)).1).Perm (x::av d.1) :=
  (h2 _).trans ((List.Perm.append_right rest (L8 c.2 kl)).trans (List.Perm.cons x h1.symm))
 exact ⟨p,h.s.re _ _,p.nodup_iff.2 (List.nodup_cons.2 ⟨hx,h.n⟩)⟩
structure GV(v:ai):Prop where
 i:cz v.1=true
 l:qp v.2.2.1=true
 a:mG v.2.2.2=true
 t:cp v.2.1=v.2.1
structure GE(e:ah):Prop where
 i:cz e.1=true
 l:qp e.2.1=true
 a:mG e.2.2=true
structure Wf(d:aj):Prop where
 sv:bV d.1
 se:c5 d.2
 nv:d.1.length≤24
 ne:d.2.length≤40
 gv:∀v∈d.1,GV v
 ge:∀e∈d.2,GE e
 pd:(av d.1).Perm (ends d.2)
theorem Wf.rw{d:aj}(h:Wf d):Rw d.1:=⟨h.sv,h.pd.nodup_iff.2 (ti h.se)⟩
theorem Wf.zero:Wf zS.1:=⟨List.Pairwise.nil,List.Pairwise.nil,by simp [zS],by simp [zS],by simp [zS],by simp [zS],List.Perm.refl _⟩
theorem GV.re{l:List ai}(h:∀v∈l,GV v)(x:ID){r:List ae}(hr:cp r=r):∀v∈l.map (q8 x r),GV v:=fun v hv=>by
 obtain ⟨w,hw,rfl⟩:=List.mem_map.1 hv
 have g:=h w hw
 unfold q8
 split
 ·exact ⟨g.i,g.l,g.a,hr⟩
 ·exact g
theorem jF{d:aj}(h:∀v∈d.1,GV v)(x:ae):∀v∈(aD d x).1,GV v:=GV.re h _ (L7 _ _)
theorem tk{d:aj}(h:∀v∈d.1,GV v)(x y:ae):∀v∈(aF d x y).1,GV v:=GV.re h _ (I8 _ _ _)
theorem xq{d:aj}(h:∀v∈d.1,GV v)(c:o8)(y:ae):∀v∈(bR d c y).1,GV v:=GV.re h _ (L6 _ _ _)
theorem fQ(d:aj)(x:ID)(r:List ae):(b6 d x r).1.length=d.1.length:=by unfold b6;simp
theorem C8:cz zI=false:=by decide
theorem yz{l:List ah}(h:∀e∈l,GE e):cP l zI=l:=by
 unfold cP;rw [List.filter_eq_self];intro e he
 have:=(h e he).i
 simp;intro k;rw [k,C8] at this;cases this
theorem uQ{l:List ai}(h:∀e∈l,GV e):dE l zI=l:=by
 unfold dE;rw [List.filter_eq_self];intro e he
 have:=(h e he).i
 simp;intro k;rw [k,C8] at this;cases this
theorem rm:qp e0=true:=by decide
theorem rp:mG 0=true:=by decide
theorem A7{l:List ah}{x:ID}(h:aW l x=none)(s:Int):(x,s)∉ends l:=fun k=>by
 obtain ⟨e,he,h1,_⟩:=dP.1 k
 unfold aW at h
 rw [List.find?_eq_none] at h
 exact h e he (by simpa using h1)
theorem A8{l:List ah}{x:ID}(h:(aW l x).isSome=true){s:Int}(hs:s=0∨s=1):(x,s)∈ends l:=by
 obtain ⟨e,he⟩:=Option.isSome_iff_exists.1 h
 exact dP.2 ⟨e,C2 he,qv he,hs⟩
end Go.Vs
namespace Go.Vs
open Go.Proofs
theorem PW{o:bY}(h:dG o=0):cz (aY o)=true:=by
 unfold dG at h
 split at h;· cases h
 split at h;· cases h
 split at h;· cases h
 rename_i h3;simpa using h3
theorem A9{o:bY}(h:dG o=0):1≤o.1∧o.1≤8:=by
 unfold dG at h
 split at h;· cases h
 split at h;· cases h
 omega
theorem C9{o:bY}(h:dG o=0)(hk:o.1=5):cz (eE o)=true∧cz (ba o)=true∧0≤oN o∧oN o≤3:=by
 unfold dG at h
 split at h;· cases h
 split at h;· cases h
 split at h;· cases h
 split at h;· cases h
 rw [if_neg (show ¬o.1=3 by omega)] at h
 split at h
 ·assumption
 ·cases h
theorem G3{o:bY}(h:dG o=0)(hk:o.1=8):mG (oN o)=true:=by
 unfold dG at h
 split at h;· cases h
 split at h;· cases h
 split at h;· cases h
 split at h;· cases h
 rw [if_neg (show ¬o.1=3 by omega),if_neg (show ¬o.1=5 by omega),if_neg (show ¬o.1=6 by omega)] at h
 split at h
 ·assumption
 ·cases h
theorem Da{o:bY}(h:dG o=0)(hk:o.1=7):qp (ns o)=true:=by
 unfold dG at h
 split at h;· cases h
 split at h;· cases h
 split at h;· cases h
 split at h;· cases h
 rw [if_neg (show ¬o.1=3 by omega),if_neg (show ¬o.1=5 by omega),if_neg (show ¬o.1=6 by omega),if_neg (show ¬o.1=8 by omega)] at h
 split at h
 ·assumption
 ·cases h
def gj(l:List an):Prop:=l.Pairwise fun a b=>j7 a.1 b.1=true
theorem oK{a b:ae}:lA a b≤0↔a=b∨j7 a b=true:=by
 unfold lA
 by_cases h:a=b
 ·subst h;simp
 ·rw [if_neg h];cases j7 a b<;>simp [h]
theorem Ba{q g:an}:∀{l:List an},q∈kF g l→q=g∨(q∈l∧q.1≠g.1)
 | [],h=>by simp [kF] at h;exact .inl h
 | e::r,h=>by
  unfold kF at h
  split at h
  ·rcases List.mem_cons.1 h with h | h
   ·exact .inl h
   ·unfold mF at h
    rw [List.mem_filter] at h
    exact .inr ⟨h.1,by simpa using h.2⟩
  ·split at h
   ·rename_i bj
    rcases List.mem_cons.1 h with rfl | h
    ·exact .inr ⟨List.mem_cons_self ..,bj⟩
    ·rcases Ba h with h | ⟨h,h2⟩
     ·exact .inl h
     ·exact .inr ⟨List.mem_cons_of_mem _ h,h2⟩
   ·rcases Ba h with h | ⟨h,h2⟩
    ·exact .inl h
    ·exact .inr ⟨List.mem_cons_of_mem _ h,h2⟩
theorem gj.add(g:an):∀{l:List an},gj l→gj (kF g l)
 | [],_=>List.pairwise_singleton _ _
 | e::r,h=>by
  have hr:∀{q:an},q∈r→j7 e.1 q.1=true:=fun {q} hq=>List.rel_of_pairwise_cons h hq
  unfold kF
  split
  ·rename_i ho
   refine List.Pairwise.cons (fun q hq => ?_) (h.filter _)
   unfold mF at hq
   rw [List.mem_filter] at hq
   have bj:q.1≠g.1:=by simpa using hq.2
   have hle:e.1=q.1∨j7 e.1 q.1=true:=by
    rcases List.mem_cons.1 hq.1 with rfl | hq
    ·exact .inl rfl
    ·exact .inr (hr hq)
   rcases oK.1 ho with ho | ho
   ·rcases hle with k | k
    ·exact absurd (ho.trans k).symm bj
    ·rw [ho];exact k
   ·rcases hle with k | k
    ·rw [←k];exact ho
    ·exact fi ho k
  ·rename_i ho
   have HR:j7 e.1 g.1=true:=by
    have h1:¬(g.1=e.1∨j7 g.1 e.1=true):=fun k=>ho (oK.2 k)
    exact wi (by simpa using fun k=>h1 (.inr k)) (fun k=>h1 (.inl k))
   have hs:=gj.add g (List.Pairwise.of_cons h)
   split
   ·refine List.Pairwise.cons (fun q hq => ?_) hs
    rcases Ba hq with rfl | ⟨hq,_⟩
    ·exact HR
    ·exact hr hq
   ·exact hs
theorem oL(e:an)(r:List an)(x:ae):fN (e::r) x=if e.1=x then some e.2 else fN r x:=by
 unfold fN
 rw [List.find?_cons]
 by_cases h:e.1=x
 ·simp [h]
 ·simp [h]
theorem rq{g:an}:∀{l:List an},(∀q∈l,q.1≠g.1)→mF g l=l:=fun {l} h=>by
 unfold mF;rw [List.filter_eq_self];intro q hq;simpa using h q hq
theorem G4(g:an):∀{l:List an},gj l→(kF g l).length=if (fN l g.1).isSome=true then l.length else l.length+1
 | [],_=>rfl
 | e::r,h=>by
  have hr:∀{q:an},q∈r→j7 e.1 q.1=true:=fun {q} hq=>List.rel_of_pairwise_cons h hq
  have ih:=G4 g (List.Pairwise.of_cons h)
  unfold kF
  split
  ·rename_i ho
   rcases oK.1 ho with ho | ho
   ·have h1:mF g (e::r)=r:=by
     have:mF g (e::r)=mF g r:=by unfold mF;rw [List.filter_cons_of_neg (by simp [ho])]
     rw [this]
     exact rq (fun q hq k=>by have:=hr hq;rw [k,ho,dy] at this;cases this)
    rw [h1,oL,if_pos ho.symm];simp
   ·have h2:∀q∈e::r,q.1≠g.1:=fun q hq k=>by
     have:j7 g.1 q.1=true:=by
      rcases List.mem_cons.1 hq with rfl | hq
      ·exact ho
      ·exact fi ho (hr hq)
     rw [k,dy] at this;cases this
    have h3:fN (e::r) g.1=none:=by
     unfold fN
     have:(List.find? (fun q=>decide (q.1=g.1)) (e::r))=none:=by
      rw [List.find?_eq_none];intro q hq;simpa using h2 q hq
     rw [this];rfl
    rw [rq h2,h3];simp
  ·rename_i ho
   have bj:e.1≠g.1:=fun k=>ho (oK.2 (.inl k.symm))
   rw [if_pos bj,oL,if_neg bj]
   simp only [List.length_cons,ih]
   split<;>rfl
theorem jG{l:List an}(h:gj l)(hn:l.length≤400)(g:an):gj (bK l g)∧(bK l g).length≤400:=by
 unfold bK
 split
 ·exact ⟨h,hn⟩
 ·rename_i hc
  refine ⟨gj.add g h,?_⟩
  rw [G4 g h]
  split
  ·exact hn
  ·rename_i h1
   by_cases h2:400≤l.length
   ·exact absurd ⟨by simpa using h1,h2⟩ hc
   ·omega
theorem Db{α:Type}{o:Option α}(h:¬o.isSome=false):o.isSome=true:=by cases o<;>simp_all
structure iF(s:StateT):Prop where
 d:Wf s.1
 g:gj s.2
 n:s.2.length≤400
theorem iF.zero:iF zS:=⟨Wf.zero,List.Pairwise.nil,by simp [zS]⟩
theorem iF.add{l:List an}(h:gj l)(hn:l.length≤400){d:aj}(hd:Wf d)(g:an):iF (d,bK l g):=⟨hd,(jG h hn g).1,(jG h hn g).2⟩
theorem L9{f:ai→ai}(hf:∀v,(f v).2.1=v.2.1)(l:List ai):av (l.map f)=av l:=by
 unfold av;rw [List.flatMap_map];congr 1;funext v;exact hf v
theorem PX{f:ah→ah}(hf:∀v,(f v).1=v.1)(l:List ah):ends (l.map f)=ends l:=by
 unfold ends;rw [List.flatMap_map];congr 1;funext v;rw [hf]
theorem Kv(o:bY)(w:ah):(jz o w).1=w.1:=by unfold jz;split<;>(try split)<;>rfl
theorem Ma(o:bY)(w:ai):(iD o w).2.1=w.2.1:=by unfold iD;split<;>(try split)<;>rfl
theorem Wf.yC{d:aj}(h:Wf d){x:ID}(hx:aW d.2 x=none)(s:Int):(x,s)∉av d.1:=fun k=>A7 hx s (h.pd.mem_iff.1 k)
theorem Wf.mJ{d:aj}(h:Wf d){x:ID}(hx:(aW d.2 x).isSome=true){s:Int}(hs:s=0∨s=1):(x,s)∈av d.1:=h.pd.mem_iff.2 (A8 hx hs)
theorem Wf.vZ{s:StateT}(h:Wf s.1){o:bY}(hm:dG o=0)(hk:7≤o.1):Wf (vZ s o).1.1:=by
 have hk8:=(A9 hm).2
 unfold Vs.vZ
 split
 ·refine ⟨h.sv.map (Kt o),h.se.map (Kv o),by simp;exact h.nv,by simp;exact h.ne,fun v hv => ?_,fun e he => ?_,?_⟩
  ·obtain ⟨w,hw,rfl⟩:=List.mem_map.1 hv
   have g:=h.gv w hw
   unfold iD
   split
   ·split
    ·rename_i h7
     exact ⟨g.i,Da hm h7,g.a,g.t⟩
    ·exact ⟨g.i,g.l,G3 hm (by omega),g.t⟩
   ·exact g
  ·obtain ⟨w,hw,rfl⟩:=List.mem_map.1 he
   have g:=h.ge w hw
   unfold jz
   split
   ·split
    ·rename_i h7
     exact ⟨g.i,Da hm h7,g.a⟩
    ·exact ⟨g.i,g.l,G3 hm (by omega)⟩
   ·exact g
  ·show (av (s.1.1.map (iD o))).Perm (ends (s.1.2.map (jz o)))
   rw [L9 (Ma o),PX (Kv o)];exact h.pd
 ·exact Wf.zero
theorem oM{s:StateT}{c:o8}(h:(aZ s c).2.1=0):(bm s.1 c.1).isSome=true∧(aZ s c).1.1=c.1:=by
 unfold aZ at h ⊢
 cases hv:bm s.1 c.1 with
 | none=>rw [hv] at h;cases h
 | some v=>exact ⟨rfl,rfl⟩
theorem G5{l:List ai}{x y:ID}(r:List ae)(h:(aV l x).isSome=true):(aV (l.map (q8 y r)) x).isSome=true:=by
 rw [nu (qu y r)];simpa using h
theorem Wf.link{d:aj}(h:Wf d){x:ID}(hx:cz x=true)(hn:aW d.2 x=none)(he:¬40≤d.2.length){a b:o8}(ha:(aV d.1 a.1).isSome=true)(hb:(aV d.1 b.1).isSome=true) :
  Wf (bR (bR (d.1,dn (x,(e0,0)) d.2) a (x,0)) b (x,1)):=by
 have hrw:Rw ((d.1,dn (x,(e0,0)) d.2):aj).1:=h.rw
 obtain ⟨va,hva⟩:=Option.isSome_iff_exists.1 ha
 have h0:=h.yC hn 0
 have h1:=h.yC hn 1
 obtain ⟨p1,q1⟩:=sr (c:=a) (x:=(x,0)) hrw hva h0
 obtain ⟨vb,hvb⟩:=Option.isSome_iff_exists.1 (G5 (x:=b.1) (y:=a.1) (lB (bJ (d.1,dn (x,(e0,0)) d.2) a.1) a.2 (x,0)) hb)
 have M1:(x,1)∉av (bR (d.1,dn (x,(e0,0)) d.2) a (x,0)).1:=fun k=>by
  rcases List.mem_cons.1 (p1.mem_iff.1 k) with k | k
  ·cases k
  ·exact h1 k
 obtain ⟨p2,q2⟩:=sr (c:=b) (x:=(x,1)) q1 hvb M1
 refine ⟨q2.s,wh (x,(e0,0)) h.se hn,?_,?_,xq (xq h.gv _ _) _ _,fun e hem => ?_,?_⟩
 ·unfold bR;rw [fQ,fQ];exact h.nv
 ·show (dn (x,(e0,0)) d.2).length≤40
  rw [mf];omega
 ·rcases uO.1 (show e∈dn (x,(e0,0)) d.2 from hem) with rfl | hem
  ·exact ⟨hx,rm,rp⟩
  ·exact h.ge e hem
 ·show (av _).Perm (ends (dn (x,(e0,0)) d.2))
  refine (p2.trans (List.Perm.cons _ p1)).trans (List.Perm.trans ?_ (C7 (x,(e0,0)) d.2).symm)
  exact (List.Perm.swap _ _ _).trans (List.Perm.cons _ (List.Perm.cons _ h.pd))
theorem Wf.cut{d:aj}(h:Wf d){x:ID}(hx:(aW d.2 x).isSome=true):Wf (bw (aD (aD d (x,0)) (x,1)) zI x):=by
 have h0:=h.mJ hx (s:=0) (.inl rfl)
 have h1:=h.mJ hx (s:=1) (.inr rfl)
 obtain ⟨p1,q1⟩:=eV h.rw h0
 have M1:(x,1)∈av (aD d (x,0)).1:=by
  rcases List.mem_cons.1 (p1.mem_iff.1 h1) with k | k
  ·cases k
  ·exact k
 obtain ⟨p2,q2⟩:=eV q1 M1
 have MM:=jF (jF h.gv (x,0)) (x,1)
 have Sh:(bw (aD (aD d (x,0)) (x,1)) zI x).1=(aD (aD d (x,0)) (x,1)).1:=uQ MM
 refine ⟨by rw [Sh];exact q2.s,tf h.se,?_,?_,by rw [Sh];exact MM,fun e he=>h.ge e ?_,?_⟩
 ·rw [Sh];unfold aD;rw [fQ,fQ];exact h.nv
 ·exact Nat.le_trans (List.length_filter_le _ _) h.ne
 ·exact (List.mem_filter.1 (show e∈d.2.filter fun w=>decide (w.1≠x) from he)).1
 ·rw [Sh]
  show (av (aD (aD d (x,0)) (x,1)).1).Perm (ends (cP d.2 x))
  have p3:((x,0)::(x,1)::av (aD (aD d (x,0)) (x,1)).1).Perm ((x,0)::(x,1)::ends (cP d.2 x)) :=
   ((p1.trans (List.Perm.cons _ p2)).symm.trans h.pd).trans (A4 h.se hx)
  exact p3.cons_inv.cons_inv
theorem rr{x:ae}(h:x.2=0∨x.2=1):(au x).1=x.1∧((x.2=0∧(au x).2=1)∨(x.2=1∧(au x).2=0)):=by
 refine ⟨rfl,?_⟩
 unfold au
 rcases h with h | h
 ·exact .inl ⟨h,by rw [h];rfl⟩
 ·exact .inr ⟨h,by rw [h];rfl⟩
theorem G6{x:ae}(h:x.2=0∨x.2=1)(l:List ae):(x::au x::l).Perm ((x.1,0)::(x.1,1)::l):=by
 obtain ⟨h1,h2⟩:=rr h
 have e:x=(x.1,x.2):=rfl
 have e2:au x=(x.1,(au x).2):=rfl
 rcases h2 with ⟨ha,hb⟩ | ⟨ha,hb⟩
 ·rw [ha] at e;rw [hb] at e2;rw [e2,e]
 ·rw [ha] at e;rw [hb] at e2;rw [e2,e];exact List.Perm.swap _ _ _
theorem G7{n:Int}(h0:0≤n)(h3:n≤3):(IntKind.wrap .i64 (1 - Int.tmod n 2)=0∨IntKind.wrap .i64 (1 - Int.tmod n 2)=1)∧(IntKind.wrap .i64 (Int.tdiv n 2)=0∨IntKind.wrap .i64 (Int.tdiv n 2)=1):=by
 have:n=0∨n=1∨n=2∨n=3:=by omega
 rcases this with rfl | rfl | rfl | rfl<;>exact ⟨by decide,by decide⟩
theorem Wf.split{d:aj}(h:Wf d){m k:ae}{v:ID}(hv:cz v=true)(hk:cz k.1=true)(Q0:m.2=0∨m.2=1)(nK:k.2=0∨k.2=1)(hm:(aW d.2 m.1).isSome=true)(Rk:aV d.1 v=none)(hnk:aW d.2 k.1=none)
  (MK:¬24≤d.1.length) (hle:¬40≤d.2.length):Wf (dW (v,(cp [m,k],(e0,0))) (aF d m (au k)).1,dn (k.1,(e0,0)) (aF d m (au k)).2):=by
 have hmd:m∈av d.1:=h.mJ hm Q0
 have HQ:au k∉av d.1:=h.yC hnk _
 obtain ⟨p1,q1⟩:=oJ h.rw hmd HQ
 have Si:aV (aF d m (au k)).1 v=none:=by
  unfold aF Vs.b6
  rw [nu (qu _ _),Rk];rfl
 refine ⟨nt (v,(cp [m,k],(e0,0))) q1.s Si,wh (k.1,(e0,0)) h.se hnk,?_,?_,fun w hw => ?_,fun e he => ?_,?_⟩
 ·show (dW _ (aF d m (au k)).1).length≤24
  rw [iz];unfold aF;rw [fQ];omega
 ·show (dn _ d.2).length≤40
  rw [mf];omega
 ·rcases qq.1 hw with rfl | hw
  ·exact ⟨hv,rm,rp,rk _⟩
  ·exact tk h.gv _ _ w hw
 ·rcases uO.1 (show e∈dn (k.1,(e0,0)) d.2 from he) with rfl | he
  ·exact ⟨hk,rm,rp⟩
  ·exact h.ge e he
 ·show (av (dW _ _)).Perm (ends (dn (k.1,(e0,0)) d.2))
  refine (A3 _ _).trans (List.Perm.trans ?_ (C7 (k.1,(e0,0)) d.2).symm)
  refine (List.Perm.append_right _ (nC [m,k])).trans ?_
  show (m::k::av (aF d m (au k)).1).Perm _
  refine (List.Perm.swap k m _).trans ((List.Perm.cons k p1.symm).trans ?_)
  refine (G6 nK _).trans ?_
  exact List.Perm.cons _ (List.Perm.cons _ h.pd)
theorem Wf.Vj{d:aj}(h:Wf d){v:ai}(hv:v∈d.1)(hr:v.2.1=[]):Wf (bw d v.1 zI):=by
 obtain ⟨a,b,h1,_,h2,_⟩:=tj h.sv hv
 refine ⟨oH h.sv,?_,Nat.le_trans (List.length_filter_le _ _) h.nv,Nat.le_trans (List.length_filter_le _ _) h.ne,fun w hw=>h.gv w ?_,fun e he=>h.ge e ?_,?_⟩
 ·exact tf h.se
 ·exact (List.mem_filter.1 (show w∈d.1.filter fun w=>decide (w.1≠v.1) from hw)).1
 ·exact (List.mem_filter.1 (show e∈d.2.filter fun w=>decide (w.1≠zI) from he)).1
 ·show (av (dE d.1 v.1)).Perm (ends (cP d.2 zI))
  rw [h2,yz h.ge]
  have p:=jB a b v
  rw [←h1,hr,List.nil_append] at p
  exact p.symm.trans h.pd
theorem Wf.Vk{d:aj}(h:Wf d){v:ai}{a b:ae}(hv:v∈d.1)(hr:v.2.1.Perm [a,b])(r9:a.1≠b.1):Wf (bw (aF (bw d v.1 zI) (au b) a) zI b.1):=by
 obtain ⟨p,q,h1,_,h2,_⟩:=tj h.sv hv
 have pd:(av d.1).Perm (a::b::av (p++q)):=by
  have:=(jB p q v).trans (List.Perm.append_right _ hr)
  rw [←h1] at this;exact this
 have Mb:bw d v.1 zI=(p++q,d.2):=by unfold bw;rw [h2,yz h.ge]
 have EZ:=pd.nodup_iff.1 h.rw.n
 have hbm:b∈ends d.2:=h.pd.mem_iff.1 (pd.mem_iff.2 (by simp))
 obtain ⟨e,he,Xh,xX⟩:=dP.1 hbm
 have yg:(aW d.2 b.1).isSome=true:=by
  unfold aW;rw [List.find?_isSome];exact ⟨e,he,by simpa using Xh⟩
 obtain ⟨_,ho⟩:=rr xX
 have Vl:au b∈av (p++q):=by
  have h3:au b∈av d.1:=h.mJ (s:=(au b).2) yg (by rcases ho with ⟨_,k⟩ | ⟨_,k⟩<;>omega)
  rcases List.mem_cons.1 (pd.mem_iff.1 h3) with k | k
  ·exact absurd (congrArg Prod.fst k) (fun k=>r9 k.symm)
  rcases List.mem_cons.1 k with k | k
  ·have:=congrArg Prod.snd k;omega
  ·exact k
 have Sj:Rw (p++q):=by
  refine ⟨?_,(List.nodup_cons.1 (List.nodup_cons.1 EZ).2).2⟩
  rw [←h2];exact oH h.sv
 have ha:a∉av (p++q):=fun k=>(List.nodup_cons.1 EZ).1 (List.mem_cons_of_mem _ k)
 rw [Mb]
 obtain ⟨p1,q1⟩:=oJ (d:=(p++q,d.2)) Sj Vl ha
 have MM:∀w∈(aF (p++q,d.2) (au b) a).1,GV w:=by
  refine tk (d:=(p++q,d.2)) (fun w hw=>h.gv w ?_) _ _
  rw [h1]
  rcases List.mem_append.1 hw with k | k
  ·exact List.mem_append_left _ k
  ·exact List.mem_append_right _ (List.mem_cons_of_mem _ k)
 have Sh:(bw (aF (p++q,d.2) (au b) a) zI b.1).1=(aF (p++q,d.2) (au b) a).1:=uQ MM
 refine ⟨by rw [Sh];exact q1.s,tf h.se,?_,Nat.le_trans (List.length_filter_le _ _) h.ne,by rw [Sh];exact MM,fun f hf=>h.ge f ?_,?_⟩
 ·rw [Sh];unfold aF;rw [fQ]
  have:=h.nv
  rw [h1] at this
  simp at this ⊢;omega
 ·exact (List.mem_filter.1 (show f∈d.2.filter fun w=>decide (w.1≠b.1) from hf)).1
 ·rw [Sh]
  show (av (aF (p++q,d.2) (au b) a).1).Perm (ends (cP d.2 b.1))
  have p3:(b::au b::av (aF (p++q,d.2) (au b) a).1).Perm (b::au b::ends (cP d.2 b.1)):=by
   refine List.Perm.trans (List.Perm.cons b p1.symm) ?_
   refine (List.Perm.swap a b _).trans (pd.symm.trans (h.pd.trans ?_))
   exact (A4 h.se yg).trans (G6 xX _).symm
  exact p3.cons_inv.cons_inv
theorem iF.one{s:StateT}(h:iF s)(o:bY):iF (rF s o).1:=by
 unfold rF
 split
 ·exact iF.zero
 rename_i hm
 have hm:dG o=0:=Classical.byContradiction fun k=>hm k
 have bO:=PW hm
 split
 ·unfold sj
  split;· exact iF.zero
  split;· exact iF.zero
  rename_i h1 h2
  have hn:aV s.1.1 (aY o)=none:=by simpa [bm] using h1
  refine ⟨⟨nt _ h.d.sv hn,h.d.se,by show (dW _ s.1.1).length≤24;rw [iz];omega,h.d.ne,fun w hw => ?_,h.d.ge,?_⟩,h.g,h.n⟩
  ·rcases qq.1 hw with rfl | hw
   ·exact ⟨bO,rm,rp,rfl⟩
   ·exact h.d.gv w hw
  ·exact (A3 _ _).trans h.d.pd
 split
 ·unfold xm
  cases hv:bm s.1 (aY o) with
  | none=>exact iF.zero
  | some v =>
   simp only
   split
   ·exact iF.zero
   ·rename_i hr
    have:=h.d.Vj (fY hv) (by simpa using hr)
    rw [kb hv] at this
    exact ⟨this,h.g,h.n⟩
 split
 ·unfold qt
  split;· exact iF.zero
  split;· exact iF.zero
  split;· exact iF.zero
  split;· exact iF.zero
  split;· exact iF.zero
  rename_i h1 h2 h3 h4 h5
  have hn:aW s.1.2 (aY o)=none:=by simpa [gq] using h1
  obtain ⟨ca,ca2⟩:=oM (s:=s) (c:=oA o) (Classical.byContradiction fun k=>h3 k)
  obtain ⟨cb,cb2⟩:=oM (s:=s) (c:=oB o) (Classical.byContradiction fun k=>h4 k)
  refine ⟨?_,h.g,h.n⟩
  unfold kt
  refine h.d.link bO hn h2 (by rw [ca2];exact ca) ?_
  split
  ·exact cb
  ·rw [cb2];exact cb
 split
 ·unfold EF
  split;· exact iF.zero
  rename_i h1
  have h2:=jG h.g h.n ((aY o,0),c6 s.1 (aY o,0))
  exact iF.add h2.1 h2.2 (h.d.cut (Db h1)) _
 split
 ·rename_i hk
  unfold lD
  split;· exact iF.zero
  split;· exact iF.zero
  split;· exact iF.zero
  split;· exact iF.zero
  split;· exact iF.zero
  rename_i h1 h2 h3 h4 h5
  obtain ⟨m1,m2,m3,m4⟩:=C9 hm hk
  obtain ⟨s1,s2⟩:=G7 m3 m4
  refine ⟨?_,h.g,h.n⟩
  exact h.d.split (m:=HS o) (k:=E0 o) m1 m2 s1 s2 (Db h1) (by simpa [bm] using h2) (by simpa [gq,E0] using h3) h4 h5
 split
 ·unfold kG
  split
  ·exact iF.zero
  ·rename_i v hv
   split
   ·rename_i r0 r1 hr
    have Zo:=fY hv
    have Zp:=kb hv
    have key:∀a b:ae,v.2.1.Perm [a,b]→a.1≠b.1→iF (I4 s o a b,GU s.2 a b):=fun a b hp r9=>by
     have h2:=jG h.g h.n ((b.1,0),pn a b 0)
     have:=h.d.Vk Zo hp r9
     rw [Zp] at this
     exact iF.add h2.1 h2.2 this _
    unfold jN
    split;· exact iF.zero
    rename_i bj
    split
    ·exact key r1 r0 (by rw [hr];exact List.Perm.swap _ _ _) (fun k=>bj k.symm)
    split
    ·exact key r0 r1 (by rw [hr]) bj
    ·exact iF.zero
   ·exact iF.zero
 ·rename_i k1 k2 k3 k4 k5 k6
  have hk:=A9 hm
  have:=h.d.vZ hm (by omega)
  refine ⟨this,?_,?_⟩
  ·unfold vZ;split
   ·exact h.g
   ·exact List.Pairwise.nil
  ·unfold vZ;split
   ·exact h.n
   ·simp [zS]
theorem iF.go:∀(l:List bY) {s:StateT},iF s→iF (TJ l s).1
 | [],s,h=>h
 | o::r,s,h=>by
  unfold TJ
  split
  ·exact iF.zero
  ·exact iF.go r (h.one o)
theorem iF.apply{s:StateT}(h:iF s)(l:List bY):iF (v7 s l).1:=by
 unfold v7
 split
 ·exact iF.zero
 ·exact iF.go l h
theorem iF.try{s:StateT}(h:iF s)(l:List bY):iF (GW s l):=by
 unfold GW
 split
 ·exact h
 ·exact h.apply l
theorem iF.reach:∀(m:Nat) (l:List (List bY)) {s:StateT},iF s→iF (lE m l s)
 | 0,_,s,h=>by simpa [lE] using h
 | m+1,[],s,h=>h
 | m+1,l::r,s,h=>by rw [lE];exact iF.reach m r (h.try _)
theorem iF.Kp(l:List (List bY)):iF (AX l):=iF.reach 30 l iF.zero
end Go.Vs
