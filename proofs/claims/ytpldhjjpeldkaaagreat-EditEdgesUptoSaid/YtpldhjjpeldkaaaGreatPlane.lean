/- Whatever is done, the diagram stays in the plane. -/
import Derived.Test.YtpldhjjpeldkaaaGreatSplits
import Derived.Test.YtpldhjjpeldkaaaGreatEuler
set_option linter.unusedVariables false
set_option linter.unusedSimpArgs false
namespace Go.Vs
open Go.Proofs Go.Cy
variable {G:(f:FuncId)→(g:aL)→Option (g.A→Option g.B)}
structure Lone(d:ai)(v:ag):Prop where
 w:Wf d
 m:v∈d.1
 r:v.2.1=[]
theorem Lone.split{d:ai}{v:ag}(h:Lone d v):∃a b,d.1=a++v::b∧(aJ d v.1 zI)=(a++b,d.2)∧ak (a++b) ⊆ ak d.1∧(ak d.1).Perm (ak (a++b)):=by
 obtain⟨a,b,h1,_,h2,_⟩:=mH h.w.sv h.m
 have p:(ak d.1).Perm (ak (a++b)):=by
  have:=g6 a b v
  rw[←h1,h.r,List.nil_append]at this;exact this
 exact⟨a,b,h1,by unfold aJ;rw[h2,qb h.w.ge],fun x hx=>p.mem_iff.2 hx,p⟩
theorem Lone.wf{d:ai}{v:ag}(h:Lone d v):Wf (aJ d v.1 zI):=h.w.Rz h.m h.r
theorem Lone.mem{d:ai}{v:ag}(h:Lone d v){u:ag}:u∈(aJ d v.1 zI).1↔u∈d.1∧u.1≠v.1:=by
 show u∈cT d.1 v.1↔_
 unfold cT
 rw[List.mem_filter];simp
theorem Lone.Sw{d:ai}{v:ag}(h:Lone d v):(ak (aJ d v.1 zI).1).Perm (ak d.1):=by
 obtain⟨a,b,_,h2,_,h3⟩:=h.split
 rw[h2];exact h3.symm
theorem Lone.Sx{d:ai}{v:ag}(h:Lone d v){u:ag}{z:ab}(hu:u∈d.1)(hz:z∈u.2.1):u∈(aJ d v.1 zI).1:=by
 refine h.mem.2 ⟨hu,fun k=>?_⟩
 rw[wq h.w.sv h.m hu k,h.r]at hz;simp at hz
theorem Lone.at{d:ai}{v:ag}(h:Lone d v){z:ab}(hz:z∈ak d.1):bY (aJ d v.1 zI) z=bY d z:=by
 obtain⟨u,hu,DG⟩:=aG.1 hz
 show C7 (aJ d v.1 zI).1 z=C7 d.1 z
 rw[cQ h.w.rw hu DG,cQ h.wf.rw (h.Sx hu DG) DG]
theorem Lone.Ut{d:ai}{v:ag}(h:Lone d v){a b:ID}:zh (aJ d v.1 zI) a b↔zh d a b:=by
 constructor
 ·rintro⟨z,hz,h1,h2⟩
  have hz:=h.Sw.mem_iff.1 hz
  exact⟨z,hz,by rw[←h.at hz];exact h1,by rw[←h.at (h.w.other hz)];exact h2⟩
 ·rintro⟨z,hz,h1,h2⟩
  exact⟨z,h.Sw.mem_iff.2 hz,by rw[h.at hz];exact h1,by rw[h.at (h.w.other hz)];exact h2⟩
theorem Lone.conn{d:ai}{v:ag}(h:Lone d v){a b:ID}:cr (aJ d v.1 zI) a b↔cr d a b:=by
 constructor
 ·intro k
  induction k with
  |refl=>exact .refl _
  |tail _ j ih=>exact ih.tail (h.Ut.1 j)
 ·intro k
  induction k with
  |refl=>exact .refl _
  |tail _ j ih=>exact ih.tail (h.Ut.2 j)
theorem Lone.alone{d:ai}{v:ag}(h:Lone d v){b:ID}(k:cr d v.1 b):b=v.1:=by
 have key:∀{a b:ID},cr d a b→a=v.1→b=v.1:=fun {a b} k ha=>by
  induction k with
  |refl=>exact ha
  |tail _ j ih =>
   obtain⟨z,hz,h1,_⟩:=j
   obtain⟨u,hu,DG,vp⟩:=rQ h.w hz
   rw[vp,ih]at h1
   have:=Option.some.inj h1
   rw[wq h.w.sv h.m hu this,h.r]at DG;simp at DG
 exact key k rfl
theorem Lone.zG{d:ai}{v:ag}(h:Lone d v){R:List ID}(hr:nT d R):∃R2,nT (aJ d v.1 zI) R2∧R2.length+1=R.length:=by
 obtain⟨r,Cj,hvr⟩:=hr.c v h.m
 have hv:v.1∈R:=by rw[←h.alone hvr];exact Cj
 refine⟨R.erase v.1,⟨hr.n.erase _,fun s hs=>?_,fun s hs t ht k=>hr.i s (List.mem_of_mem_erase hs) t (List.mem_of_mem_erase ht) (h.conn.1 k),fun u hu=>?_⟩,?_⟩
 ·obtain⟨u,hu,he⟩:=hr.v s (List.mem_of_mem_erase hs)
  refine⟨u,h.mem.2 ⟨hu,fun k=>?_⟩,he⟩
  have:s=v.1:=he.symm.trans k
  subst this
  exact absurd hs (List.Nodup.not_mem_erase hr.n)
 ·obtain⟨hu1,hu2⟩:=h.mem.1 hu
  obtain⟨s,hs,G1⟩:=hr.c u hu1
  refine⟨s,(List.mem_erase_of_ne fun k=>?_).2 hs,h.conn.2 G1⟩
  subst k
  exact hu2 (h.alone (G1.symm h.w))
 ·rw[List.length_erase_of_mem hv]
  have:=List.length_pos_of_mem hv;omega
theorem Lone.ph{d:ai}{v:ag}(h:Lone d v){z:ab}(hz:z∈ak d.1):ph (aJ d v.1 zI) z=ph d z:=by
 rw[ig hz,ig (h.Sw.mem_iff.2 hz)]
 obtain⟨u,hu,DG⟩:=aG.1 (h.w.other hz)
 rw[eY h.w.rw hu DG,eY h.wf.rw (h.Sx hu DG) DG]
theorem Lone.bU{d:ai}{v:ag}(h:Lone d v):(Vs.bU (aJ d v.1 zI)).length=(Vs.bU d).length:=by
 have a:=bE h.wf
 have b:=bE h.w
 refine EE.count h.w.rw.n ⟨fun c hc=>?_,a.p.trans h.Sw⟩ b
 refine(a.c c hc).congr fun z hz=>?_
 have:z∈ak (aJ d v.1 zI).1:=a.p.mem_iff.1 (List.mem_flatten.2 ⟨c,hc,hz⟩)
 exact(h.ph (h.Sw.mem_iff.1 this)).symm
theorem CZ{d:ai}(hw:Wf d){R:List ID}(hr:nT d R):fj d=(R.length:Int):=by
 rw[s5 hw,(la hw (dU hw)).len hw hr]
structure wD(d:ai)(v:ag)(y:ab):Prop where
 w:Wf d
 m:v∈d.1
 r:v.2.1=[y]
theorem wD.mem{d:ai}{v:ag}{y:ab}(h:wD d v y):y∈ak d.1:=aG.2 ⟨v,h.m,by rw[h.r];simp⟩
theorem wD.cut{d:ai}{v:ag}{y:ab}(h:wD d v y):bV d y.1:=by
 obtain⟨e,he,h1,_⟩:=eQ.1 (h.w.pd.mem_iff.1 h.mem)
 exact⟨h.w,by unfold aU;rw[List.find?_isSome];exact⟨e,he,by simpa using h1⟩⟩
theorem wD.lone{d:ai}{v:ag}{y:ab}(h:wD d v y):∃u,Lone (bW d y.1) u∧u.1=v.1:=by
 obtain⟨u,hu,bT⟩:=h.cut.KI.2 ⟨v,h.m,rfl⟩
 refine⟨u,⟨h.cut.w,hu,?_⟩,bT⟩
 cases hq:u.2.1 with
 |nil=>rfl
 |cons z r =>
  exfalso
  have hz:z∈u.2.1:=by rw[hq];simp
  have hzd:z∈ak (bW d y.1).1:=aG.2 ⟨u,hu,hz⟩
  have h1:bY (bW d y.1) z=some u.1:=cQ h.cut.w.rw hu hz
  rw[h.cut.at hzd,bT]at h1
  obtain⟨w,hw,GB,vp⟩:=rQ h.w (h.cut.sub hzd)
  rw[vp]at h1
  have hwv:=wq h.w.sv h.m hw (Option.some.inj h1)
  rw[hwv,h.r]at GB
  have Mu:z=y:=by simpa using GB
  have nd:=h.cut.p.nodup_iff.1 h.w.rw.n
  have e:y=(y.1,y.2):=rfl
  rcases h.w.side h.mem with k|k
  ·rw[k]at e
   exact(List.nodup_cons.1 nd).1 (List.mem_cons_of_mem _ (e▸Mu▸hzd))
  ·rw[k]at e
   exact(List.nodup_cons.1 (List.nodup_cons.1 nd).2).1 (e▸Mu▸hzd)
theorem wD.back{d:ai}{v:ag}{y:ab}(h:wD d v y):ph d (af y)=y:=by
 rw[ig (h.w.other h.mem),bN (h.w.side h.mem)]
 have hy:y∈v.2.1:=by rw[h.r];simp
 rw[eY h.w.rw h.m hy]
 exact(EJ (h.w.rw.ring h.m) hy).2 (by rw[h.r];rfl)
theorem wD.one{d:ai}{v:ag}{y:ab}(h:wD d v y):Gb d (y.1,0) (y.1,1):=by
 have hm:af y∈(bU d).flatten:=(bE h.w).p.mem_iff.2 (h.w.other h.mem)
 obtain⟨c,hc,h1⟩:=List.mem_flatten.1 hm
 have h2:=((bE h.w).c c hc).step h1
 rw[h.back]at h2
 have e:y=(y.1,y.2):=rfl
 have eo:af y=(y.1,(af y).2):=rfl
 obtain⟨_,k⟩:=g9 (h.w.side h.mem)
 rcases k with⟨k1,k2⟩|⟨k1,k2⟩
 ·rw[k1]at e;rw[k2]at eo
  exact⟨c,hc,e▸h2,eo▸h1⟩
 ·rw[k1]at e;rw[k2]at eo
  exact⟨c,hc,eo▸h1,e▸h2⟩
theorem wD.bU{d:ai}{v:ag}{y:ab}(h:wD d v y):(Vs.bU (bW d y.1)).length≤(Vs.bU d).length:=by
 have h1:=(h.cut.same h.one).2
 have hb:=h.back
 have e:y=(y.1,y.2):=rfl
 have eo:af y=(y.1,(af y).2):=rfl
 obtain⟨_,k⟩:=g9 (h.w.side h.mem)
 rcases k with⟨k1,k2⟩|⟨k1,k2⟩
 ·rw[k1]at e;rw[k2]at eo
  have:ph d (y.1,1)=(y.1,0):=by rw[←eo,hb];exact e
  rw[if_pos this]at h1
  split at h1<;>omega
 ·rw[k1]at e;rw[k2]at eo
  have:ph d (y.1,0)=(y.1,1):=by rw[←eo,hb];exact e
  rw[if_pos this]at h1
  split at h1<;>omega
theorem wD.parts{d:ai}{v:ag}{y:ab}(h:wD d v y){u:ag}(hu:Lone (bW d y.1) u)(bT:u.1=v.1):fj (aJ (bW d y.1) v.1 zI)=fj d:=by
 obtain⟨a,b,ha,hb,_,_⟩:=h.cut.Gd
 have hr:=la h.w (dU h.w)
 have Tb:bY d y=some v.1:=cQ h.w.rw h.m (by rw[h.r];simp)
 have SZ:bY d (af y)≠some v.1:=fun k=>by
  obtain⟨w,hw,GB,vp⟩:=rQ h.w (h.w.other h.mem)
  rw[vp]at k
  rw[wq h.w.sv h.m hw (Option.some.inj k),h.r]at GB
  have GB:af y=y:=by simpa using GB
  obtain⟨_,m⟩:=g9 (h.w.side h.mem)
  rw[GB]at m;omega
 have bp:a≠b∧(a=v.1∨b=v.1):=by
  have e:y=(y.1,y.2):=rfl
  have eo:af y=(y.1,(af y).2):=rfl
  obtain⟨_,k⟩:=g9 (h.w.side h.mem)
  rcases k with⟨k1,k2⟩|⟨k1,k2⟩
  ·rw[k1]at e;rw[k2]at eo
   rw[e,ha]at Tb
   rw[eo,hb]at SZ
   have:=Option.some.inj Tb
   exact⟨fun k=>SZ (by rw[←k,this]),.inl this⟩
  ·rw[k1]at e;rw[k2]at eo
   rw[e,hb]at Tb
   rw[eo,ha]at SZ
   have:=Option.some.inj Tb
   exact⟨fun k=>SZ (by rw[k,this]),.inr this⟩
 have Dd:¬cr (bW d y.1) a b:=fun k=>by
  rcases bp.2 with m|m
  ·rw[m,←bT]at k
   exact bp.1 (m.trans (bT▸hu.alone k).symm)
  ·rw[m,←bT]at k
   exact bp.1 ((bT▸hu.alone (k.symm h.cut.w):a=v.1).trans m.symm)
 obtain⟨R2,h2,h3⟩:=h.cut.L9 ha hb Dd hr
 obtain⟨R3,h4,h5⟩:=hu.zG h2
 rw[bT]at h4
 have hwf:=hu.wf
 rw[bT]at hwf
 rw[CZ hwf h4,CZ h.w hr]
 omega
theorem UY{k:Int}{x:ID}(hk:k=1∨k=2∨k=4)(hx:cZ x=true):c5 (C8 k x)=0:=by
 unfold c5
 have e:wc (rG (C8 k x)) Ug=true:=by
  rcases hk with rfl|rfl|rfl<;>exact(rH _ _).2 rfl
 have h1:(C8 k x).1=k:=rfl
 rw[if_neg (by rw[h1];omega),if_neg (by rw[h1];omega),if_neg (by simp[C8,hx]),if_neg (by rw[e];simp),if_neg (by rw[h1];omega),if_neg (by rw[h1];omega),if_neg (by rw[h1];omega),if_neg (by rw[h1];omega),if_neg (by rw[h1];omega)]
theorem acJ(k:Int)(x:ID):Fit (C8 k x):=⟨Uo,Uo,Uo,by show e0.size≤_;simp[e0,ByteArray.size]⟩
end Go.Vs
namespace Go.Vs
open Go.Proofs Go.Cy
theorem oU{d:ai}(hw:Wf d):∃R,nT d R:=⟨_,la hw (dU hw)⟩
theorem eR{d:ai}(hw:Wf d){R:List ID}(hr:nT d R):bB d=0↔d.1.length+ft d=2*R.length+d.2.length:=by
 obtain⟨k,h1,h2⟩:=CJ hw hr
 rw[h1]
 constructor
 ·intro h;omega
 ·intro h;omega
theorem kx{d:ai}(hw:Wf d):(ak d.1).length=2*d.2.length:=by
 have:=hw.pd.length_eq
 rw[zg]at this
 omega
theorem Sy{d':ai}{x:ID}(h:bV d' x)(hg:bB d'=0):bB (bW d' x)=0:=by
 obtain⟨u,w,hu,hw,_,_⟩:=h.Gd
 obtain⟨R,hr⟩:=oU h.wf
 have k:=(eR h.wf hr).1 hg
 have hv:(bW d' x).1.length=d'.1.length:=by have:=congrArg List.length h.ids;simpa using this
 have he:(bW d' x).2.length+1=d'.2.length:=by
  have h1:=kx h.wf
  have h2:=kx h.w
  have h3:=h.p.length_eq
  simp at h3;omega
 by_cases hc:cr (bW d' x) u w
 ·have C6:=h.zG hu hw hc hr
  by_cases ho:Gb d' (x,0) (x,1)
  ·have h1:=(h.same ho).1
   obtain⟨j,_,h2⟩:=CJ h.w C6
   omega
  ·have h1:=h.diff ho
   rw[eR h.w C6];omega
 ·obtain⟨R2,C6,hl⟩:=h.L9 hu hw hc hr
  have ho:Gb d' (x,0) (x,1):=Classical.byContradiction fun ho=>hc (h.xW hu hw ho)
  have h1:=(h.same ho).1
  rw[eR h.w C6];omega
theorem Gq(a b:List ag):al (a++b)=al a+al b:=List.countP_append
theorem ES{d:ai}{v:ag}(h:Lone d v):bB d=0↔bB (aJ d v.1 zI)=0:=by
 obtain⟨R,hr⟩:=oU h.w
 obtain⟨R2,C6,hl⟩:=h.zG hr
 rw[eR h.w hr,eR h.wf C6]
 obtain⟨a,b,k1,k2,_,_⟩:=h.split
 have hf:=h.bU
 have e1:d.1.length=(aJ d v.1 zI).1.length+1:=by rw[k1,k2];simp;omega
 have e2:(aJ d v.1 zI).2.length=d.2.length:=by rw[k2]
 have e3:al d.1=al (aJ d v.1 zI).1+1:=by
  rw[k1,k2]
  show al (a++v::b)=al (a++b)+1
  rw[Gq,Gq]
  have:al (v::b)=al b+1:=by unfold al;rw[List.countP_cons,h.r];rfl
  omega
 have f1:ft d=(bU d).length+al d.1:=rfl
 have f2:ft (aJ d v.1 zI)=(bU (aJ d v.1 zI)).length+al (aJ d v.1 zI).1:=rfl
 omega
theorem Oi{d:ai}(hw:Wf d){x:ID}(hx:aQ d.1 x=none)(Kj:Wf (cX (x,([],(e0,0))) d.1,d.2))(hg:bB d=0):bB (cX (x,([],(e0,0))) d.1,d.2)=0:=by
 have hl:Lone (cX (x,([],(e0,0))) d.1,d.2) (x,([],(e0,0))):=⟨Kj,mD.2 (.inl rfl),rfl⟩
 rw[ES hl]
 have e:aJ (cX (x,([],(e0,0))) d.1,d.2) x zI=d:=by
  have h1:=Cm (x,([],(e0,0))) (l:=d.1) hx
  have h2:=qb hw.ge
  unfold aJ
  show(cT (cX (x,([],(e0,0))) d.1) x,cE d.2 zI)=d
  rw[h2]
  exact congrArg (fun l:List ag=>((l,d.2):ai)) h1
 show bB (aJ (cX (x,([],(e0,0))) d.1,d.2) x zI)=0
 rw[e];exact hg
structure ju(f:ag→ag)(g:ah→ah):Prop where
 i:∀v,(f v).1=v.1
 r:∀v,(f v).2.1=v.2.1
 e:∀a,(g a).1=a.1
variable {f:ag→ag} {g:ah→ah}
theorem ju.ak(k:ju f g)(l:List ag):Vs.ak (l.map f)=Vs.ak l:=by
 unfold Vs.ak
 rw[List.flatMap_map]
 congr 1
 funext v;exact k.r v
theorem ju.at(k:ju f g)(l:List ag)(x:ab):C7 (l.map f) x=C7 l x:=by
 unfold C7
 rw[List.find?_map]
 have:((fun v:ag=>decide (x∈v.2.1)) ∘ f)=fun v:ag=>decide (x∈v.2.1):=by
  funext v;show decide (x∈(f v).2.1)=_;rw[k.r]
 rw[this,Option.map_map]
 congr 1
 funext v;exact k.i v
theorem ju.find(k:ju f g)(l:List ag)(x:ID):aQ (l.map f) x=(aQ l x).map f:=by
 unfold aQ
 rw[List.find?_map]
 have:((fun v:ag=>decide (v.1=x)) ∘ f)=fun v:ag=>decide (v.1=x):=by
  funext v;show decide ((f v).1=x)=_;rw[k.i]
 rw[this]
theorem ju.al(k:ju f g)(l:List ag):Vs.al (l.map f)=Vs.al l:=by
 unfold Vs.al
 rw[List.countP_map]
 congr 1
 funext v;show(f v).2.1.isEmpty=_;rw[k.r]
theorem ju.jW(k:ju f g)(d:ai)(x:ab):Vs.jW (d.1.map f,d.2.map g) x=Vs.jW d x:=by
 unfold Vs.jW
 have h1:bY (d.1.map f,d.2.map g) x=bY d x:=k.at d.1 x
 rw[h1]
 cases bY d x with
 |none=>rfl
 |some a =>
  have h2:bA (d.1.map f,d.2.map g) a=bA d a:=by
   unfold bA bg
   show((aQ (d.1.map f) a).getD zV).2.1=_
   rw[k.find]
   cases aQ d.1 a with
   |none=>rfl
   |some v=>exact k.r v
  show dd (bA (d.1.map f,d.2.map g) a) x 1=_
  rw[h2]
theorem ju.ph(k:ju f g)(d:ai)(x:ab):Vs.ph (d.1.map f,d.2.map g) x=Vs.ph d x:=by
 unfold Vs.ph Gy
 have h1:bY (d.1.map f,d.2.map g) x=bY d x:=k.at d.1 x
 rw[h1,k.jW]
theorem ju.Ut(k:ju f g)(d:ai){a b:ID}:zh (d.1.map f,d.2.map g) a b↔zh d a b:=by
 unfold zh
 have h:∀z,bY (d.1.map f,d.2.map g) z=bY d z:=fun z=>k.at d.1 z
 have hd:Vs.ak (d.1.map f)=Vs.ak d.1:=k.ak d.1
 constructor
 ·rintro⟨z,h1,h2,h3⟩
  exact⟨z,hd▸h1,(h z).symm.trans h2,(h _).symm.trans h3⟩
 ·rintro⟨z,h1,h2,h3⟩
  exact⟨z,hd.symm▸h1,(h z).trans h2,(h _).trans h3⟩
theorem ju.conn(k:ju f g)(d:ai){a b:ID}:cr (d.1.map f,d.2.map g) a b↔cr d a b:=by
 constructor
 ·intro h
  induction h with
  |refl=>exact .refl _
  |tail _ j ih=>exact ih.tail ((k.Ut d).1 j)
 ·intro h
  induction h with
  |refl=>exact .refl _
  |tail _ j ih=>exact ih.tail ((k.Ut d).2 j)
theorem ju.zG(k:ju f g){d:ai}{R:List ID}(h:nT d R):nT (d.1.map f,d.2.map g) R:=by
 refine⟨h.n,fun r hr=>?_,fun r hr s hs hc=>h.i r hr s hs ((k.conn d).1 hc),fun v hv=>?_⟩
 ·obtain⟨v,hv,he⟩:=h.v r hr
  exact⟨f v,List.mem_map.2 ⟨v,hv,rfl⟩,(k.i v).trans he⟩
 ·obtain⟨u,hu,rfl⟩:=List.mem_map.1 hv
  obtain⟨r,hr,hc⟩:=h.c u hu
  exact⟨r,hr,by rw[k.i];exact(k.conn d).2 hc⟩
theorem La(k:ju f g){d:ai}(hw:Wf d)(Kj:Wf (d.1.map f,d.2.map g))(hg:bB d=0):bB (d.1.map f,d.2.map g)=0:=by
 obtain⟨R,hr⟩:=oU hw
 have h:=(eR hw hr).1 hg
 rw[eR Kj (k.zG hr)]
 have hd:Vs.ak (d.1.map f)=Vs.ak d.1:=k.ak d.1
 have a:=bE hw
 have b:=bE Kj
 have hc:(bU (d.1.map f,d.2.map g)).length=(bU d).length :=
  EE.count (D:=Vs.ak (d.1.map f)) Kj.rw.n b ⟨fun c hc=>(a.c c hc).congr fun z hz=>k.ph d z,a.p.trans (List.Perm.of_eq hd.symm)⟩
 have f1:ft d=(bU d).length+Vs.al d.1:=rfl
 have f2:ft (d.1.map f,d.2.map g)=(bU (d.1.map f,d.2.map g)).length+Vs.al (d.1.map f):=rfl
 have hal:Vs.al (d.1.map f)=Vs.al d.1:=k.al d.1
 show(d.1.map f).length+_=_+(d.2.map g).length
 rw[List.length_map,List.length_map]
 omega
theorem Oj(o:bL):ju (il o) (jN o):=by
 refine⟨fun v=>?_,fun v=>?_,fun a=>?_⟩
 ·unfold il;split
  ·split<;>rfl
  ·rfl
 ·unfold il;split
  ·split<;>rfl
  ·rfl
 ·unfold jN;split
  ·split<;>rfl
  ·rfl
end Go.Vs
namespace Go.Vs
open Go.Proofs Go.Cy
def hd(l:List ab):ab:=l.head?.getD zD
theorem ET{f g:ab→ab}{φ:ab→List ab}(hn:∀z,φ z≠[]):∀{c:List ab} {y:ab},(∀z∈c,Path g (φ z) (hd (φ (f z))))→Path f c y→Path g (c.flatMap φ) (hd (φ y))
 |[],y,_,_=>trivial
 |a::r,y,hp,h=>by
  obtain⟨h1,h2⟩:f a=r.head?.getD y∧Path f r y:=h
  have ih:=ET hn (fun z hz=>hp z (List.mem_cons_of_mem _ hz)) h2
  rw[List.flatMap_cons]
  refine Path.app.2 ⟨?_,ih⟩
  have:=hp a List.mem_cons_self
  rw[h1]at this
  cases r with
  |nil=>exact this
  |cons b r =>
   have e:((b::r).flatMap φ).head?.getD (hd (φ y))=hd (φ b):=by
    rw[List.flatMap_cons]
    cases hb:φ b with
    |nil=>exact absurd hb (hn b)
    |cons q s=>rfl
   rw[e];exact this
theorem Sz{f g:ab→ab}{φ:ab→List ab}(hn:∀z,φ z≠[]){c:List ab}(hp:∀z∈c,Path g (φ z) (hd (φ (f z))))(h:gS f c):gS g (c.flatMap φ):=by
 cases c with
 |nil=>exact h.elim
 |cons x r =>
  have h':Path f (x::r) x:=h
  have:=ET hn hp h'
  rw[List.flatMap_cons]at this ⊢
  cases hx:φ x with
  |nil=>exact absurd hx (hn x)
  |cons q s =>
   rw[hx]at this
   exact this
structure Sub(s t:ai)(v:ID)(m k:ab)(u w:ID):Prop where
 ws:Wf s
 wt:Wf t
 mm:m∈ak s.1
 kn:k∉ak s.1
 ok:af k∉ak s.1
 kk:k≠af k
 k2:k.2=0∨k.2=1
 p:(ak t.1).Perm (k::af k::ak s.1)
 pm:∀z∈ak s.1,z≠af m→ph t z=if ph s z=m then af k else ph s z
 po:ph t (af m)=k
 pk:ph t k=if ph s (af m)=m then af k else ph s (af m)
 pq:ph t (af k)=m
 am:bY s m=some u
 ao:bY s (af m)=some w
 at_:∀z∈ak s.1,z≠m→bY t z=bY s z
 tm:bY t m=some v
 tk:bY t k=some v
 tq:bY t (af k)=some u
 vs:∀r,(∃x∈t.1,x.1=r)↔r=v∨∃x∈s.1,x.1=r
 nv:∀x∈s.1,x.1≠v
 len:t.1.length=s.1.length+1
 al:al t.1=al s.1
variable {s t:ai} {v:ID} {m k:ab} {u w:ID}
def oV(m k:ab)(z:ab):List ab:=if z=m then[af k,m] else if z=af m then[af m,k] else[z]
theorem UZ(m k z:ab):oV m k z≠[]:=by
 unfold oV
 by_cases e:z=m
 ·rw[if_pos e];simp
 ·rw[if_neg e]
  by_cases e2:z=af m
  ·rw[if_pos e2];simp
  ·rw[if_neg e2];simp
theorem Sub.om(h:Sub s t v m k u w):af m∈ak s.1:=h.ws.other h.mm
theorem oW{m:ab}(h:m.2=0∨m.2=1):af m≠m:=fun e=>by
 obtain⟨_,k⟩:=g9 h
 rw[e]at k
 rcases k with⟨a,b⟩|⟨a,b⟩<;>omega
theorem Yn(h:Sub s t v m k u w)(y:ab):hd (oV m k y)=if y=m then af k else y:=by
 unfold oV
 by_cases e:y=m
 ·rw[if_pos e,if_pos e];rfl
 ·rw[if_neg e,if_neg e]
  by_cases e2:y=af m
  ·rw[if_pos e2,e2];rfl
  ·rw[if_neg e2];rfl
theorem Sub.bU(h:Sub s t v m k u w):(Vs.bU t).length=(Vs.bU s).length:=by
 have a:=bE h.ws
 have b:=bE h.wt
 have U3:=oW (h.ws.side h.mm)
 have cyc:∀c∈Vs.bU s,gS (ph t) (c.flatMap (oV m k)):=fun c hc=>by
  refine Sz (UZ m k) (fun z hz=>?_) (a.c c hc)
  have hz:z∈ak s.1:=a.p.mem_iff.1 (List.mem_flatten.2 ⟨c,hc,hz⟩)
  rw[Yn h]
  unfold oV
  by_cases e:z=m
  ·rw[if_pos e,e]
   exact⟨h.pq,h.pm m h.mm (fun q=>U3 q.symm),trivial⟩
  ·rw[if_neg e]
   by_cases e2:z=af m
   ·rw[if_pos e2,e2]
    exact⟨h.po,h.pk,trivial⟩
   ·rw[if_neg e2]
    exact⟨h.pm z hz e2,trivial⟩
 have perm:((Vs.bU s).map (·.flatMap (oV m k))).flatten.Perm (ak t.1):=by
  have e:((Vs.bU s).map (·.flatMap (oV m k))).flatten=(Vs.bU s).flatten.flatMap (oV m k):=by
   have:∀L:List (List ab),(L.map (·.flatMap (oV m k))).flatten=L.flatten.flatMap (oV m k):=by
    intro L
    induction L with
    |nil=>rfl
    |cons a L ih=>rw[List.map_cons,List.flatten_cons,List.flatten_cons,List.flatMap_append,ih]
   exact this _
  rw[e]
  refine(a.p.flatMap_right (oV m k)).trans ((?_:((ak s.1).flatMap (oV m k)).Perm _).trans h.p.symm)
  have nd:=h.ws.rw.n
  obtain⟨r1,YH⟩:∃r1,(ak s.1).Perm (m::r1):=⟨_,List.perm_cons_erase h.mm⟩
  have hm1:af m∈r1:=(List.mem_cons.1 (YH.mem_iff.1 h.om)).resolve_left U3
  obtain⟨r2,C6⟩:∃r2,r1.Perm (af m::r2):=⟨_,List.perm_cons_erase hm1⟩
  have hp:(ak s.1).Perm (m::af m::r2):=YH.trans (List.Perm.cons _ C6)
  have nd2:=hp.nodup_iff.1 nd
  have bT:r2.flatMap (oV m k)=r2:=by
   have:∀l:List ab,(∀z∈l,z≠m∧z≠af m)→l.flatMap (oV m k)=l:=by
    intro l
    induction l with
    |nil=>intro _;rfl
    |cons z l ih =>
     intro hl
     obtain⟨h1,h2⟩:=hl z List.mem_cons_self
     rw[List.flatMap_cons,ih fun y hy=>hl y (List.mem_cons_of_mem _ hy)]
     unfold oV
     rw[if_neg h1,if_neg h2];rfl
   refine this r2 fun z hz=>⟨fun e=>?_,fun e=>?_⟩
   ·subst e;exact(List.nodup_cons.1 nd2).1 (List.mem_cons_of_mem _ hz)
   ·subst e;exact(List.nodup_cons.1 (List.nodup_cons.1 nd2).2).1 hz
  refine(hp.flatMap_right (oV m k)).trans ?_
  rw[List.flatMap_cons,List.flatMap_cons,bT]
  have e1:oV m k m=[af k,m]:=if_pos rfl
  have e2:oV m k (af m)=[af m,k]:=by unfold oV;rw[if_neg U3,if_pos rfl]
  rw[e1,e2]
  refine List.Perm.trans ?_ (List.Perm.cons k (List.Perm.cons (af k) hp.symm))
  show(af k::m::af m::k::r2).Perm (k::af k::m::af m::r2)
  exact(List.perm_middle (l₁:=[af k,m,af m]) (l₂:=r2) (a:=k))
 have:=EE.count h.wt.rw.n b ⟨fun c hc=>by
  obtain⟨c0,h1,rfl⟩:=List.mem_map.1 hc
  exact cyc c0 h1,perm⟩
 rw[List.length_map]at this
 exact this
theorem Sub.Mv(h:Sub s t v m k u w){a b:ID}(c:cr s a b):cr t a b:=by
 have dt:∀z∈ak s.1,z∈ak t.1:=fun z hz=>h.p.mem_iff.2 (List.mem_cons_of_mem _ (List.mem_cons_of_mem _ hz))
 have U3:=oW (h.ws.side h.mm)
 have hqt:af k∈ak t.1:=h.p.mem_iff.2 (by simp)
 have uv:zh t u v:=⟨af k,hqt,h.tq,by rw[bN h.k2];exact h.tk⟩
 have vw:zh t v w:=⟨m,dt m h.mm,h.tm,by rw[h.at_ _ h.om U3];exact h.ao⟩
 have uw:cr t u w:=uv.conn.trans vw.conn
 induction c with
 |refl=>exact .refl _
 |tail _ j ih =>
  refine ih.trans ?_
  obtain⟨z,hz,h1,h2⟩:=j
  by_cases e:z=m
  ·subst e
   rw[h.am]at h1;rw[h.ao]at h2
   cases h1;cases h2
   exact uw
  ·by_cases e2:z=af m
   ·subst e2
    rw[h.ao]at h1
    rw[bN (h.ws.side h.mm),h.am]at h2
    cases h1;cases h2
    exact uw.symm h.wt
   ·have e3:af z≠m:=fun q=>e2 (by rw[←q,bN (h.ws.side hz)])
    exact zh.conn ⟨z,dt z hz,by rw[h.at_ z hz e];exact h1,by rw[h.at_ _ (h.ws.other hz) e3];exact h2⟩
theorem Sub.U4(h:Sub s t v m k u w){a b:ID}(c:cr t a b):cr s (if a=v then u else a) (if b=v then u else b):=by
 have U3:=oW (h.ws.side h.mm)
 have uw:cr s u w:=zh.conn ⟨m,h.mm,h.am,h.ao⟩
 have vof:∀{z x},z∈ak s.1→bY s z=some x→x≠v:=fun {z x} hz hx=>by
  obtain⟨y,hy,_,h2⟩:=rQ h.ws hz
  rw[h2]at hx;cases hx
  exact h.nv y hy
 have hu:=vof h.mm h.am
 have hw:=vof h.om h.ao
 induction c with
 |refl=>exact .refl _
 |tail _ j ih =>
  refine ih.trans ?_
  obtain⟨z,hz,h1,h2⟩:=j
  have AG:=h.p.mem_iff.1 hz
  rcases List.mem_cons.1 AG with rfl|AG
  ·rw[h.tk]at h1;rw[h.tq]at h2
   cases h1;cases h2
   rw[if_pos rfl,if_neg hu]
   exact .refl _
  ·rcases List.mem_cons.1 AG with rfl|AG
   ·rw[h.tq]at h1;rw[bN h.k2,h.tk]at h2
    cases h1;cases h2
    rw[if_neg hu,if_pos rfl]
    exact .refl _
   ·by_cases e:z=m
    ·subst e
     rw[h.tm]at h1;rw[h.at_ _ h.om U3,h.ao]at h2
     cases h1;cases h2
     rw[if_pos rfl,if_neg hw]
     exact uw
    ·by_cases e2:z=af m
     ·subst e2
      rw[h.at_ _ h.om U3,h.ao]at h1
      rw[bN (h.ws.side h.mm),h.tm]at h2
      cases h1;cases h2
      rw[if_neg hw,if_pos rfl]
      exact uw.symm h.ws
     ·have e3:af z≠m:=fun q=>e2 (by rw[←q,bN (h.ws.side AG)])
      rw[h.at_ z AG e]at h1
      rw[h.at_ _ (h.ws.other AG) e3]at h2
      rw[if_neg (vof AG h1),if_neg (vof (h.ws.other AG) h2)]
      exact zh.conn ⟨z,AG,h1,h2⟩
theorem Sub.zG(h:Sub s t v m k u w){R:List ID}(hr:nT s R):nT t R:=by
 refine⟨hr.n,fun r hrm=>(h.vs r).2 (.inr (hr.v r hrm)),fun r h1 q h2 c=>?_,fun x hx=>?_⟩
 ·obtain⟨x,hx,Vo⟩:=hr.v r h1
  obtain⟨y,hy,hyq⟩:=hr.v q h2
  have:=h.U4 c
  rw[if_neg (by rw[←Vo];exact h.nv x hx),if_neg (by rw[←hyq];exact h.nv y hy)]at this
  exact hr.i r h1 q h2 this
 ·rcases (h.vs x.1).1 ⟨x,hx,rfl⟩ with e|⟨y,hy,e⟩
  ·obtain⟨y,hy,_,hyu⟩:=rQ h.ws h.mm
   rw[h.am]at hyu
   obtain⟨r,hrm,hc⟩:=hr.c y hy
   refine⟨r,hrm,?_⟩
   rw[e]
   have hqt:af k∈ak t.1:=h.p.mem_iff.2 (by simp)
   have uv:zh t u v:=⟨af k,hqt,h.tq,by rw[bN h.k2];exact h.tk⟩
   have e2:u=y.1:=Option.some.inj hyu
   exact(uv.symm h.wt).conn.trans (e2▸h.Mv hc)
  ·obtain⟨r,hrm,hc⟩:=hr.c y hy
   exact⟨r,hrm,e▸h.Mv hc⟩
theorem SA(h:Sub s t v m k u w):bB s=0↔bB t=0:=by
 obtain⟨R,hr⟩:=oU h.ws
 rw[eR h.ws hr,eR h.wt (h.zG hr)]
 have h1:=kx h.ws
 have h2:=kx h.wt
 have h3:=h.p.length_eq
 have h4:=h.bU
 have h5:=h.al
 have h6:=h.len
 have f1:ft s=(Vs.bU s).length+Vs.al s.1:=rfl
 have f2:ft t=(Vs.bU t).length+Vs.al t.1:=rfl
 simp at h3
 omega
end Go.Vs
namespace Go.Vs
open Go.Proofs Go.Cy
structure Fr(s t:ai)(v:ID)(m k:ab)(uS uT vV:ag):Prop where
 ws:Wf s
 wt:Wf t
 mem:∀y,y∈t.1↔y=vV∨(y∈s.1∧y.1≠uS.1)∨y=uT
 us:uS∈s.1
 ui:uT.1=uS.1
 vi:vV.1=v
 vr:vV.2.1=[m,k]∨vV.2.1=[k,m]
 mm:m∈uS.2.1
 k2:k.2=0∨k.2=1
 kn:k∉ak s.1
 ok:af k∉ak s.1
 nx:∀z∈uS.2.1,(if z=m then af k else z)∈uT.2.1∧cy uT.2.1 (if z=m then af k else z)=(if cy uS.2.1 z=m then af k else cy uS.2.1 z)
 p:(ak t.1).Perm (k::af k::ak s.1)
 nv:∀x∈s.1,x.1≠v
 len:t.1.length=s.1.length+1
 al:al t.1=al s.1
theorem yg{m k:ab}(h:m≠k):cy [m,k] m=k∧cy [m,k] k=m:=by
 have hn:[m,k].Nodup:=by simp[h]
 have a:=mK hn (i:=0) (x:=m) rfl
 have b:=mK hn (i:=1) (x:=k) rfl
 exact⟨a,by rw[b];simp⟩
variable {s t:ai} {v:ID} {m k:ab} {uS uT vV:ag}
theorem Fr.sub(h:Fr s t v m k uS uT vV):∃w,Sub s t v m k uS.1 w:=by
 have KA:m∈ak s.1:=aG.2 ⟨uS,h.us,h.mm⟩
 have hod:af m∈ak s.1:=h.ws.other KA
 have U3:=oW (h.ws.side KA)
 have J7:m≠k:=fun e=>h.kn (e▸KA)
 obtain⟨w,hw⟩:=Option.isSome_iff_exists.1 (wx hod)
 have hvt:vV∈t.1:=(h.mem vV).2 (.inl rfl)
 have U5:uT∈t.1:=(h.mem uT).2 (.inr (.inr rfl))
 have rs:=h.ws.rw
 have rt:=h.wt.rw
 have SP:m∈vV.2.1:=by rcases h.vr with e|e<;>rw[e]<;>simp
 have YR:k∈vV.2.1:=by rcases h.vr with e|e<;>rw[e]<;>simp
 have sm:sg t m=k∧sg t k=m:=by
  rw[eY rt hvt SP,eY rt hvt YR]
  rcases h.vr with e|e
  ·rw[e];exact yg J7
  ·rw[e];exact⟨(yg (Ne.symm J7)).2,(yg (Ne.symm J7)).1⟩
 have YS:af k∈uT.2.1:=by have:=(h.nx m h.mm).1;rwa [if_pos rfl]at this
 have pl:∀z∈ak s.1,(∃y,y∈s.1∧z∈y.2.1∧y∈t.1∧z≠m∧sg s z≠m)∨z∈uS.2.1:=fun z hz=>by
  obtain⟨y,hy,Mu⟩:=aG.1 hz
  by_cases e:y.1=uS.1
  ·have:=wq h.ws.sv h.us hy e
   subst this;exact .inr Mu
  ·refine .inl ⟨y,hy,Mu,(h.mem y).2 (.inr (.inl ⟨hy,e⟩)),fun q=>?_,fun q=>?_⟩
   ·subst q
    exact e (congrArg Prod.fst (rs.one h.us hy h.mm Mu))
   ·rw[eY rs hy Mu]at q
    have:=hM (rs.ring hy) Mu
    rw[q]at this
    exact e (congrArg Prod.fst (rs.one h.us hy h.mm this))
 have sgm:∀z∈ak s.1,sg t (if z=m then af k else z)=if sg s z=m then af k else sg s z:=fun z hz=>by
  rcases pl z hz with⟨y,hy,Mu,hyt,h1,h2⟩|DG
  ·rw[if_neg h1,if_neg h2,eY rt hyt Mu,eY rs hy Mu]
  ·obtain⟨n1,n2⟩:=h.nx z DG
   rw[eY rt U5 n1,eY rs h.us DG];exact n2
 have up:∀z∈ak s.1,z∈ak t.1:=fun z hz=>h.p.mem_iff.2 (List.mem_cons_of_mem _ (List.mem_cons_of_mem _ hz))
 have kt:k∈ak t.1:=h.p.mem_iff.2 (by simp)
 have qt:af k∈ak t.1:=h.p.mem_iff.2 (by simp)
 refine⟨w,h.ws,h.wt,KA,h.kn,h.ok,(fun e=>oW h.k2 e.symm),h.k2,h.p,fun z hz hzo=>?_,?_,?_,?_,?_,hw,fun z hz Zw=>?_,?_,?_,?_,fun r=>?_,h.nv,h.len,h.al⟩
 ·rw[ig (up z hz),ig hz]
  have bp:af z≠m:=fun e=>hzo (by rw[←e,bN (h.ws.side hz)])
  have:=sgm (af z) (h.ws.other hz)
  rwa [if_neg bp]at this
 ·rw[ig (up _ hod),bN (h.ws.side KA)];exact sm.1
 ·rw[ig kt,ig hod,bN (h.ws.side KA)]
  have:=sgm m KA
  rwa [if_pos rfl]at this
 ·rw[ig qt,bN h.k2];exact sm.2
 ·exact cQ rs h.us h.mm
 ·rcases pl z hz with⟨y,hy,Mu,hyt,_,_⟩|DG
  ·exact(cQ rt hyt Mu).trans (cQ rs hy Mu).symm
  ·have n1:=(h.nx z DG).1
   rw[if_neg Zw]at n1
   refine(cQ rt U5 n1).trans ((congrArg some h.ui).trans (cQ rs h.us DG).symm)
 ·exact(cQ rt hvt SP).trans (congrArg some h.vi)
 ·exact(cQ rt hvt YR).trans (congrArg some h.vi)
 ·exact(cQ rt U5 YS).trans (congrArg some h.ui)
 ·constructor
  ·rintro⟨x,hx,rfl⟩
   rcases (h.mem x).1 hx with rfl|⟨h1,_⟩|rfl
   ·exact .inl h.vi
   ·exact .inr ⟨x,h1,rfl⟩
   ·exact .inr ⟨uS,h.us,h.ui.symm⟩
  ·rintro(rfl|⟨x,hx,rfl⟩)
   ·exact⟨vV,hvt,h.vi⟩
   ·by_cases e:x.1=uS.1
    ·exact⟨uT,U5,h.ui.trans e.symm⟩
    ·exact⟨x,(h.mem x).2 (.inr (.inl ⟨hx,e⟩)),rfl⟩
theorem Fr.flat(h:Fr s t v m k uS uT vV):bB s=0↔bB t=0:=by
 obtain⟨w,hs⟩:=h.sub
 exact SA hs
def oY(m q z:ab):ab:=if z=m then q else z
theorem Gr{row:List ab}(hn:row.Nodup){j:Nat}{m:ab}(hj:row[j]? = some m)(q:ab):row.set j q=row.map (oY m q):=by
 apply List.ext_getElem?
 intro i
 rw[List.getElem?_set,List.getElem?_map]
 by_cases e:j=i
 ·subst e
  have:=(List.getElem?_eq_some_iff.1 hj).1
  rw[if_pos rfl,if_pos this,hj]
  simp[oY]
 ·rw[if_neg e]
  cases hi:row[i]? with
  |none=>rfl
  |some x =>
   have:x≠m:=fun k=>by subst k;exact e (xT hn hj hi)
   simp[oY,this]
theorem Jh{f g:ab→ab}{r:ab→ab}:∀{c:List ab} {y:ab},(∀z∈c,g (r z)=r (f z))→Path f c y→Path g (c.map r) (r y)
 |[],_,_,_=>trivial
 |a::c,y,h,p=>by
  obtain⟨h1,h2⟩:f a=c.head?.getD y∧Path f c y:=p
  refine⟨?_,Jh (fun z hz=>h z (List.mem_cons_of_mem _ hz)) h2⟩
  rw[h a List.mem_cons_self,h1]
  cases c<;>rfl
theorem U6{f g:ab→ab}{r:ab→ab}{c:List ab}(h:∀z∈c,g (r z)=r (f z))(hc:gS f c):gS g (c.map r):=by
 cases c with
 |nil=>exact hc.elim
 |cons x c=>exact Jh (y:=x) h hc
theorem qj{row:List ab}(hn:row.Nodup){m q:ab}(hm:m∈row)(hq:q∉row){z:ab}(hz:z∈row):oY m q z∈fE row m q∧cy (fE row m q) (oY m q z)=oY m q (cy row z):=by
 obtain⟨j,h1,h2,_⟩:=eP hm
 have e:fE row m q=bZ (row.map (oY m q)):=by
  unfold fE
  rw[if_pos ⟨hm,hq⟩,h1,Int.toNat_natCast,Gr hn h2]
 have gH:oY m q z∈row.map (oY m q):=List.mem_map.2 ⟨z,hz,rfl⟩
 have nd:(row.map (oY m q)).Nodup:=by rw[←Gr hn h2];exact NY hn h2 hq
 rw[e]
 refine⟨jL.2 gH,?_⟩
 have nd2:(bZ (row.map (oY m q))).Nodup:=(gZ _).nodup_iff.2 nd
 have c1:gS (cy (bZ (row.map (oY m q)))) (row.map (oY m q)):=by
  obtain⟨i,hi,he⟩:=kY (row.map (oY m q))
  have:=k9 nd2 (List.ne_nil_of_mem (jL.2 gH))
  rw[he]at this ⊢
  exact wu this
 have back:∀y∈row,oY q m (oY m q y)=y:=fun y hy=>by
  unfold oY
  by_cases a:y=m
  ·rw[if_pos a,if_pos rfl,a]
  ·rw[if_neg a,if_neg (fun kk:y=q=>hq (kk▸hy))]
 have c2:gS (fun y=>oY m q (cy row (oY q m y))) (row.map (oY m q)):=by
  refine U6 (fun y hy=>?_) (k9 hn (List.ne_nil_of_mem hz))
  show oY m q (cy row (oY q m (oY m q y)))=_
  rw[back y hy]
 have:=xV c1 c2 _ gH
 rw[this]
 show oY m q (cy row (oY q m (oY m q z)))=_
 rw[back z hz]
end Go.Vs
namespace Go.Vs
open Go.Proofs Go.Cy
theorem Mw(v:ag):∀l:List ag,al (cX v l)=al (v::l)
 |[]=>rfl
 |w::r=>by
  have ih:=Mw v r
  unfold cX
  split
  ·rfl
  ·unfold al at ih ⊢
   rw[List.countP_cons,ih,List.countP_cons,List.countP_cons,List.countP_cons]
   omega
theorem yh(a b:List ag)(v:ag):al (a++v::b)=al a+(if v.2.1.isEmpty then 1 else 0)+al b:=by
 rw[Gq]
 have:al (v::b)=al b+if v.2.1.isEmpty then 1 else 0:=by unfold al;rw[List.countP_cons]
 omega
theorem yi{l:List ab}{x:ab}(h:x∈l):l.isEmpty=false:=by cases l with
 |nil=>cases h
 |cons _ _=>rfl
theorem Ol{row:List ab}(hn:row.Nodup){m q:ab}(hm:m∈row)(hq:q∉row){z:ab}(hz:z∈fE row m q):∃y∈row,z=oY m q y:=by
 obtain⟨j,h1,h2,_⟩:=eP hm
 unfold fE at hz
 rw[if_pos ⟨hm,hq⟩,h1,Int.toNat_natCast,Gr hn h2]at hz
 obtain⟨y,hy,e⟩:=List.mem_map.1 (jL.1 hz)
 exact⟨y,hy,e.symm⟩
theorem SB{d:ai}(h:Wf d){m k:ab}{v:ID}(Ox:m.2=0∨m.2=1)(nX:k.2=0∨k.2=1)(hm:(aU d.2 m.1).isSome=true)(Ot:aQ d.1 v=none)(hnk:aU d.2 k.1=none)
  (ht:Wf (cX (v,(bZ [m,k],(e0,0))) (av d m (af k)).1,cF (k.1,(e0,0)) (av d m (af k)).2)) :
  ∃uS uT vV,Fr d (cX (v,(bZ [m,k],(e0,0))) (av d m (af k)).1,cF (k.1,(e0,0)) (av d m (af k)).2) v m k uS uT vV:=by
 have KA:m∈ak d.1:=h.mI hm Ox
 have D2:af k∉ak d.1:=h.nu hnk _
 have hkn:k∉ak d.1:=h.nu hnk _
 obtain⟨p1,q1⟩:=jP h.rw KA D2
 obtain⟨uS,hu,Ww⟩:=aG.1 KA
 have YS:af k∉uS.2.1:=fun e=>D2 (aG.2 ⟨uS,hu,e⟩)
 obtain⟨a,b,e1,e2,_,e4⟩:=mH h.sv hu
 obtain⟨uT,U5⟩:∃uT:ag,uT=(uS.1,(fE uS.2.1 m (af k),uS.2.2)):=⟨_,rfl⟩
 have es:(av d m (af k)).1=a++uT::b:=by
  rw[p7 h.rw _ hu Ww,U5]
  exact e4 _
 have nd:=h.rw.ring hu
 have hmT:af k∈uT.2.1:=by
  have:=(qj nd Ww YS Ww).1
  rw[U5]
  unfold oY at this
  rwa [if_pos rfl]at this
 refine⟨uS,uT,(v,(bZ [m,k],(e0,0))),h,ht,fun y=>?_,hu,by rw[U5],rfl,RF m k,Ww,nX,hkn,D2,fun z hz=>?_,?_,fun x hx e=>?_,?_,?_⟩
 ·show y∈cX _ (av d m (af k)).1↔_
  rw[mD,es,e1]
  constructor
  ·rintro(k1|k1)
   ·exact .inl k1
   ·rcases List.mem_append.1 k1 with k1|k1
    ·exact .inr (.inl ⟨List.mem_append_left _ k1,e2 y (List.mem_append_left _ k1)⟩)
    ·rcases List.mem_cons.1 k1 with k1|k1
     ·exact .inr (.inr k1)
     ·exact .inr (.inl ⟨List.mem_append_right _ (List.mem_cons_of_mem _ k1),e2 y (List.mem_append_right _ k1)⟩)
  ·rintro(k1|⟨k1,k2⟩|k1)
   ·exact .inl k1
   ·refine .inr ?_
    rcases List.mem_append.1 k1 with k1|k1
    ·exact List.mem_append_left _ k1
    ·rcases List.mem_cons.1 k1 with k1|k1
     ·subst k1;exact absurd rfl k2
     ·exact List.mem_append_right _ (List.mem_cons_of_mem _ k1)
   ·rw[k1];exact .inr (List.mem_append_right _ List.mem_cons_self)
 ·rw[U5];exact qj nd Ww YS hz
 ·show(ak (cX _ (av d m (af k)).1)).Perm _
  refine(uG _ _).trans ((List.Perm.append_right _ (gZ [m,k])).trans ?_)
  show(m::k::ak (av d m (af k)).1).Perm _
  exact(List.Perm.swap k m _).trans (List.Perm.cons k p1.symm)
 ·have:=dS h.sv hx
  rw[e,Ot]at this;cases this
 ·show(cX _ (av d m (af k)).1).length=_
  rw[gP,es,e1];simp
 ·show al (cX _ (av d m (af k)).1)=_
  rw[Mw,es,e1]
  have z1:al ((v,(bZ [m,k],((e0,0):ByteArray×Int)))::(a++uT::b))=al (a++uT::b):=by
   have:=yh [] (a++uT::b) (v,(bZ [m,k],(e0,0)))
   rw[List.nil_append]at this
   rw[this,if_neg (by rw[yi (x:=m) (jL.2 (by simp))];simp)]
   show al []+0+_=_
   have:al []=0:=rfl
   omega
  rw[z1,yh,yh,yi hmT,yi Ww]
theorem Om{d:ai}(h:Wf d){vV:ag}{a b:ab}(hv:vV∈d.1)(hr:vV.2.1=[a,b]∨vV.2.1=[b,a])(yW:a.1≠b.1)(hs:Wf (aJ (av (aJ d vV.1 zI) (af b) a) zI b.1)) :
  ∃uS uT,Fr (aJ (av (aJ d vV.1 zI) (af b) a) zI b.1) d vV.1 a b uS uT vV:=by
 have hrp:vV.2.1.Perm [a,b]:=by
  rcases hr with e|e
  ·rw[e]
  ·rw[e];exact List.Perm.swap _ _ _
 obtain⟨p,q,h1,bp,h2,_⟩:=mH h.sv hv
 have pd:(ak d.1).Perm (a::b::ak (p++q)):=by
  have:=(g6 p q vV).trans (List.Perm.append_right _ hrp)
  rw[←h1]at this;exact this
 have KB:aJ d vV.1 zI=(p++q,d.2):=by unfold aJ;rw[h2,qb h.ge]
 have C5:=pd.nodup_iff.1 h.rw.n
 have hbd:b∈ak d.1:=pd.mem_iff.2 (by simp)
 have vj:=h.side hbd
 have NW:af b∈ak (p++q):=by
  have h3:=h.other hbd
  rcases List.mem_cons.1 (pd.mem_iff.1 h3) with k|k
  ·exact absurd (congrArg Prod.fst k) (fun k=>yW k.symm)
  rcases List.mem_cons.1 k with k|k
  ·exact absurd k (oW vj)
  ·exact k
 have F7:Rw (p++q):=⟨by rw[←h2];exact mE h.sv,(List.nodup_cons.1 (List.nodup_cons.1 C5).2).2⟩
 have ha:a∉ak (p++q):=fun k=>(List.nodup_cons.1 C5).1 (List.mem_cons_of_mem _ k)
 rw[KB]at hs ⊢
 obtain⟨p1,q1⟩:=jP (d:=(p++q,d.2)) F7 NW ha
 have L5:∀w∈(av (p++q,d.2) (af b) a).1,GV w:=by
  refine qa (d:=(p++q,d.2)) (fun w hw=>h.gv w ?_) _ _
  rw[h1]
  rcases List.mem_append.1 hw with k|k
  ·exact List.mem_append_left _ k
  ·exact List.mem_append_right _ (List.mem_cons_of_mem _ k)
 have L6:(aJ (av (p++q,d.2) (af b) a) zI b.1).1=(av (p++q,d.2) (af b) a).1:=qc L5
 obtain⟨uT,hu,YT⟩:=aG.1 NW
 have hau:a∉uT.2.1:=fun e=>ha (aG.2 ⟨uT,hu,e⟩)
 obtain⟨l,r,e1,e2,_,e4⟩:=mH F7.s hu
 obtain⟨uS,G1⟩:∃uS:ag,uS=(uT.1,(fE uT.2.1 (af b) a,uT.2.2)):=⟨_,rfl⟩
 have es:(av (p++q,d.2) (af b) a).1=l++uS::r:=by
  rw[p7 (d:=(p++q,d.2)) F7 _ hu YT,G1]
  exact e4 _
 have nd:=F7.ring hu
 have hmS:a∈uS.2.1:=by
  have:=(qj nd YT hau YT).1
  rw[G1]
  unfold oY at this
  rwa [if_pos rfl]at this
 have back:∀y∈uT.2.1,oY a (af b) (oY (af b) a y)=y:=fun y hy=>by
  unfold oY
  by_cases c:y=af b
  ·rw[if_pos c,if_pos rfl,c]
  ·rw[if_neg c,if_neg (fun kk:y=a=>hau (kk▸hy))]
 have hp:(ak d.1).Perm (b::af b::ak (aJ (av (p++q,d.2) (af b) a) zI b.1).1):=by
  rw[L6]
  exact pd.trans ((List.Perm.swap b a _).trans (List.Perm.cons b p1))
 have acO:=hp.nodup_iff.1 h.rw.n
 have Yo:∀y,y∈(aJ (av (p++q,d.2) (af b) a) zI b.1).1↔y∈l++uS::r:=fun y=>by rw[L6,es]
 refine⟨uS,uT,hs,h,fun y=>?_,(Yo uS).2 (List.mem_append_right _ List.mem_cons_self),by rw[G1],rfl,hr,hmS,vj,fun e=>?_,fun e=>?_,fun z hz=>?_,hp,fun x hx=>?_,?_,?_⟩
 ·rw[h1,Yo]
  have uO:y∈p++vV::q↔y=vV∨y∈p++q:=by
   simp only[List.mem_append,List.mem_cons]
   constructor
   ·rintro(c|c|c)
    ·exact .inr (.inl c)
    ·exact .inl c
    ·exact .inr (.inr c)
   ·rintro(c|c|c)
    ·exact .inr (.inl c)
    ·exact .inl c
    ·exact .inr (.inr c)
  rw[uO,e1]
  have UX:uS.1=uT.1:=by rw[G1]
  constructor
  ·rintro(c|c)
   ·exact .inl c
   ·rcases List.mem_append.1 c with c|c
    ·exact .inr (.inl ⟨List.mem_append_left _ c,by rw[UX];exact e2 y (List.mem_append_left _ c)⟩)
    ·rcases List.mem_cons.1 c with c|c
     ·exact .inr (.inr c)
     ·exact .inr (.inl ⟨List.mem_append_right _ (List.mem_cons_of_mem _ c),by rw[UX];exact e2 y (List.mem_append_right _ c)⟩)
  ·rintro(c|⟨c,c2⟩|c)
   ·exact .inl c
   ·refine .inr ?_
    rcases List.mem_append.1 c with c|c
    ·exact List.mem_append_left _ c
    ·rcases List.mem_cons.1 c with c|c
     ·subst c;exact absurd rfl c2
     ·exact List.mem_append_right _ (List.mem_cons_of_mem _ c)
   ·rw[c];exact .inr (List.mem_append_right _ List.mem_cons_self)
 ·exact(List.nodup_cons.1 acO).1 (List.mem_cons_of_mem _ e)
 ·exact(List.nodup_cons.1 (List.nodup_cons.1 acO).2).1 e
 ·rw[G1]at hz
  obtain⟨y,hy,rfl⟩:=Ol nd YT hau hz
  have n1:=(qj nd YT hau hy).2
  have n2:cy uS.2.1 (oY (af b) a y)=oY (af b) a (cy uT.2.1 y):=by rw[G1];exact n1
  have b1:=back y hy
  have b2:=back _ (hM nd hy)
  show oY a (af b) (oY (af b) a y)∈uT.2.1∧cy uT.2.1 (oY a (af b) (oY (af b) a y))=oY a (af b) (cy uS.2.1 (oY (af b) a y))
  rw[b1,n2,b2]
  exact⟨hy,rfl⟩
 ·have hx:=(Yo x).1 hx
  have:∃y∈p++q,y.1=x.1:=by
   rw[e1]
   rcases List.mem_append.1 hx with c|c
   ·exact⟨x,List.mem_append_left _ c,rfl⟩
   ·rcases List.mem_cons.1 c with c|c
    ·exact⟨uT,List.mem_append_right _ List.mem_cons_self,by rw[c,G1]⟩
    ·exact⟨x,List.mem_append_right _ (List.mem_cons_of_mem _ c),rfl⟩
  obtain⟨y,hy,e⟩:=this
  rw[←e];exact bp y hy
 ·rw[L6,es,h1]
  have:=congrArg List.length e1
  simp at this ⊢;omega
 ·rw[L6,es,h1]
  have z1:=yh p q vV
  have z2:=yh l r uS
  have z3:=yh l r uT
  have z4:=Gq p q
  rw[e1]at z4
  rw[yi (hrp.mem_iff.2 (by simp):a∈vV.2.1)]at z1
  rw[yi hmS]at z2
  rw[yi YT]at z3
  simp at z1 z2 z3
  omega
end Go.Vs
namespace Go.Vs
open Go.Proofs Go.Cy
theorem bS:bB zS.1=0:=by
 have hr:nT zS.1 []:=⟨List.nodup_nil,fun r h=>(by cases h),fun r h=>(by cases h),fun v h=>(by cases h)⟩
 rw[eR Wf.zero hr];rfl
theorem SC{s:StateT}(h:im s)(hg:bB s.1=0)(o:bL):bB (mT s o).1.1=0:=by
 have hw:=(h.one o).d
 unfold mT at hw ⊢
 split
 ·exact bS
 rename_i hm
 rw[if_neg hm]at hw
 have hm:c5 o=0:=Classical.byContradiction fun k=>hm k
 split
 ·rename_i h1
  rw[if_pos h1]at hw
  unfold rJ at hw ⊢
  split
  ·exact bS
  rename_i k1
  rw[if_neg k1]at hw
  split
  ·exact bS
  rename_i k2
  rw[if_neg k2]at hw
  exact Oi h.d (by simpa[bg] using k1) hw hg
 rename_i h1
 rw[if_neg h1]at hw
 split
 ·unfold wh
  cases hv:bg s.1 (ba o) with
  |none=>exact bS
  |some v =>
   simp only
   split
   ·exact bS
   ·rename_i hr
    have hl:Lone s.1 v:=⟨h.d,fw hv,by simpa using hr⟩
    have:=(ES hl).1 hg
    rw[iF hv]at this
    exact this
 rename_i h2
 rw[if_neg h2]at hw
 split
 ·unfold nt
  split;· exact bS
  split;· exact bS
  split;· exact bS
  split;· exact bS
  split;· exact bS
  rename_i k
  exact Classical.byContradiction fun q=>k q
 rename_i h3
 rw[if_neg h3]at hw
 split
 ·unfold Cl
  split;· exact bS
  rename_i k1
  exact Sy (x:=ba o) ⟨h.d,sZ k1⟩ hg
 rename_i h4
 rw[if_neg h4]at hw
 split
 ·rename_i hk
  rw[if_pos hk]at hw
  unfold lq at hw ⊢
  split;· exact bS
  rename_i k1
  rw[if_neg k1]at hw
  split;· exact bS
  rename_i k2
  rw[if_neg k2]at hw
  split;· exact bS
  rename_i k3
  rw[if_neg k3]at hw
  split;· exact bS
  rename_i k4
  rw[if_neg k4]at hw
  split;· exact bS
  rename_i k5
  rw[if_neg k5]at hw
  obtain⟨m1,m2,m3,m4⟩:=xQ hm hk
  obtain⟨s1,s2⟩:=Cz m3 m4
  obtain⟨uS,uT,vV,fr⟩:=SB (d:=s.1) (m:=IC o) (k:=Er o) (v:=fk o) h.d s1 s2 (sZ k1) (by simpa[bg] using k2) (by simpa[fZ,Er] using k3) hw
  exact fr.flat.1 hg
 rename_i h5
 rw[if_neg h5]at hw
 split
 ·rename_i h6
  rw[if_pos h6]at hw
  unfold kE at hw ⊢
  split
  ·exact bS
  ·rename_i v hv
   rw[hv]at hw
   have XG:=fw hv
   have XH:=iF hv
   simp only at hw
   split
   ·rename_i r0 r1 hr
    rw[hr]at hw
    simp only at hw
    have key:∀a b:ab,(v.2.1=[a,b]∨v.2.1=[b,a])→a.1≠b.1→Wf (Gz s o a b)→bB (Gz s o a b)=0:=fun a b hp yW Pj=>by
     unfold Gz at Pj ⊢
     rw[←XH]at Pj ⊢
     obtain⟨uS,uT,fr⟩:=Om h.d XG hp yW Pj
     exact fr.flat.2 hg
    unfold jO at hw ⊢
    split;· exact bS
    rename_i bp
    rw[if_neg bp]at hw
    split
    ·rename_i c
     rw[if_pos c]at hw
     exact key r1 r0 (.inr hr) (fun k=>bp k.symm) hw
    rename_i c
    rw[if_neg c]at hw
    split
    ·rename_i c2
     rw[if_pos c2]at hw
     exact key r0 r1 (.inl hr) bp hw
    ·exact bS
   ·exact bS
 rename_i h6
 rw[if_neg h6]at hw
 unfold wg at hw ⊢
 split
 ·rename_i c
  rw[if_pos c]at hw
  exact La (Oj o) h.d hw hg
 ·exact bS
theorem Mx:∀(l:List bL) {s:StateT},im s→bB s.1=0→bB (OC l s).1.1=0
 |[],s,h,hg=>hg
 |o::r,s,h,hg=>by
  unfold OC
  split
  ·exact bS
  ·exact Mx r (h.one o) (SC h hg o)
theorem Lb{s:StateT}(h:im s)(hg:bB s.1=0)(l:List bL):bB (kj s l).1.1=0:=by
 unfold kj
 split
 ·exact bS
 ·exact Mx l h hg
theorem SD{s:StateT}(h:im s)(hg:bB s.1=0)(l:List bL):bB (wi s l).1=0:=by
 unfold wi
 split
 ·exact hg
 ·exact Lb h hg l
theorem C0:∀(m:Nat) (l:List (List bL)) {s:StateT},im s→bB s.1=0→bB (jc m l s).1=0
 |0,_,s,h,hg=>hg
 |_+1,[],s,h,hg=>hg
 |m+1,l::r,s,h,hg=>C0 m r (h.try _) (SD h hg _)
theorem Gs(l:List (List bL)):bB (oK l).1=0:=C0 30 l im.zero bS
end Go.Vs
