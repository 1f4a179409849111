/- Whatever is done, the diagram stays in the plane. -/
import Derived.Test.YtpldhjjpeldkaaaGreatSplits
import Derived.Test.YtpldhjjpeldkaaaGreatEuler
set_option linter.unusedVariables false
set_option linter.unusedSimpArgs false
namespace Go.Vs
open Go.Proofs Go.Cy
variable {G:(f:FuncId)→(g:aL)→Option (g.A→Option g.B)}
structure Lone(d:ai)(v:aj):Prop where
 w:Wf d
 m:v∈d.1
 r:v.2.1=[]
theorem Lone.split{d:ai}{v:aj}(h:Lone d v):∃a b,d.1=a++v::b∧(aN d v.1 zI)=(a++b,d.2)∧an (a++b) ⊆ an d.1∧(an d.1).Perm (an (a++b)):=by
 obtain ⟨a,b,h1,_,h2,_⟩:=lJ h.w.sv h.m
 have p:(an d.1).Perm (an (a++b)):=by
  have:=gm a b v
  rw [←h1,h.r,List.nil_append] at this;exact this
 exact ⟨a,b,h1,by unfold aN;rw [h2,oV h.w.ge],fun x hx=>p.mem_iff.2 hx,p⟩
theorem Lone.wf{d:ai}{v:aj}(h:Lone d v):Wf (aN d v.1 zI):=h.w.P3 h.m h.r
theorem Lone.mem{d:ai}{v:aj}(h:Lone d v){u:aj}:u∈(aN d v.1 zI).1↔u∈d.1∧u.1≠v.1:=by
 show u∈dp d.1 v.1↔_
 unfold dp
 rw [List.mem_filter];simp
theorem Lone.QU{d:ai}{v:aj}(h:Lone d v):(an (aN d v.1 zI).1).Perm (an d.1):=by
 obtain ⟨a,b,_,h2,_,h3⟩:=h.split
 rw [h2];exact h3.symm
theorem Lone.QV{d:ai}{v:aj}(h:Lone d v){u:aj}{z:ae}(hu:u∈d.1)(hz:z∈u.2.1):u∈(aN d v.1 zI).1:=by
 refine h.mem.2 ⟨hu,fun k => ?_⟩
 rw [Hs h.w.sv h.m hu k,h.r] at hz;simp at hz
theorem Lone.at{d:ai}{v:aj}(h:Lone d v){z:ae}(hz:z∈an d.1):cS (aN d v.1 zI) z=cS d z:=by
 obtain ⟨u,hu,Cz⟩:=aV.1 hz
 show B5 (aN d v.1 zI).1 z=B5 d.1 z
 rw [dN h.w.rw hu Cz,dN h.wf.rw (h.QV hu Cz) Cz]
theorem Lone.SI{d:ai}{v:aj}(h:Lone d v){a b:ID}:xW (aN d v.1 zI) a b↔xW d a b:=by
 constructor
 ·rintro ⟨z,hz,h1,h2⟩
  have hz:=h.QU.mem_iff.1 hz
  exact ⟨z,hz,by rw [←h.at hz];exact h1,by rw [←h.at (h.w.other hz)];exact h2⟩
 ·rintro ⟨z,hz,h1,h2⟩
  exact ⟨z,h.QU.mem_iff.2 hz,by rw [h.at hz];exact h1,by rw [h.at (h.w.other hz)];exact h2⟩
theorem Lone.conn{d:ai}{v:aj}(h:Lone d v){a b:ID}:cj (aN d v.1 zI) a b↔cj d a b:=by
 constructor
 ·intro k
  induction k with
  | refl=>exact .refl _
  | tail _ j ih=>exact ih.tail (h.SI.1 j)
 ·intro k
  induction k with
  | refl=>exact .refl _
  | tail _ j ih=>exact ih.tail (h.SI.2 j)
theorem Lone.alone{d:ai}{v:aj}(h:Lone d v){b:ID}(k:cj d v.1 b):b=v.1:=by
 have key:∀{a b:ID},cj d a b→a=v.1→b=v.1:=fun {a b} k ha=>by
  induction k with
  | refl=>exact ha
  | tail _ j ih =>
   obtain ⟨z,hz,h1,_⟩:=j
   obtain ⟨u,hu,Cz,xp⟩:=qH h.w hz
   rw [xp,ih] at h1
   have:=Option.some.inj h1
   rw [Hs h.w.sv h.m hu this,h.r] at Cz;simp at Cz
 exact key k rfl
theorem Lone.CA{d:ai}{v:aj}(h:Lone d v){R:List ID}(hr:mT d R):∃R2,mT (aN d v.1 zI) R2∧R2.length+1=R.length:=by
 obtain ⟨r,Fi,hvr⟩:=hr.c v h.m
 have hv:v.1∈R:=by rw [←h.alone hvr];exact Fi
 refine ⟨R.erase v.1,⟨hr.n.erase _,fun s hs => ?_,fun s hs t ht k=>hr.i s (List.mem_of_mem_erase hs) t (List.mem_of_mem_erase ht) (h.conn.1 k),fun u hu => ?_⟩,?_⟩
 ·obtain ⟨u,hu,he⟩:=hr.v s (List.mem_of_mem_erase hs)
  refine ⟨u,h.mem.2 ⟨hu,fun k => ?_⟩,he⟩
  have:s=v.1:=he.symm.trans k
  subst this
  exact absurd hs (List.Nodup.not_mem_erase hr.n)
 ·obtain ⟨hu1,hu2⟩:=h.mem.1 hu
  obtain ⟨s,hs,FI⟩:=hr.c u hu1
  refine ⟨s,(List.mem_erase_of_ne fun k => ?_).2 hs,h.conn.2 FI⟩
  subst k
  exact hu2 (h.alone (FI.symm h.w))
 ·rw [List.length_erase_of_mem hv]
  have:=List.length_pos_of_mem hv;omega
theorem Lone.ph{d:ai}{v:aj}(h:Lone d v){z:ae}(hz:z∈an d.1):ph (aN d v.1 zI) z=ph d z:=by
 rw [iF hz,iF (h.QU.mem_iff.2 hz)]
 obtain ⟨u,hu,Cz⟩:=aV.1 (h.w.other hz)
 rw [iE h.w.rw hu Cz,iE h.wf.rw (h.QV hu Cz) Cz]
theorem Lone.bK{d:ai}{v:aj}(h:Lone d v):(Vs.bK (aN d v.1 zI)).length=(Vs.bK d).length:=by
 have a:=bG h.wf
 have b:=bG h.w
 refine DD.count h.w.rw.n ⟨fun c hc => ?_,a.p.trans h.QU⟩ b
 refine (a.c c hc).congr fun z hz => ?_
 have:z∈an (aN d v.1 zI).1:=a.p.mem_iff.1 (List.mem_flatten.2 ⟨c,hc,hz⟩)
 exact (h.ph (h.QU.mem_iff.1 this)).symm
theorem BX{d:ai}(hw:Wf d){R:List ID}(hr:mT d R):eC d=(R.length:Int):=by
 rw [rG hw,(ki hw (dV hw)).len hw hr]
structure vc(d:ai)(v:aj)(y:ae):Prop where
 w:Wf d
 m:v∈d.1
 r:v.2.1=[y]
theorem vc.mem{d:ai}{v:aj}{y:ae}(h:vc d v y):y∈an d.1:=aV.2 ⟨v,h.m,by rw [h.r];simp⟩
theorem vc.cut{d:ai}{v:aj}{y:ae}(h:vc d v y):bL d y.1:=by
 obtain ⟨e,he,h1,_⟩:=c5.1 (h.w.pd.mem_iff.1 h.mem)
 exact ⟨h.w,by unfold aU;rw [List.find?_isSome];exact ⟨e,he,by simpa using h1⟩⟩
theorem vc.lone{d:ai}{v:aj}{y:ae}(h:vc d v y):∃u,Lone (cP d y.1) u∧u.1=v.1:=by
 obtain ⟨u,hu,bI⟩:=h.cut.Jz.2 ⟨v,h.m,rfl⟩
 refine ⟨u,⟨h.cut.w,hu,?_⟩,bI⟩
 cases hq:u.2.1 with
 | nil=>rfl
 | cons z r =>
  exfalso
  have hz:z∈u.2.1:=by rw [hq];simp
  have hzd:z∈an (cP d y.1).1:=aV.2 ⟨u,hu,hz⟩
  have h1:cS (cP d y.1) z=some u.1:=dN h.cut.w.rw hu hz
  rw [h.cut.at hzd,bI] at h1
  obtain ⟨w,hw,Fl,xp⟩:=qH h.w (h.cut.sub hzd)
  rw [xp] at h1
  have hwv:=Hs h.w.sv h.m hw (Option.some.inj h1)
  rw [hwv,h.r] at Fl
  have Lh:z=y:=by simpa using Fl
  have nd:=h.cut.p.nodup_iff.1 h.w.rw.n
  have e:y=(y.1,y.2):=rfl
  rcases h.w.side h.mem with k | k
  ·rw [k] at e
   exact (List.nodup_cons.1 nd).1 (List.mem_cons_of_mem _ (e▸Lh▸hzd))
  ·rw [k] at e
   exact (List.nodup_cons.1 (List.nodup_cons.1 nd).2).1 (e▸Lh▸hzd)
theorem vc.back{d:ai}{v:aj}{y:ae}(h:vc d v y):ph d (ah y)=y:=by
 rw [iF (h.w.other h.mem),bQ (h.w.side h.mem)]
 have hy:y∈v.2.1:=by rw [h.r];simp
 rw [iE h.w.rw h.m hy]
 exact (DI (h.w.rw.ring h.m) hy).2 (by rw [h.r];rfl)
theorem vc.one{d:ai}{v:aj}{y:ae}(h:vc d v y):Jy d (y.1,0) (y.1,1):=by
 have hm:ah y∈(bK d).flatten:=(bG h.w).p.mem_iff.2 (h.w.other h.mem)
 obtain ⟨c,hc,h1⟩:=List.mem_flatten.1 hm
 have h2:=((bG h.w).c c hc).step h1
 rw [h.back] at h2
 have e:y=(y.1,y.2):=rfl
 have eo:ah y=(y.1,(ah y).2):=rfl
 obtain ⟨_,k⟩:=gq (h.w.side h.mem)
 rcases k with ⟨k1,k2⟩ | ⟨k1,k2⟩
 ·rw [k1] at e;rw [k2] at eo
  exact ⟨c,hc,e▸h2,eo▸h1⟩
 ·rw [k1] at e;rw [k2] at eo
  exact ⟨c,hc,eo▸h1,e▸h2⟩
theorem vc.bK{d:ai}{v:aj}{y:ae}(h:vc d v y):(Vs.bK (cP d y.1)).length≤(Vs.bK d).length:=by
 have h1:=(h.cut.same h.one).2
 have hb:=h.back
 have e:y=(y.1,y.2):=rfl
 have eo:ah y=(y.1,(ah y).2):=rfl
 obtain ⟨_,k⟩:=gq (h.w.side h.mem)
 rcases k with ⟨k1,k2⟩ | ⟨k1,k2⟩
 ·rw [k1] at e;rw [k2] at eo
  have:ph d (y.1,1)=(y.1,0):=by rw [←eo,hb];exact e
  rw [if_pos this] at h1
  split at h1<;>omega
 ·rw [k1] at e;rw [k2] at eo
  have:ph d (y.1,0)=(y.1,1):=by rw [←eo,hb];exact e
  rw [if_pos this] at h1
  split at h1<;>omega
theorem vc.parts{d:ai}{v:aj}{y:ae}(h:vc d v y){u:aj}(hu:Lone (cP d y.1) u)(bI:u.1=v.1):eC (aN (cP d y.1) v.1 zI)=eC d:=by
 obtain ⟨a,b,ha,hb,_,_⟩:=h.cut.E4
 have hr:=ki h.w (dV h.w)
 have Rn:cS d y=some v.1:=dN h.w.rw h.m (by rw [h.r];simp)
 have Re:cS d (ah y)≠some v.1:=fun k=>by
  obtain ⟨w,hw,Fl,xp⟩:=qH h.w (h.w.other h.mem)
  rw [xp] at k
  rw [Hs h.w.sv h.m hw (Option.some.inj k),h.r] at Fl
  have Fl:ah y=y:=by simpa using Fl
  obtain ⟨_,m⟩:=gq (h.w.side h.mem)
  rw [Fl] at m;omega
 have bc:a≠b∧(a=v.1∨b=v.1):=by
  have e:y=(y.1,y.2):=rfl
  have eo:ah y=(y.1,(ah y).2):=rfl
  obtain ⟨_,k⟩:=gq (h.w.side h.mem)
  rcases k with ⟨k1,k2⟩ | ⟨k1,k2⟩
  ·rw [k1] at e;rw [k2] at eo
   rw [e,ha] at Rn
   rw [eo,hb] at Re
   have:=Option.some.inj Rn
   exact ⟨fun k=>Re (by rw [←k,this]),.inl this⟩
  ·rw [k1] at e;rw [k2] at eo
   rw [e,hb] at Rn
   rw [eo,ha] at Re
   have:=Option.some.inj Rn
   exact ⟨fun k=>Re (by rw [k,this]),.inr this⟩
 have Ca:¬cj (cP d y.1) a b:=fun k=>by
  rcases bc.2 with m | m
  ·rw [m,←bI] at k
   exact bc.1 (m.trans (bI▸hu.alone k).symm)
  ·rw [m,←bI] at k
   exact bc.1 ((bI▸hu.alone (k.symm h.cut.w):a=v.1).trans m.symm)
 obtain ⟨R2,h2,h3⟩:=h.cut.Qk ha hb Ca hr
 obtain ⟨R3,h4,h5⟩:=hu.CA h2
 rw [bI] at h4
 have hwf:=hu.wf
 rw [bI] at hwf
 rw [BX hwf h4,BX h.w hr]
 omega
end Go.Vs
namespace Go.Vs
open Go.Proofs Go.Cy
theorem rJ{d:ai}(hw:Wf d):∃R,mT d R:=⟨_,ki hw (dV hw)⟩
theorem gV{d:ai}(hw:Wf d){R:List ID}(hr:mT d R):bS d=0↔d.1.length+ft d=2 * R.length+d.2.length:=by
 obtain ⟨k,h1,h2⟩:=BH hw hr
 rw [h1]
 constructor
 ·intro h;omega
 ·intro h;omega
theorem o6{d:ai}(hw:Wf d):(an d.1).length=2 * d.2.length:=by
 have:=hw.pd.length_eq
 rw [xV] at this
 omega
theorem QW{d':ai}{x:ID}(h:bL d' x)(hg:bS d'=0):bS (cP d' x)=0:=by
 obtain ⟨u,w,hu,hw,_,_⟩:=h.E4
 obtain ⟨R,hr⟩:=rJ h.wf
 have k:=(gV h.wf hr).1 hg
 have hv:(cP d' x).1.length=d'.1.length:=by have:=congrArg List.length h.ids;simpa using this
 have he:(cP d' x).2.length+1=d'.2.length:=by
  have h1:=o6 h.wf
  have h2:=o6 h.w
  have h3:=h.p.length_eq
  simp at h3;omega
 by_cases hc:cj (cP d' x) u w
 ·have H5:=h.CA hu hw hc hr
  by_cases ho:Jy d' (x,0) (x,1)
  ·have h1:=(h.same ho).1
   obtain ⟨j,_,h2⟩:=BH h.w H5
   omega
  ·have h1:=h.diff ho
   rw [gV h.w H5];omega
 ·obtain ⟨R2,H5,hl⟩:=h.Qk hu hw hc hr
  have ho:Jy d' (x,0) (x,1):=Classical.byContradiction fun ho=>hc (h.DJ hu hw ho)
  have h1:=(h.same ho).1
  rw [gV h.w H5];omega
theorem Fg(a b:List aj):al (a++b)=al a+al b:=List.countP_append
theorem DR{d:ai}{v:aj}(h:Lone d v):bS d=0↔bS (aN d v.1 zI)=0:=by
 obtain ⟨R,hr⟩:=rJ h.w
 obtain ⟨R2,H5,hl⟩:=h.CA hr
 rw [gV h.w hr,gV h.wf H5]
 obtain ⟨a,b,k1,k2,_,_⟩:=h.split
 have hf:=h.bK
 have e1:d.1.length=(aN d v.1 zI).1.length+1:=by rw [k1,k2];simp;omega
 have e2:(aN d v.1 zI).2.length=d.2.length:=by rw [k2]
 have e3:al d.1=al (aN d v.1 zI).1+1:=by
  rw [k1,k2]
  show al (a++v::b)=al (a++b)+1
  rw [Fg,Fg]
  have:al (v::b)=al b+1:=by unfold al;rw [List.countP_cons,h.r];rfl
  omega
 have f1:ft d=(bK d).length+al d.1:=rfl
 have f2:ft (aN d v.1 zI)=(bK (aN d v.1 zI)).length+al (aN d v.1 zI).1:=rfl
 omega
theorem M3{d:ai}(hw:Wf d){x:ID}(hx:aQ d.1 x=none)(I8:Wf (c7 (x,([],(e0,0))) d.1,d.2))(hg:bS d=0):bS (c7 (x,([],(e0,0))) d.1,d.2)=0:=by
 have hl:Lone (c7 (x,([],(e0,0))) d.1,d.2) (x,([],(e0,0))):=⟨I8,lF.2 (.inl rfl),rfl⟩
 rw [DR hl]
 have e:aN (c7 (x,([],(e0,0))) d.1,d.2) x zI=d:=by
  have h1:=Bi (x,([],(e0,0))) (l:=d.1) hx
  have h2:=oV hw.ge
  unfold aN
  show (dp (c7 (x,([],(e0,0))) d.1) x,dS d.2 zI)=d
  rw [h2]
  exact congrArg (fun l:List aj=>((l,d.2):ai)) h1
 show bS (aN (c7 (x,([],(e0,0))) d.1,d.2) x zI)=0
 rw [e];exact hg
structure iG(f:aj→aj)(g:au→au):Prop where
 i:∀v,(f v).1=v.1
 r:∀v,(f v).2.1=v.2.1
 e:∀a,(g a).1=a.1
variable {f:aj→aj} {g:au→au}
theorem iG.an(k:iG f g)(l:List aj):Vs.an (l.map f)=Vs.an l:=by
 unfold Vs.an
 rw [List.flatMap_map]
 congr 1
 funext v;exact k.r v
theorem iG.at(k:iG f g)(l:List aj)(x:ae):B5 (l.map f) x=B5 l x:=by
 unfold B5
 rw [List.find?_map]
 have:((fun v:aj=>decide (x∈v.2.1)) ∘ f)=fun v:aj=>decide (x∈v.2.1):=by
  funext v;show decide (x∈(f v).2.1)=_;rw [k.r]
 rw [this,Option.map_map]
 congr 1
 funext v;exact k.i v
theorem iG.find(k:iG f g)(l:List aj)(x:ID):aQ (l.map f) x=(aQ l x).map f:=by
 unfold aQ
 rw [List.find?_map]
 have:((fun v:aj=>decide (v.1=x)) ∘ f)=fun v:aj=>decide (v.1=x):=by
  funext v;show decide ((f v).1=x)=_;rw [k.i]
 rw [this]
theorem iG.al(k:iG f g)(l:List aj):Vs.al (l.map f)=Vs.al l:=by
 unfold Vs.al
 rw [List.countP_map]
 congr 1
 funext v;show (f v).2.1.isEmpty=_;rw [k.r]
theorem iG.jr(k:iG f g)(d:ai)(x:ae):Vs.jr (d.1.map f,d.2.map g) x=Vs.jr d x:=by
 unfold Vs.jr
 have h1:cS (d.1.map f,d.2.map g) x=cS d x:=k.at d.1 x
 rw [h1]
 cases cS d x with
 | none=>rfl
 | some a =>
  have h2:cv (d.1.map f,d.2.map g) a=cv d a:=by
   unfold cv bZ
   show ((aQ (d.1.map f) a).getD zV).2.1=_
   rw [k.find]
   cases aQ d.1 a with
   | none=>rfl
   | some v=>exact k.r v
  show fa (cv (d.1.map f,d.2.map g) a) x 1=_
  rw [h2]
theorem iG.ph(k:iG f g)(d:ai)(x:ae):Vs.ph (d.1.map f,d.2.map g) x=Vs.ph d x:=by
 unfold Vs.ph Fj
 have h1:cS (d.1.map f,d.2.map g) x=cS d x:=k.at d.1 x
 rw [h1,k.jr]
theorem iG.SI(k:iG f g)(d:ai){a b:ID}:xW (d.1.map f,d.2.map g) a b↔xW d a b:=by
 unfold xW
 have h:∀z,cS (d.1.map f,d.2.map g) z=cS d z:=fun z=>k.at d.1 z
 have hd:Vs.an (d.1.map f)=Vs.an d.1:=k.an d.1
 constructor
 ·rintro ⟨z,h1,h2,h3⟩
  exact ⟨z,hd▸h1,(h z).symm.trans h2,(h _).symm.trans h3⟩
 ·rintro ⟨z,h1,h2,h3⟩
  exact ⟨z,hd.symm▸h1,(h z).trans h2,(h _).trans h3⟩
theorem iG.conn(k:iG f g)(d:ai){a b:ID}:cj (d.1.map f,d.2.map g) a b↔cj d a b:=by
 constructor
 ·intro h
  induction h with
  | refl=>exact .refl _
  | tail _ j ih=>exact ih.tail ((k.SI d).1 j)
 ·intro h
  induction h with
  | refl=>exact .refl _
  | tail _ j ih=>exact ih.tail ((k.SI d).2 j)
theorem iG.CA(k:iG f g){d:ai}{R:List ID}(h:mT d R):mT (d.1.map f,d.2.map g) R:=by
 refine ⟨h.n,fun r hr => ?_,fun r hr s hs hc=>h.i r hr s hs ((k.conn d).1 hc),fun v hv => ?_⟩
 ·obtain ⟨v,hv,he⟩:=h.v r hr
  exact ⟨f v,List.mem_map.2 ⟨v,hv,rfl⟩,(k.i v).trans he⟩
 ·obtain ⟨u,hu,rfl⟩:=List.mem_map.1 hv
  obtain ⟨r,hr,hc⟩:=h.c u hu
  exact ⟨r,hr,by rw [k.i];exact (k.conn d).2 hc⟩
theorem J3(k:iG f g){d:ai}(hw:Wf d)(I8:Wf (d.1.map f,d.2.map g))(hg:bS d=0):bS (d.1.map f,d.2.map g)=0:=by
 obtain ⟨R,hr⟩:=rJ hw
 have h:=(gV hw hr).1 hg
 rw [gV I8 (k.CA hr)]
 have hd:Vs.an (d.1.map f)=Vs.an d.1:=k.an d.1
 have a:=bG hw
 have b:=bG I8
 have hc:(bK (d.1.map f,d.2.map g)).length=(bK d).length :=
  DD.count (D:=Vs.an (d.1.map f)) I8.rw.n b ⟨fun c hc=>(a.c c hc).congr fun z hz=>k.ph d z,a.p.trans (List.Perm.of_eq hd.symm)⟩
 have f1:ft d=(bK d).length+Vs.al d.1:=rfl
 have f2:ft (d.1.map f,d.2.map g)=(bK (d.1.map f,d.2.map g)).length+Vs.al (d.1.map f):=rfl
 have hal:Vs.al (d.1.map f)=Vs.al d.1:=k.al d.1
 show (d.1.map f).length+_=_+(d.2.map g).length
 rw [List.length_map,List.length_map]
 omega
theorem M4(o:bW):iG (lW o) (qB o):=by
 refine ⟨fun v => ?_,fun v => ?_,fun a => ?_⟩
 ·unfold lW;split
  ·split<;>rfl
  ·rfl
 ·unfold lW;split
  ·split<;>rfl
  ·rfl
 ·unfold qB;split
  ·split<;>rfl
  ·rfl
end Go.Vs
namespace Go.Vs
open Go.Proofs Go.Cy
def hd(l:List ae):ae:=l.head?.getD zD
theorem DS{f g:ae→ae}{φ:ae→List ae}(hn:∀z,φ z≠[]):∀{c:List ae} {y:ae},(∀z∈c,Path g (φ z) (hd (φ (f z))))→Path f c y→Path g (c.flatMap φ) (hd (φ y))
 | [],y,_,_=>trivial
 | a::r,y,hp,h=>by
  obtain ⟨h1,h2⟩:f a=r.head?.getD y∧Path f r y:=h
  have ih:=DS hn (fun z hz=>hp z (List.mem_cons_of_mem _ hz)) h2
  rw [List.flatMap_cons]
  refine Path.app.2 ⟨?_,ih⟩
  have:=hp a List.mem_cons_self
  rw [h1] at this
  cases r with
  | nil=>exact this
  | cons b r =>
   have e:((b::r).flatMap φ).head?.getD (hd (φ y))=hd (φ b):=by
    rw [List.flatMap_cons]
    cases hb:φ b with
    | nil=>exact absurd hb (hn b)
    | cons q s=>rfl
   rw [e];exact this
theorem QX{f g:ae→ae}{φ:ae→List ae}(hn:∀z,φ z≠[]){c:List ae}(hp:∀z∈c,Path g (φ z) (hd (φ (f z))))(h:jk f c):jk g (c.flatMap φ):=by
 cases c with
 | nil=>exact h.elim
 | cons x r =>
  have h':Path f (x::r) x:=h
  have:=DS hn hp h'
  rw [List.flatMap_cons] at this ⊢
  cases hx:φ x with
  | nil=>exact absurd hx (hn x)
  | cons q s =>
   rw [hx] at this
   exact this
structure Sub(s t:ai)(v:ID)(m k:ae)(u w:ID):Prop where
 ws:Wf s
 wt:Wf t
 mm:m∈an s.1
 kn:k∉an s.1
 ok:ah k∉an s.1
 kk:k≠ah k
 k2:k.2=0∨k.2=1
 p:(an t.1).Perm (k::ah k::an s.1)
 pm:∀z∈an s.1,z≠ah m→ph t z=if ph s z=m then ah k else ph s z
 po:ph t (ah m)=k
 pk:ph t k=if ph s (ah m)=m then ah k else ph s (ah m)
 pq:ph t (ah k)=m
 am:cS s m=some u
 ao:cS s (ah m)=some w
 at_:∀z∈an s.1,z≠m→cS t z=cS s z
 tm:cS t m=some v
 tk:cS t k=some v
 tq:cS t (ah k)=some u
 vs:∀r,(∃x∈t.1,x.1=r)↔r=v∨∃x∈s.1,x.1=r
 nv:∀x∈s.1,x.1≠v
 len:t.1.length=s.1.length+1
 al:al t.1=al s.1
variable {s t:ai} {v:ID} {m k:ae} {u w:ID}
def nT(m k:ae)(z:ae):List ae:=if z=m then [ah k,m] else if z=ah m then [ah m,k] else [z]
theorem Tk(m k z:ae):nT m k z≠[]:=by
 unfold nT
 by_cases e:z=m
 ·rw [if_pos e];simp
 ·rw [if_neg e]
  by_cases e2:z=ah m
  ·rw [if_pos e2];simp
  ·rw [if_neg e2];simp
theorem Sub.om(h:Sub s t v m k u w):ah m∈an s.1:=h.ws.other h.mm
theorem nV{m:ae}(h:m.2=0∨m.2=1):ah m≠m:=fun e=>by
 obtain ⟨_,k⟩:=gq h
 rw [e] at k
 rcases k with ⟨a,b⟩ | ⟨a,b⟩<;>omega
theorem WM(h:Sub s t v m k u w)(y:ae):hd (nT m k y)=if y=m then ah k else y:=by
 unfold nT
 by_cases e:y=m
 ·rw [if_pos e,if_pos e];rfl
 ·rw [if_neg e,if_neg e]
  by_cases e2:y=ah m
  ·rw [if_pos e2,e2];rfl
  ·rw [if_neg e2];rfl
theorem Sub.bK(h:Sub s t v m k u w):(Vs.bK t).length=(Vs.bK s).length:=by
 have a:=bG h.ws
 have b:=bG h.wt
 have Tl:=nV (h.ws.side h.mm)
 have cyc:∀c∈Vs.bK s,jk (ph t) (c.flatMap (nT m k)):=fun c hc=>by
  refine QX (Tk m k) (fun z hz => ?_) (a.c c hc)
  have hz:z∈an s.1:=a.p.mem_iff.1 (List.mem_flatten.2 ⟨c,hc,hz⟩)
  rw [WM h]
  unfold nT
  by_cases e:z=m
  ·rw [if_pos e,e]
   exact ⟨h.pq,h.pm m h.mm (fun q=>Tl q.symm),trivial⟩
  ·rw [if_neg e]
   by_cases e2:z=ah m
   ·rw [if_pos e2,e2]
    exact ⟨h.po,h.pk,trivial⟩
   ·rw [if_neg e2]
    exact ⟨h.pm z hz e2,trivial⟩
 have perm:((Vs.bK s).map (·.flatMap (nT m k))).flatten.Perm (an t.1):=by
  have e:((Vs.bK s).map (·.flatMap (nT m k))).flatten=(Vs.bK s).flatten.flatMap (nT m k):=by
   have:∀L:List (List ae),(L.map (·.flatMap (nT m k))).flatten=L.flatten.flatMap (nT m k):=by
    intro L
    induction L with
    | nil=>rfl
    | cons a L ih=>rw [List.map_cons,List.flatten_cons,List.flatten_cons,List.flatMap_append,ih]
   exact this _
  rw [e]
  refine (a.p.flatMap_right (nT m k)).trans ((?_:((an s.1).flatMap (nT m k)).Perm _).trans h.p.symm)
  have nd:=h.ws.rw.n
  obtain ⟨r1,Xg⟩:∃r1,(an s.1).Perm (m::r1):=⟨_,List.perm_cons_erase h.mm⟩
  have hm1:ah m∈r1:=(List.mem_cons.1 (Xg.mem_iff.1 h.om)).resolve_left Tl
  obtain ⟨r2,H5⟩:∃r2,r1.Perm (ah m::r2):=⟨_,List.perm_cons_erase hm1⟩
  have hp:(an s.1).Perm (m::ah m::r2):=Xg.trans (List.Perm.cons _ H5)
  have nd2:=hp.nodup_iff.1 nd
  have bI:r2.flatMap (nT m k)=r2:=by
   have:∀l:List ae,(∀z∈l,z≠m∧z≠ah m)→l.flatMap (nT m k)=l:=by
    intro l
    induction l with
    | nil=>intro _;rfl
    | cons z l ih =>
     intro hl
     obtain ⟨h1,h2⟩:=hl z List.mem_cons_self
     rw [List.flatMap_cons,ih fun y hy=>hl y (List.mem_cons_of_mem _ hy)]
     unfold nT
     rw [if_neg h1,if_neg h2];rfl
   refine this r2 fun z hz=>⟨fun e => ?_,fun e => ?_⟩
   ·subst e;exact (List.nodup_cons.1 nd2).1 (List.mem_cons_of_mem _ hz)
   ·subst e;exact (List.nodup_cons.1 (List.nodup_cons.1 nd2).2).1 hz
  refine (hp.flatMap_right (nT m k)).trans ?_
  rw [List.flatMap_cons,List.flatMap_cons,bI]
  have e1:nT m k m=[ah k,m]:=if_pos rfl
  have e2:nT m k (ah m)=[ah m,k]:=by unfold nT;rw [if_neg Tl,if_pos rfl]
  rw [e1,e2]
  refine List.Perm.trans ?_ (List.Perm.cons k (List.Perm.cons (ah k) hp.symm))
  show (ah k::m::ah m::k::r2).Perm (k::ah k::m::ah m::r2)
  exact (List.perm_middle (l₁:=[ah k,m,ah m]) (l₂:=r2) (a:=k))
 have:=DD.count h.wt.rw.n b ⟨fun c hc=>by
  obtain ⟨c0,h1,rfl⟩:=List.mem_map.1 hc
  exact cyc c0 h1,perm⟩
 rw [List.length_map] at this
 exact this
theorem Sub.Li(h:Sub s t v m k u w){a b:ID}(c:cj s a b):cj t a b:=by
 have dt:∀z∈an s.1,z∈an t.1:=fun z hz=>h.p.mem_iff.2 (List.mem_cons_of_mem _ (List.mem_cons_of_mem _ hz))
 have Tl:=nV (h.ws.side h.mm)
 have hqt:ah k∈an t.1:=h.p.mem_iff.2 (by simp)
 have uv:xW t u v:=⟨ah k,hqt,h.tq,by rw [bQ h.k2];exact h.tk⟩
 have vw:xW t v w:=⟨m,dt m h.mm,h.tm,by rw [h.at_ _ h.om Tl];exact h.ao⟩
 have uw:cj t u w:=uv.conn.trans vw.conn
 induction c with
 | refl=>exact .refl _
 | tail _ j ih =>
  refine ih.trans ?_
  obtain ⟨z,hz,h1,h2⟩:=j
  by_cases e:z=m
  ·subst e
   rw [h.am] at h1;rw [h.ao] at h2
   cases h1;cases h2
   exact uw
  ·by_cases e2:z=ah m
   ·subst e2
    rw [h.ao] at h1
    rw [bQ (h.ws.side h.mm),h.am] at h2
    cases h1;cases h2
    exact uw.symm h.wt
   ·have e3:ah z≠m:=fun q=>e2 (by rw [←q,bQ (h.ws.side hz)])
    exact xW.conn ⟨z,dt z hz,by rw [h.at_ z hz e];exact h1,by rw [h.at_ _ (h.ws.other hz) e3];exact h2⟩
theorem Sub.Tn(h:Sub s t v m k u w){a b:ID}(c:cj t a b):cj s (if a=v then u else a) (if b=v then u else b):=by
 have Tl:=nV (h.ws.side h.mm)
 have uw:cj s u w:=xW.conn ⟨m,h.mm,h.am,h.ao⟩
 have vof:∀{z x},z∈an s.1→cS s z=some x→x≠v:=fun {z x} hz hx=>by
  obtain ⟨y,hy,_,h2⟩:=qH h.ws hz
  rw [h2] at hx;cases hx
  exact h.nv y hy
 have hu:=vof h.mm h.am
 have hw:=vof h.om h.ao
 induction c with
 | refl=>exact .refl _
 | tail _ j ih =>
  refine ih.trans ?_
  obtain ⟨z,hz,h1,h2⟩:=j
  have zo:=h.p.mem_iff.1 hz
  rcases List.mem_cons.1 zo with rfl | zo
  ·rw [h.tk] at h1;rw [h.tq] at h2
   cases h1;cases h2
   rw [if_pos rfl,if_neg hu]
   exact .refl _
  ·rcases List.mem_cons.1 zo with rfl | zo
   ·rw [h.tq] at h1;rw [bQ h.k2,h.tk] at h2
    cases h1;cases h2
    rw [if_neg hu,if_pos rfl]
    exact .refl _
   ·by_cases e:z=m
    ·subst e
     rw [h.tm] at h1;rw [h.at_ _ h.om Tl,h.ao] at h2
     cases h1;cases h2
     rw [if_pos rfl,if_neg hw]
     exact uw
    ·by_cases e2:z=ah m
     ·subst e2
      rw [h.at_ _ h.om Tl,h.ao] at h1
      rw [bQ (h.ws.side h.mm),h.tm] at h2
      cases h1;cases h2
      rw [if_neg hw,if_pos rfl]
      exact uw.symm h.ws
     ·have e3:ah z≠m:=fun q=>e2 (by rw [←q,bQ (h.ws.side zo)])
      rw [h.at_ z zo e] at h1
      rw [h.at_ _ (h.ws.other zo) e3] at h2
      rw [if_neg (vof zo h1),if_neg (vof (h.ws.other zo) h2)]
      exact xW.conn ⟨z,zo,h1,h2⟩
theorem Sub.CA(h:Sub s t v m k u w){R:List ID}(hr:mT s R):mT t R:=by
 refine ⟨hr.n,fun r hrm=>(h.vs r).2 (.inr (hr.v r hrm)),fun r h1 q h2 c => ?_,fun x hx => ?_⟩
 ·obtain ⟨x,hx,TH⟩:=hr.v r h1
  obtain ⟨y,hy,hyq⟩:=hr.v q h2
  have:=h.Tn c
  rw [if_neg (by rw [←TH];exact h.nv x hx),if_neg (by rw [←hyq];exact h.nv y hy)] at this
  exact hr.i r h1 q h2 this
 ·rcases (h.vs x.1).1 ⟨x,hx,rfl⟩ with e | ⟨y,hy,e⟩
  ·obtain ⟨y,hy,_,hyu⟩:=qH h.ws h.mm
   rw [h.am] at hyu
   obtain ⟨r,hrm,hc⟩:=hr.c y hy
   refine ⟨r,hrm,?_⟩
   rw [e]
   have hqt:ah k∈an t.1:=h.p.mem_iff.2 (by simp)
   have uv:xW t u v:=⟨ah k,hqt,h.tq,by rw [bQ h.k2];exact h.tk⟩
   have e2:u=y.1:=Option.some.inj hyu
   exact (uv.symm h.wt).conn.trans (e2▸h.Li hc)
  ·obtain ⟨r,hrm,hc⟩:=hr.c y hy
   exact ⟨r,hrm,e▸h.Li hc⟩
theorem QY(h:Sub s t v m k u w):bS s=0↔bS t=0:=by
 obtain ⟨R,hr⟩:=rJ h.ws
 rw [gV h.ws hr,gV h.wt (h.CA hr)]
 have h1:=o6 h.ws
 have h2:=o6 h.wt
 have h3:=h.p.length_eq
 have h4:=h.bK
 have h5:=h.al
 have h6:=h.len
 have f1:ft s=(Vs.bK s).length+Vs.al s.1:=rfl
 have f2:ft t=(Vs.bK t).length+Vs.al t.1:=rfl
 simp at h3
 omega
end Go.Vs
namespace Go.Vs
open Go.Proofs Go.Cy
structure Fr(s t:ai)(v:ID)(m k:ae)(uS uT vV:aj):Prop where
 ws:Wf s
 wt:Wf t
 mem:∀y,y∈t.1↔y=vV∨(y∈s.1∧y.1≠uS.1)∨y=uT
 us:uS∈s.1
 ui:uT.1=uS.1
 vi:vV.1=v
 vr:vV.2.1=[m,k]∨vV.2.1=[k,m]
 mm:m∈uS.2.1
 k2:k.2=0∨k.2=1
 kn:k∉an s.1
 ok:ah k∉an s.1
 nx:∀z∈uS.2.1,(if z=m then ah k else z)∈uT.2.1∧c6 uT.2.1 (if z=m then ah k else z)=(if c6 uS.2.1 z=m then ah k else c6 uS.2.1 z)
 p:(an t.1).Perm (k::ah k::an s.1)
 nv:∀x∈s.1,x.1≠v
 len:t.1.length=s.1.length+1
 al:al t.1=al s.1
theorem wY{m k:ae}(h:m≠k):c6 [m,k] m=k∧c6 [m,k] k=m:=by
 have hn:[m,k].Nodup:=by simp [h]
 have a:=nO hn (i:=0) (x:=m) rfl
 have b:=nO hn (i:=1) (x:=k) rfl
 exact ⟨a,by rw [b];simp⟩
variable {s t:ai} {v:ID} {m k:ae} {uS uT vV:aj}
theorem Fr.sub(h:Fr s t v m k uS uT vV):∃w,Sub s t v m k uS.1 w:=by
 have Jq:m∈an s.1:=aV.2 ⟨uS,h.us,h.mm⟩
 have hod:ah m∈an s.1:=h.ws.other Jq
 have Tl:=nV (h.ws.side Jq)
 have IS:m≠k:=fun e=>h.kn (e▸Jq)
 obtain ⟨w,hw⟩:=Option.isSome_iff_exists.1 (BA hod)
 have hvt:vV∈t.1:=(h.mem vV).2 (.inl rfl)
 have Tp:uT∈t.1:=(h.mem uT).2 (.inr (.inr rfl))
 have rs:=h.ws.rw
 have rt:=h.wt.rw
 have Q6:m∈vV.2.1:=by rcases h.vr with e | e<;>rw [e]<;>simp
 have Xs:k∈vV.2.1:=by rcases h.vr with e | e<;>rw [e]<;>simp
 have sm:sg t m=k∧sg t k=m:=by
  rw [iE rt hvt Q6,iE rt hvt Xs]
  rcases h.vr with e | e
  ·rw [e];exact wY IS
  ·rw [e];exact ⟨(wY (Ne.symm IS)).2,(wY (Ne.symm IS)).1⟩
 have hqu:ah k∈uT.2.1:=by have:=(h.nx m h.mm).1;rwa [if_pos rfl] at this
 have pl:∀z∈an s.1,(∃y,y∈s.1∧z∈y.2.1∧y∈t.1∧z≠m∧sg s z≠m)∨z∈uS.2.1:=fun z hz=>by
  obtain ⟨y,hy,Lh⟩:=aV.1 hz
  by_cases e:y.1=uS.1
  ·have:=Hs h.ws.sv h.us hy e
   subst this;exact .inr Lh
  ·refine .inl ⟨y,hy,Lh,(h.mem y).2 (.inr (.inl ⟨hy,e⟩)),fun q => ?_,fun q => ?_⟩
   ·subst q
    exact e (congrArg Prod.fst (rs.one h.us hy h.mm Lh))
   ·rw [iE rs hy Lh] at q
    have:=jP (rs.ring hy) Lh
    rw [q] at this
    exact e (congrArg Prod.fst (rs.one h.us hy h.mm this))
 have sgm:∀z∈an s.1,sg t (if z=m then ah k else z)=if sg s z=m then ah k else sg s z:=fun z hz=>by
  rcases pl z hz with ⟨y,hy,Lh,hyt,h1,h2⟩ | Cz
  ·rw [if_neg h1,if_neg h2,iE rt hyt Lh,iE rs hy Lh]
  ·obtain ⟨n1,n2⟩:=h.nx z Cz
   rw [iE rt Tp n1,iE rs h.us Cz];exact n2
 have up:∀z∈an s.1,z∈an t.1:=fun z hz=>h.p.mem_iff.2 (List.mem_cons_of_mem _ (List.mem_cons_of_mem _ hz))
 have kt:k∈an t.1:=h.p.mem_iff.2 (by simp)
 have qt:ah k∈an t.1:=h.p.mem_iff.2 (by simp)
 refine ⟨w,h.ws,h.wt,Jq,h.kn,h.ok,(fun e=>nV h.k2 e.symm),h.k2,h.p,fun z hz hzo => ?_,?_,?_,?_,?_,hw,fun z hz X4 => ?_,?_,?_,?_,fun r => ?_,h.nv,h.len,h.al⟩
 ·rw [iF (up z hz),iF hz]
  have bc:ah z≠m:=fun e=>hzo (by rw [←e,bQ (h.ws.side hz)])
  have:=sgm (ah z) (h.ws.other hz)
  rwa [if_neg bc] at this
 ·rw [iF (up _ hod),bQ (h.ws.side Jq)];exact sm.1
 ·rw [iF kt,iF hod,bQ (h.ws.side Jq)]
  have:=sgm m Jq
  rwa [if_pos rfl] at this
 ·rw [iF qt,bQ h.k2];exact sm.2
 ·exact dN rs h.us h.mm
 ·rcases pl z hz with ⟨y,hy,Lh,hyt,_,_⟩ | Cz
  ·exact (dN rt hyt Lh).trans (dN rs hy Lh).symm
  ·have n1:=(h.nx z Cz).1
   rw [if_neg X4] at n1
   refine (dN rt Tp n1).trans ((congrArg some h.ui).trans (dN rs h.us Cz).symm)
 ·exact (dN rt hvt Q6).trans (congrArg some h.vi)
 ·exact (dN rt hvt Xs).trans (congrArg some h.vi)
 ·exact (dN rt Tp hqu).trans (congrArg some h.ui)
 ·constructor
  ·rintro ⟨x,hx,rfl⟩
   rcases (h.mem x).1 hx with rfl | ⟨h1,_⟩ | rfl
   ·exact .inl h.vi
   ·exact .inr ⟨x,h1,rfl⟩
   ·exact .inr ⟨uS,h.us,h.ui.symm⟩
  ·rintro (rfl | ⟨x,hx,rfl⟩)
   ·exact ⟨vV,hvt,h.vi⟩
   ·by_cases e:x.1=uS.1
    ·exact ⟨uT,Tp,h.ui.trans e.symm⟩
    ·exact ⟨x,(h.mem x).2 (.inr (.inl ⟨hx,e⟩)),rfl⟩
theorem Fr.flat(h:Fr s t v m k uS uT vV):bS s=0↔bS t=0:=by
 obtain ⟨w,hs⟩:=h.sub
 exact QY hs
def nY(m q z:ae):ae:=if z=m then q else z
theorem Fh{row:List ae}(hn:row.Nodup){j:Nat}{m:ae}(hj:row[j]? = some m)(q:ae):row.set j q=row.map (nY m q):=by
 apply List.ext_getElem?
 intro i
 rw [List.getElem?_set,List.getElem?_map]
 by_cases e:j=i
 ·subst e
  have:=(List.getElem?_eq_some_iff.1 hj).1
  rw [if_pos rfl,if_pos this,hj]
  simp [nY]
 ·rw [if_neg e]
  cases hi:row[i]? with
  | none=>rfl
  | some x =>
   have:x≠m:=fun k=>by subst k;exact e (wL hn hj hi)
   simp [nY,this]
theorem HT{f g:ae→ae}{r:ae→ae}:∀{c:List ae} {y:ae},(∀z∈c,g (r z)=r (f z))→Path f c y→Path g (c.map r) (r y)
 | [],_,_,_=>trivial
 | a::c,y,h,p=>by
  obtain ⟨h1,h2⟩:f a=c.head?.getD y∧Path f c y:=p
  refine ⟨?_,HT (fun z hz=>h z (List.mem_cons_of_mem _ hz)) h2⟩
  rw [h a List.mem_cons_self,h1]
  cases c<;>rfl
theorem Tq{f g:ae→ae}{r:ae→ae}{c:List ae}(h:∀z∈c,g (r z)=r (f z))(hc:jk f c):jk g (c.map r):=by
 cases c with
 | nil=>exact hc.elim
 | cons x c=>exact HT (y:=x) h hc
theorem o8{row:List ae}(hn:row.Nodup){m q:ae}(hm:m∈row)(hq:q∉row){z:ae}(hz:z∈row):nY m q z∈fT row m q∧c6 (fT row m q) (nY m q z)=nY m q (c6 row z):=by
 obtain ⟨j,h1,h2,_⟩:=eZ hm
 have e:fT row m q=b5 (row.map (nY m q)):=by
  unfold fT
  rw [if_pos ⟨hm,hq⟩,h1,Int.toNat_natCast,Fh hn h2]
 have fB:nY m q z∈row.map (nY m q):=List.mem_map.2 ⟨z,hz,rfl⟩
 have nd:(row.map (nY m q)).Nodup:=by rw [←Fh hn h2];exact MF hn h2 hq
 rw [e]
 refine ⟨nH.2 fB,?_⟩
 have nd2:(b5 (row.map (nY m q))).Nodup:=(jJ _).nodup_iff.2 nd
 have c1:jk (c6 (b5 (row.map (nY m q)))) (row.map (nY m q)):=by
  obtain ⟨i,hi,he⟩:=xU (row.map (nY m q))
  have:=qF nd2 (List.ne_nil_of_mem (nH.2 fB))
  rw [he] at this ⊢
  exact Hu this
 have back:∀y∈row,nY q m (nY m q y)=y:=fun y hy=>by
  unfold nY
  by_cases a:y=m
  ·rw [if_pos a,if_pos rfl,a]
  ·rw [if_neg a,if_neg (fun kk:y=q=>hq (kk▸hy))]
 have c2:jk (fun y=>nY m q (c6 row (nY q m y))) (row.map (nY m q)):=by
  refine Tq (fun y hy => ?_) (qF hn (List.ne_nil_of_mem hz))
  show nY m q (c6 row (nY q m (nY m q y)))=_
  rw [back y hy]
 have:=DG c1 c2 _ fB
 rw [this]
 show nY m q (c6 row (nY q m (nY m q z)))=_
 rw [back z hz]
end Go.Vs
namespace Go.Vs
open Go.Proofs Go.Cy
theorem Lj(v:aj):∀l:List aj,al (c7 v l)=al (v::l)
 | []=>rfl
 | w::r=>by
  have ih:=Lj v r
  unfold c7
  split
  ·rfl
  ·unfold al at ih ⊢
   rw [List.countP_cons,ih,List.countP_cons,List.countP_cons,List.countP_cons]
   omega
theorem wZ(a b:List aj)(v:aj):al (a++v::b)=al a+(if v.2.1.isEmpty then 1 else 0)+al b:=by
 rw [Fg]
 have:al (v::b)=al b+if v.2.1.isEmpty then 1 else 0:=by unfold al;rw [List.countP_cons]
 omega
theorem w4{l:List ae}{x:ae}(h:x∈l):l.isEmpty=false:=by cases l with
 | nil=>cases h
 | cons _ _=>rfl
theorem M5{row:List ae}(hn:row.Nodup){m q:ae}(hm:m∈row)(hq:q∉row){z:ae}(hz:z∈fT row m q):∃y∈row,z=nY m q y:=by
 obtain ⟨j,h1,h2,_⟩:=eZ hm
 unfold fT at hz
 rw [if_pos ⟨hm,hq⟩,h1,Int.toNat_natCast,Fh hn h2] at hz
 obtain ⟨y,hy,e⟩:=List.mem_map.1 (nH.1 hz)
 exact ⟨y,hy,e.symm⟩
theorem QZ{d:ai}(h:Wf d){m k:ae}{v:ID}(Nb:m.2=0∨m.2=1)(mW:k.2=0∨k.2=1)(hm:(aU d.2 m.1).isSome=true)(Ny:aQ d.1 v=none)(ZV:aU d.2 k.1=none)
  (ht:Wf (c7 (v,(b5 [m,k],(e0,0))) (az d m (ah k)).1,fb (k.1,(e0,0)) (az d m (ah k)).2)) :
  ∃uS uT vV,Fr d (c7 (v,(b5 [m,k],(e0,0))) (az d m (ah k)).1,fb (k.1,(e0,0)) (az d m (ah k)).2) v m k uS uT vV:=by
 have Jq:m∈an d.1:=h.lK hm Nb
 have CV:ah k∉an d.1:=h.rF ZV _
 have hkn:k∉an d.1:=h.rF ZV _
 obtain ⟨p1,q1⟩:=ji h.rw Jq CV
 obtain ⟨uS,hu,UG⟩:=aV.1 Jq
 have hqu:ah k∉uS.2.1:=fun e=>CV (aV.2 ⟨uS,hu,e⟩)
 obtain ⟨a,b,e1,e2,_,e4⟩:=lJ h.sv hu
 obtain ⟨uT,Tp⟩:∃uT:aj,uT=(uS.1,(fT uS.2.1 m (ah k),uS.2.2)):=⟨_,rfl⟩
 have es:(az d m (ah k)).1=a++uT::b:=by
  rw [oT h.rw _ hu UG,Tp]
  exact e4 _
 have nd:=h.rw.ring hu
 have hmT:ah k∈uT.2.1:=by
  have:=(o8 nd UG hqu UG).1
  rw [Tp]
  unfold nY at this
  rwa [if_pos rfl] at this
 refine ⟨uS,uT,(v,(b5 [m,k],(e0,0))),h,ht,fun y => ?_,hu,by rw [Tp],rfl,P8 m k,UG,mW,hkn,CV,fun z hz => ?_,?_,fun x hx e => ?_,?_,?_⟩
 ·show y∈c7 _ (az d m (ah k)).1↔_
  rw [lF,es,e1]
  constructor
  ·rintro (k1 | k1)
   ·exact .inl k1
   ·rcases List.mem_append.1 k1 with k1 | k1
    ·exact .inr (.inl ⟨List.mem_append_left _ k1,e2 y (List.mem_append_left _ k1)⟩)
    ·rcases List.mem_cons.1 k1 with k1 | k1
     ·exact .inr (.inr k1)
     ·exact .inr (.inl ⟨List.mem_append_right _ (List.mem_cons_of_mem _ k1),e2 y (List.mem_append_right _ k1)⟩)
  ·rintro (k1 | ⟨k1,k2⟩ | k1)
   ·exact .inl k1
   ·refine .inr ?_
    rcases List.mem_append.1 k1 with k1 | k1
    ·exact List.mem_append_left _ k1
    ·rcases List.mem_cons.1 k1 with k1 | k1
     ·subst k1;exact absurd rfl k2
     ·exact List.mem_append_right _ (List.mem_cons_of_mem _ k1)
   ·rw [k1];exact .inr (List.mem_append_right _ List.mem_cons_self)
 ·rw [Tp];exact o8 nd UG hqu hz
 ·show (an (c7 _ (az d m (ah k)).1)).Perm _
  refine (tx _ _).trans ((List.Perm.append_right _ (jJ [m,k])).trans ?_)
  show (m::k::an (az d m (ah k)).1).Perm _
  exact (List.Perm.swap k m _).trans (List.Perm.cons k p1.symm)
 ·have:=jh h.sv hx
  rw [e,Ny] at this;cases this
 ·show (c7 _ (az d m (ah k)).1).length=_
  rw [fU,es,e1];simp
 ·show al (c7 _ (az d m (ah k)).1)=_
  rw [Lj,es,e1]
  have z1:al ((v,(b5 [m,k],((e0,0):ByteArray×Int)))::(a++uT::b))=al (a++uT::b):=by
   have:=wZ [] (a++uT::b) (v,(b5 [m,k],(e0,0)))
   rw [List.nil_append] at this
   rw [this,if_neg (by rw [w4 (x:=m) (nH.2 (by simp))];simp)]
   show al []+0+_=_
   have:al []=0:=rfl
   omega
  rw [z1,wZ,wZ,w4 hmT,w4 UG]
theorem M6{d:ai}(h:Wf d){vV:aj}{a b:ae}(hv:vV∈d.1)(hr:vV.2.1=[a,b]∨vV.2.1=[b,a])(nW:a.1≠b.1)(hs:Wf (aN (az (aN d vV.1 zI) (ah b) a) zI b.1)) :
  ∃uS uT,Fr (aN (az (aN d vV.1 zI) (ah b) a) zI b.1) d vV.1 a b uS uT vV:=by
 have hrp:vV.2.1.Perm [a,b]:=by
  rcases hr with e | e
  ·rw [e]
  ·rw [e];exact List.Perm.swap _ _ _
 obtain ⟨p,q,h1,bc,h2,_⟩:=lJ h.sv hv
 have pd:(an d.1).Perm (a::b::an (p++q)):=by
  have:=(gm p q vV).trans (List.Perm.append_right _ hrp)
  rw [←h1] at this;exact this
 have Js:aN d vV.1 zI=(p++q,d.2):=by unfold aN;rw [h2,oV h.ge]
 have Cf:=pd.nodup_iff.1 h.rw.n
 have hbd:b∈an d.1:=pd.mem_iff.2 (by simp)
 have vB:=h.side hbd
 have MD:ah b∈an (p++q):=by
  have h3:=h.other hbd
  rcases List.mem_cons.1 (pd.mem_iff.1 h3) with k | k
  ·exact absurd (congrArg Prod.fst k) (fun k=>nW k.symm)
  rcases List.mem_cons.1 k with k | k
  ·exact absurd k (nV vB)
  ·exact k
 have E1:Rw (p++q):=⟨by rw [←h2];exact lH h.sv,(List.nodup_cons.1 (List.nodup_cons.1 Cf).2).2⟩
 have ha:a∉an (p++q):=fun k=>(List.nodup_cons.1 Cf).1 (List.mem_cons_of_mem _ k)
 rw [Js] at hs ⊢
 obtain ⟨p1,q1⟩:=ji (d:=(p++q,d.2)) E1 MD ha
 have KR:∀w∈(az (p++q,d.2) (ah b) a).1,GV w:=by
  refine oU (d:=(p++q,d.2)) (fun w hw=>h.gv w ?_) _ _
  rw [h1]
  rcases List.mem_append.1 hw with k | k
  ·exact List.mem_append_left _ k
  ·exact List.mem_append_right _ (List.mem_cons_of_mem _ k)
 have KS:(aN (az (p++q,d.2) (ah b) a) zI b.1).1=(az (p++q,d.2) (ah b) a).1:=rz KR
 obtain ⟨uT,hu,Xu⟩:=aV.1 MD
 have hau:a∉uT.2.1:=fun e=>ha (aV.2 ⟨uT,hu,e⟩)
 obtain ⟨l,r,e1,e2,_,e4⟩:=lJ E1.s hu
 obtain ⟨uS,FI⟩:∃uS:aj,uS=(uT.1,(fT uT.2.1 (ah b) a,uT.2.2)):=⟨_,rfl⟩
 have es:(az (p++q,d.2) (ah b) a).1=l++uS::r:=by
  rw [oT (d:=(p++q,d.2)) E1 _ hu Xu,FI]
  exact e4 _
 have nd:=E1.ring hu
 have hmS:a∈uS.2.1:=by
  have:=(o8 nd Xu hau Xu).1
  rw [FI]
  unfold nY at this
  rwa [if_pos rfl] at this
 have back:∀y∈uT.2.1,nY a (ah b) (nY (ah b) a y)=y:=fun y hy=>by
  unfold nY
  by_cases c:y=ah b
  ·rw [if_pos c,if_pos rfl,c]
  ·rw [if_neg c,if_neg (fun kk:y=a=>hau (kk▸hy))]
 have hp:(an d.1).Perm (b::ah b::an (aN (az (p++q,d.2) (ah b) a) zI b.1).1):=by
  rw [KS]
  exact pd.trans ((List.Perm.swap b a _).trans (List.Perm.cons b p1))
 have abf:=hp.nodup_iff.1 h.rw.n
 have WN:∀y,y∈(aN (az (p++q,d.2) (ah b) a) zI b.1).1↔y∈l++uS::r:=fun y=>by rw [KS,es]
 refine ⟨uS,uT,hs,h,fun y => ?_,(WN uS).2 (List.mem_append_right _ List.mem_cons_self),by rw [FI],rfl,hr,hmS,vB,fun e => ?_,fun e => ?_,fun z hz => ?_,hp,fun x hx => ?_,?_,?_⟩
 ·rw [h1,WN]
  have yd:y∈p++vV::q↔y=vV∨y∈p++q:=by
   simp only [List.mem_append,List.mem_cons]
   constructor
   ·rintro (c | c | c)
    ·exact .inr (.inl c)
    ·exact .inl c
    ·exact .inr (.inr c)
   ·rintro (c | c | c)
    ·exact .inr (.inl c)
    ·exact .inl c
    ·exact .inr (.inr c)
  rw [yd,e1]
  have Ti:uS.1=uT.1:=by rw [FI]
  constructor
  ·rintro (c | c)
   ·exact .inl c
   ·rcases List.mem_append.1 c with c | c
    ·exact .inr (.inl ⟨List.mem_append_left _ c,by rw [Ti];exact e2 y (List.mem_append_left _ c)⟩)
    ·rcases List.mem_cons.1 c with c | c
     ·exact .inr (.inr c)
     ·exact .inr (.inl ⟨List.mem_append_right _ (List.mem_cons_of_mem _ c),by rw [Ti];exact e2 y (List.mem_append_right _ c)⟩)
  ·rintro (c | ⟨c,c2⟩ | c)
   ·exact .inl c
   ·refine .inr ?_
    rcases List.mem_append.1 c with c | c
    ·exact List.mem_append_left _ c
    ·rcases List.mem_cons.1 c with c | c
     ·subst c;exact absurd rfl c2
     ·exact List.mem_append_right _ (List.mem_cons_of_mem _ c)
   ·rw [c];exact .inr (List.mem_append_right _ List.mem_cons_self)
 ·exact (List.nodup_cons.1 abf).1 (List.mem_cons_of_mem _ e)
 ·exact (List.nodup_cons.1 (List.nodup_cons.1 abf).2).1 e
 ·rw [FI] at hz
  obtain ⟨y,hy,rfl⟩:=M5 nd Xu hau hz
  have n1:=(o8 nd Xu hau hy).2
  have n2:c6 uS.2.1 (nY (ah b) a y)=nY (ah b) a (c6 uT.2.1 y):=by rw [FI];exact n1
  have b1:=back y hy
  have b2:=back _ (jP nd hy)
  show nY a (ah b) (nY (ah b) a y)∈uT.2.1∧c6 uT.2.1 (nY a (ah b) (nY (ah b) a y))=nY a (ah b) (c6 uS.2.1 (nY (ah b) a y))
  rw [b1,n2,b2]
  exact ⟨hy,rfl⟩
 ·have hx:=(WN x).1 hx
  have:∃y∈p++q,y.1=x.1:=by
   rw [e1]
   rcases List.mem_append.1 hx with c | c
   ·exact ⟨x,List.mem_append_left _ c,rfl⟩
   ·rcases List.mem_cons.1 c with c | c
    ·exact ⟨uT,List.mem_append_right _ List.mem_cons_self,by rw [c,FI]⟩
    ·exact ⟨x,List.mem_append_right _ (List.mem_cons_of_mem _ c),rfl⟩
  obtain ⟨y,hy,e⟩:=this
  rw [←e];exact bc y hy
 ·rw [KS,es,h1]
  have:=congrArg List.length e1
  simp at this ⊢;omega
 ·rw [KS,es,h1]
  have z1:=wZ p q vV
  have z2:=wZ l r uS
  have z3:=wZ l r uT
  have z4:=Fg p q
  rw [e1] at z4
  rw [w4 (hrp.mem_iff.2 (by simp):a∈vV.2.1)] at z1
  rw [w4 hmS] at z2
  rw [w4 Xu] at z3
  simp at z1 z2 z3
  omega
end Go.Vs
namespace Go.Vs
open Go.Proofs Go.Cy
theorem bH:bS zS.1=0:=by
 have hr:mT zS.1 []:=⟨List.nodup_nil,fun r h=>(by cases h),fun r h=>(by cases h),fun v h=>(by cases h)⟩
 rw [gV Wf.zero hr];rfl
theorem Q0{s:StateT}(h:gy s)(hg:bS s.1=0)(o:bW):bS (wz s o).1.1=0:=by
 have hw:=(h.one o).d
 unfold wz at hw ⊢
 split
 ·exact bH
 rename_i hm
 rw [if_neg hm] at hw
 have hm:dd o=0:=Classical.byContradiction fun k=>hm k
 split
 ·rename_i h1
  rw [if_pos h1] at hw
  unfold sy at hw ⊢
  split
  ·exact bH
  rename_i k1
  rw [if_neg k1] at hw
  split
  ·exact bH
  rename_i k2
  rw [if_neg k2] at hw
  exact M3 h.d (by simpa [bZ] using k1) hw hg
 rename_i h1
 rw [if_neg h1] at hw
 split
 ·unfold xQ
  cases hv:bZ s.1 (bB o) with
  | none=>exact bH
  | some v =>
   simp only
   split
   ·exact bH
   ·rename_i hr
    have hl:Lone s.1 v:=⟨h.d,eE hv,by simpa using hr⟩
    have:=(DR hl).1 hg
    rw [gR hv] at this
    exact this
 rename_i h2
 rw [if_neg h2] at hw
 split
 ·unfold uV
  split;· exact bH
  split;· exact bH
  split;· exact bH
  split;· exact bH
  split;· exact bH
  rename_i k
  exact Classical.byContradiction fun q=>k q
 rename_i h3
 rw [if_neg h3] at hw
 split
 ·unfold Hc
  split;· exact bH
  rename_i k1
  exact QW (x:=bB o) ⟨h.d,rE k1⟩ hg
 rename_i h4
 rw [if_neg h4] at hw
 split
 ·rename_i hk
  rw [if_pos hk] at hw
  unfold mR at hw ⊢
  split;· exact bH
  rename_i k1
  rw [if_neg k1] at hw
  split;· exact bH
  rename_i k2
  rw [if_neg k2] at hw
  split;· exact bH
  rename_i k3
  rw [if_neg k3] at hw
  split;· exact bH
  rename_i k4
  rw [if_neg k4] at hw
  split;· exact bH
  rename_i k5
  rw [if_neg k5] at hw
  obtain ⟨m1,m2,m3,m4⟩:=wJ hm hk
  obtain ⟨s1,s2⟩:=Bv m3 m4
  obtain ⟨uS,uT,vV,fr⟩:=QZ (d:=s.1) (m:=Rm o) (k:=Nh o) (v:=fG o) h.d s1 s2 (rE k1) (by simpa [bZ] using k2) (by simpa [lV,Nh] using k3) hw
  exact fr.flat.1 hg
 rename_i h5
 rw [if_neg h5] at hw
 split
 ·rename_i h6
  rw [if_pos h6] at hw
  unfold mz at hw ⊢
  split
  ·exact bH
  ·rename_i v hv
   rw [hv] at hw
   have VS:=eE hv
   have VT:=gR hv
   simp only at hw
   split
   ·rename_i r0 r1 hr
    rw [hr] at hw
    simp only at hw
    have key:∀a b:ae,(v.2.1=[a,b]∨v.2.1=[b,a])→a.1≠b.1→Wf (H6 s o a b)→bS (H6 s o a b)=0:=fun a b hp nW NY=>by
     unfold H6 at NY ⊢
     rw [←VT] at NY ⊢
     obtain ⟨uS,uT,fr⟩:=M6 h.d VS hp nW NY
     exact fr.flat.2 hg
    unfold kG at hw ⊢
    split;· exact bH
    rename_i bc
    rw [if_neg bc] at hw
    split
    ·rename_i c
     rw [if_pos c] at hw
     exact key r1 r0 (.inr hr) (fun k=>bc k.symm) hw
    rename_i c
    rw [if_neg c] at hw
    split
    ·rename_i c2
     rw [if_pos c2] at hw
     exact key r0 r1 (.inl hr) bc hw
    ·exact bH
   ·exact bH
 rename_i h6
 rw [if_neg h6] at hw
 unfold wy at hw ⊢
 split
 ·rename_i c
  rw [if_pos c] at hw
  exact J3 (M4 o) h.d hw hg
 ·exact bH
theorem Lk:∀(l:List bW) {s:StateT},gy s→bS s.1=0→bS (Mq l s).1.1=0
 | [],s,h,hg=>hg
 | o::r,s,h,hg=>by
  unfold Mq
  split
  ·exact bH
  ·exact Lk r (h.one o) (Q0 h hg o)
theorem J4{s:StateT}(h:gy s)(hg:bS s.1=0)(l:List bW):bS (fC s l).1.1=0:=by
 unfold fC
 split
 ·exact bH
 ·exact Lk l h hg
theorem Q1{s:StateT}(h:gy s)(hg:bS s.1=0)(l:List bW):bS (mS s l).1=0:=by
 unfold mS
 split
 ·exact hg
 ·exact J4 h hg l
end Go.Vs
