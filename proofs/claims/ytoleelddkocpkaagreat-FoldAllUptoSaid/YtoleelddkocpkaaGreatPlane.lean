/- Whatever is done -/
import Derived.Test.YtoleelddkocpkaaGreatEuler
set_option linter.unusedVariables false
set_option linter.unusedSimpArgs false
namespace Go.Vs
open Go.Proofs Go.Cy
variable {G:(f:FuncId)→(g:aP)→Option (g.A→Option g.B)}
structure Lone(d:an)(v:ai):Prop where
 w:Wf d
 m:v∈d.1
 r:v.2.1=[]
theorem Lone.split{d:an}{v:ai}(h:Lone d v):∃a b,d.1=a++v::b∧(aO d v.1 zI)=(a++b,d.2)∧aq (a++b) ⊆ aq d.1∧(aq d.1).Perm (aq (a++b)):=by
 obtain⟨a,b,h1,_,h2,_⟩:=nj h.w.sv h.m;have p:(aq d.1).Perm (aq (a++b)):=by have:=jB a b v;rw[←h1,h.r,List.nil_append]at this;exact this
 exact⟨a,b,h1,by unfold aO;rw[h2,qR h.w.ge],fun x hx=>p.mem_iff.2 hx,p⟩
theorem Lone.wf{d:an}{v:ai}(h:Lone d v):Wf (aO d v.1 zI):=h.w.VI h.m h.r
theorem Lone.mem{d:an}{v:ai}(h:Lone d v){u:ai}:u∈(aO d v.1 zI).1↔u∈d.1∧u.1≠v.1:=by show u∈cV d.1 v.1↔_;unfold cV;rw[List.mem_filter];simp
theorem Lone.WI{d:an}{v:ai}(h:Lone d v):(aq (aO d v.1 zI).1).Perm (aq d.1):=by obtain⟨a,b,_,h2,_,h3⟩:=h.split;rw[h2];exact h3.symm
theorem Lone.WJ{d:an}{v:ai}(h:Lone d v){u:ai}{z:ae}(hu:u∈d.1)(hz:z∈u.2.1):u∈(aO d v.1 zI).1:=by refine h.mem.2 ⟨hu,fun k=>?_⟩;rw[LA h.w.sv h.m hu k,h.r]at hz;simp at hz
theorem Lone.at{d:an}{v:ai}(h:Lone d v){z:ae}(hz:z∈aq d.1):cg (aO d v.1 zI) z=cg d z:=by obtain⟨u,hu,I6⟩:=aU.1 hz;show E2 (aO d v.1 zI).1 z=E2 d.1 z;rw[eL h.w.rw hu I6,eL h.wf.rw (h.WJ hu I6) I6]
theorem Lone.YN{d:an}{v:ai}(h:Lone d v){a b:ID}:AZ (aO d v.1 zI) a b↔AZ d a b:=by
 constructor
 ·rintro⟨z,hz,h1,h2⟩;have hz:=h.WI.mem_iff.1 hz;exact⟨z,hz,by rw[←h.at hz];exact h1,by rw[←h.at (h.w.other hz)];exact h2⟩
 ·rintro⟨z,hz,h1,h2⟩;exact⟨z,h.WI.mem_iff.2 hz,by rw[h.at hz];exact h1,by rw[h.at (h.w.other hz)];exact h2⟩
theorem Lone.conn{d:an}{v:ai}(h:Lone d v){a b:ID}:cv (aO d v.1 zI) a b↔cv d a b:=by
 constructor
 ·intro k
  induction k with
  |refl=>exact .refl _
  |tail _ j ih=>exact ih.tail (h.YN.1 j)
 ·intro k
  induction k with
  |refl=>exact .refl _
  |tail _ j ih=>exact ih.tail (h.YN.2 j)
theorem Lone.alone{d:an}{v:ai}(h:Lone d v){b:ID}(k:cv d v.1 b):b=v.1:=by
 have key:∀{a b:ID},cv d a b→a=v.1→b=v.1:=fun {a b} k ha=>by
  induction k with
  |refl=>exact ha
  |tail _ j ih =>obtain⟨z,hz,h1,_⟩:=j;obtain⟨u,hu,I6,A7⟩:=sW h.w hz;rw[A7,ih]at h1;have:=ac0 h1;rw[LA h.w.sv h.m hu this,h.r]at I6;simp at I6
 exact key k rfl
theorem Lone.FA{d:an}{v:ai}(h:Lone d v){R:List ID}(hr:ox d R):∃R2,ox (aO d v.1 zI) R2∧R2.length+1=R.length:=by
 obtain⟨r,uN,hvr⟩:=hr.c v h.m;have hv:v.1∈R:=by rw[←h.alone hvr];exact uN
 refine⟨R.erase v.1,⟨hr.n.erase _,fun s hs=>?_,fun s hs t ht k=>hr.i s (adW hs) t (adW ht) (h.conn.1 k),fun u hu=>?_⟩,?_⟩
 ·obtain⟨u,hu,he⟩:=hr.v s (adW hs);refine⟨u,h.mem.2 ⟨hu,fun k=>?_⟩,he⟩;have:s=v.1:=he.symm.trans k;subst this;exact absurd hs (List.Nodup.not_mem_erase hr.n)
 ·obtain⟨hu1,hu2⟩:=h.mem.1 hu;obtain⟨s,hs,Mb⟩:=hr.c u hu1;refine⟨s,(ad0 fun k=>?_).2 hs,h.conn.2 Mb⟩;subst k;exact hu2 (h.alone (Mb.symm h.w))
 ·rw[List.length_erase_of_mem hv];have:=List.length_pos_of_mem hv;omega
theorem Lone.ph{d:an}{v:ai}(h:Lone d v){z:ae}(hz:z∈aq d.1):ph (aO d v.1 zI) z=ph d z:=by rw[jD hz,jD (h.WI.mem_iff.2 hz)];obtain⟨u,hu,I6⟩:=aU.1 (h.w.other hz);rw[jY h.w.rw hu I6,jY h.wf.rw (h.WJ hu I6) I6]
theorem Lone.bV{d:an}{v:ai}(h:Lone d v):(Vs.bV (aO d v.1 zI)).length=(Vs.bV d).length:=by have a:=bQ h.wf;have b:=bQ h.w;refine Hl.count h.w.rw.n ⟨fun c hc=>?_,a.p.trans h.WI⟩ b;refine(a.c c hc).congr fun z hz=>?_;have:z∈aq (aO d v.1 zI).1:=a.p.mem_iff.1 (ac9.2 ⟨c,hc,hz⟩);exact(h.ph (h.WI.mem_iff.1 this)).symm
theorem EL{d:an}(hw:Wf d){R:List ID}(hr:ox d R):fe d=(R.length:Int):=by rw[uA hw,(lB hw (eO hw)).len hw hr]
structure yi(d:an)(v:ai)(y:ae):Prop where
 w:Wf d
 m:v∈d.1
 r:v.2.1=[y]
theorem yi.mem{d:an}{v:ai}{y:ae}(h:yi d v y):y∈aq d.1:=aU.2 ⟨v,h.m,by rw[h.r];simp⟩
theorem yi.cut{d:an}{v:ai}{y:ae}(h:yi d v y):bW d y.1:=by obtain⟨e,he,h1,_⟩:=c7.1 (h.w.pd.mem_iff.1 h.mem);exact⟨h.w,by unfold aY;rw[List.find?_isSome];exact⟨e,he,by simpa using h1⟩⟩
theorem yi.lone{d:an}{v:ai}{y:ae}(h:yi d v y):∃u,Lone (c8 d y.1) u∧u.1=v.1:=by
 obtain⟨u,hu,bM⟩:=h.cut.I8.2 ⟨v,h.m,rfl⟩;refine⟨u,⟨h.cut.w,hu,?_⟩,bM⟩
 cases hq:u.2.1 with
 |nil=>rfl
 |cons z r =>
  exfalso;have hz:z∈u.2.1:=by rw[hq];simp
  have hzd:z∈aq (c8 d y.1).1:=aU.2 ⟨u,hu,hz⟩;have h1:cg (c8 d y.1) z=some u.1:=eL h.cut.w.rw hu hz;rw[h.cut.at hzd,bM]at h1;obtain⟨w,hw,Mj,A7⟩:=sW h.w (h.cut.sub hzd);rw[A7]at h1;have hwv:=LA h.w.sv h.m hw (ac0 h1);rw[hwv,h.r]at Mj;have PI:z=y:=by simpa using Mj
  have nd:=h.cut.p.nodup_iff.1 h.w.rw.n;have e:y=(y.1,y.2):=rfl;rcases h.w.side h.mem with k|k
  ·rw[k]at e;exact(acg.1 nd).1 (abC _ (e▸PI▸hzd))
  ·rw[k]at e;exact(acg.1 (acg.1 nd).2).1 (e▸PI▸hzd)
theorem yi.back{d:an}{v:ai}{y:ae}(h:yi d v y):ph d (aj y)=y:=by
 rw[jD (h.w.other h.mem),bY (h.w.side h.mem)];have hy:y∈v.2.1:=by rw[h.r];simp
 rw[jY h.w.rw h.m hy];exact(Hs (h.w.rw.ring h.m) hy).2 (by rw[h.r];rfl)
theorem yi.one{d:an}{v:ai}{y:ae}(h:yi d v y):Nu d (y.1,0) (y.1,1):=by
 have hm:aj y∈(bV d).flatten:=(bQ h.w).p.mem_iff.2 (h.w.other h.mem);obtain⟨c,hc,h1⟩:=ac9.1 hm;have h2:=((bQ h.w).c c hc).step h1;rw[h.back]at h2;have e:y=(y.1,y.2):=rfl;have eo:aj y=(y.1,(aj y).2):=rfl;obtain⟨_,k⟩:=gX (h.w.side h.mem);rcases k with⟨k1,k2⟩|⟨k1,k2⟩
 ·rw[k1]at e;rw[k2]at eo;exact⟨c,hc,e▸h2,eo▸h1⟩
 ·rw[k1]at e;rw[k2]at eo;exact⟨c,hc,eo▸h1,e▸h2⟩
theorem yi.bV{d:an}{v:ai}{y:ae}(h:yi d v y):(Vs.bV (c8 d y.1)).length≤(Vs.bV d).length:=by
 have h1:=(h.cut.same h.one).2;have hb:=h.back;have e:y=(y.1,y.2):=rfl;have eo:aj y=(y.1,(aj y).2):=rfl;obtain⟨_,k⟩:=gX (h.w.side h.mem);rcases k with⟨k1,k2⟩|⟨k1,k2⟩
 ·rw[k1]at e;rw[k2]at eo;have:ph d (y.1,1)=(y.1,0):=by rw[←eo,hb];exact e
  rw[if_pos this]at h1
  split at h1<;>omega
 ·rw[k1]at e;rw[k2]at eo;have:ph d (y.1,0)=(y.1,1):=by rw[←eo,hb];exact e
  rw[if_pos this]at h1
  split at h1<;>omega
theorem yi.parts{d:an}{v:ai}{y:ae}(h:yi d v y){u:ai}(hu:Lone (c8 d y.1) u)(bM:u.1=v.1):fe (aO (c8 d y.1) v.1 zI)=fe d:=by
 obtain⟨a,b,ha,hb,_,_⟩:=h.cut.I9;have hr:=lB h.w (eO h.w);have XK:cg d y=some v.1:=eL h.w.rw h.m (by rw[h.r];simp);have XG:cg d (aj y)≠some v.1:=fun k=>by
  obtain⟨w,hw,Mj,A7⟩:=sW h.w (h.w.other h.mem);rw[A7]at k;rw[LA h.w.sv h.m hw (Option.some.inj k),h.r]at Mj;have Mj:aj y=y:=by simpa using Mj
  obtain⟨_,m⟩:=gX (h.w.side h.mem);rw[Mj]at m;omega
 have bw:a≠b∧(a=v.1∨b=v.1):=by
  have e:y=(y.1,y.2):=rfl;have eo:aj y=(y.1,(aj y).2):=rfl;obtain⟨_,k⟩:=gX (h.w.side h.mem);rcases k with⟨k1,k2⟩|⟨k1,k2⟩
  ·rw[k1]at e;rw[k2]at eo;rw[e,ha]at XK;rw[eo,hb]at XG;have:=ac0 XK;exact⟨fun k=>XG (by rw[←k,this]),.inl this⟩
  ·rw[k1]at e;rw[k2]at eo;rw[e,hb]at XK;rw[eo,ha]at XG;have:=ac0 XK;exact⟨fun k=>XG (by rw[k,this]),.inr this⟩
 have Af:¬cv (c8 d y.1) a b:=fun k=>by
  rcases bw.2 with m|m
  ·rw[m,←bM]at k;exact bw.1 (m.trans (bM▸hu.alone k).symm)
  ·rw[m,←bM]at k;exact bw.1 ((bM▸hu.alone (k.symm h.cut.w):a=v.1).trans m.symm)
 obtain⟨R2,h2,h3⟩:=h.cut.V5 ha hb Af hr;obtain⟨R3,h4,h5⟩:=hu.FA h2;rw[bM]at h4;have hwf:=hu.wf;rw[bM]at hwf;rw[EL hwf h4,EL h.w hr];omega
end Go.Vs
namespace Go.Vs
open Go.Proofs Go.Cy
theorem uD{d:an}(hw:Wf d):∃R,ox d R:=⟨_,lB hw (eO hw)⟩
theorem iU{d:an}(hw:Wf d){R:List ID}(hr:ox d R):bH d=0↔d.1.length+ft d=2*R.length+d.2.length:=by
 obtain⟨k,h1,h2⟩:=Ev hw hr;rw[h1];constructor
 ·intro h;omega
 ·intro h;omega
theorem qZ{d:an}(hw:Wf d):(aq d.1).length=2*d.2.length:=by have:=hw.pd.length_eq;rw[AY]at this;omega
theorem WK{d':an}{x:ID}(h:bW d' x)(hg:bH d'=0):bH (c8 d' x)=0:=by
 obtain⟨u,w,hu,hw,_,_⟩:=h.I9;obtain⟨R,hr⟩:=uD h.wf;have k:=(iU h.wf hr).1 hg;have hv:(c8 d' x).1.length=d'.1.length:=by have:=congrArg List.length h.ids;simpa using this
 have he:(c8 d' x).2.length+1=d'.2.length:=by have h1:=qZ h.wf;have h2:=qZ h.w;have h3:=h.p.length_eq;simp at h3;omega
 by_cases hc:cv (c8 d' x) u w
 ·have QT:=h.FA hu hw hc hr;by_cases ho:Nu d' (x,0) (x,1)
  ·have h1:=(h.same ho).1;obtain⟨j,_,h2⟩:=Ev h.w QT;omega
  ·have h1:=h.diff ho;rw[iU h.w QT];omega
 ·obtain⟨R2,QT,hl⟩:=h.V5 hu hw hc hr;have ho:Nu d' (x,0) (x,1):=Classical.byContradiction fun ho=>hc (h.Ht hu hw ho);have h1:=(h.same ho).1;rw[iU h.w QT];omega
theorem Jk(a b:List ai):al (a++b)=al a+al b:=List.countP_append
theorem HC{d:an}{v:ai}(h:Lone d v):bH d=0↔bH (aO d v.1 zI)=0:=by
 obtain⟨R,hr⟩:=uD h.w;obtain⟨R2,QT,hl⟩:=h.FA hr;rw[iU h.w hr,iU h.wf QT];obtain⟨a,b,k1,k2,_,_⟩:=h.split;have hf:=h.bV;have e1:d.1.length=(aO d v.1 zI).1.length+1:=by rw[k1,k2];simp;omega
 have e2:(aO d v.1 zI).2.length=d.2.length:=by rw[k2]
 have e3:al d.1=al (aO d v.1 zI).1+1:=by
  rw[k1,k2];show al (a++v::b)=al (a++b)+1;rw[Jk,Jk];have:al (v::b)=al b+1:=by unfold al;rw[List.countP_cons,h.r];rfl
  omega
 have f1:ft d=(bV d).length+al d.1:=rfl;have f2:ft (aO d v.1 zI)=(bV (aO d v.1 zI)).length+al (aO d v.1 zI).1:=rfl;omega
theorem Sd{d:an}(hw:Wf d){x:ID}(hx:aT d.1 x=none)(M9:Wf (cW (x,([],(e0,0))) d.1,d.2))(hg:bH d=0):bH (cW (x,([],(e0,0))) d.1,d.2)=0:=by
 have hl:Lone (cW (x,([],(e0,0))) d.1,d.2) (x,([],(e0,0))):=⟨M9,jS.2 (.inl rfl),rfl⟩;rw[HC hl];have e:aO (cW (x,([],(e0,0))) d.1,d.2) x zI=d:=by have h1:=D6 (x,([],(e0,0))) (l:=d.1) hx;have h2:=qR hw.ge;unfold aO;show(cV (cW (x,([],(e0,0))) d.1) x,c6 d.2 zI)=d;rw[h2];exact congrArg (fun l:List ai=>((l,d.2):an)) h1
 show bH (aO (cW (x,([],(e0,0))) d.1,d.2) x zI)=0;rw[e];exact hg
structure jE(f:ai→ai)(g:ak→ak):Prop where
 i:∀v,(f v).1=v.1
 r:∀v,(f v).2.1=v.2.1
 e:∀a,(g a).1=a.1
variable {f:ai→ai} {g:ak→ak}
theorem jE.aq(k:jE f g)(l:List ai):Vs.aq (l.map f)=Vs.aq l:=by unfold Vs.aq;rw[List.flatMap_map];congr 1;funext v;exact k.r v
theorem jE.at(k:jE f g)(l:List ai)(x:ae):E2 (l.map f) x=E2 l x:=by
 unfold E2;rw[List.find?_map];have:((fun v:ai=>decide (x∈v.2.1)) ∘ f)=fun v:ai=>decide (x∈v.2.1):=by funext v;show decide (x∈(f v).2.1)=_;rw[k.r]
 rw[this,Option.map_map];congr 1;funext v;exact k.i v
theorem jE.find(k:jE f g)(l:List ai)(x:ID):aT (l.map f) x=(aT l x).map f:=by
 unfold aT;rw[List.find?_map];have:((fun v:ai=>decide (v.1=x)) ∘ f)=fun v:ai=>decide (v.1=x):=by funext v;show decide ((f v).1=x)=_;rw[k.i]
 rw[this]
theorem jE.al(k:jE f g)(l:List ai):Vs.al (l.map f)=Vs.al l:=by unfold Vs.al;rw[List.countP_map];congr 1;funext v;show(f v).2.1.isEmpty=_;rw[k.r]
theorem jE.j9(k:jE f g)(d:an)(x:ae):Vs.j9 (d.1.map f,d.2.map g) x=Vs.j9 d x:=by
 unfold Vs.j9;have h1:cg (d.1.map f,d.2.map g) x=cg d x:=k.at d.1 x;rw[h1]
 cases cg d x with
 |none=>rfl
 |some a =>
  have h2:bI (d.1.map f,d.2.map g) a=bI d a:=by
   unfold bI br;show((aT (d.1.map f) a).getD zV).2.1=_;rw[k.find]
   cases aT d.1 a with
   |none=>rfl
   |some v=>exact k.r v
  show dw (bI (d.1.map f,d.2.map g) a) x 1=_;rw[h2]
theorem jE.ph(k:jE f g)(d:an)(x:ae):Vs.ph (d.1.map f,d.2.map g) x=Vs.ph d x:=by unfold Vs.ph Jy;have h1:cg (d.1.map f,d.2.map g) x=cg d x:=k.at d.1 x;rw[h1,k.j9]
theorem jE.YN(k:jE f g)(d:an){a b:ID}:AZ (d.1.map f,d.2.map g) a b↔AZ d a b:=by
 unfold AZ;have h:∀z,cg (d.1.map f,d.2.map g) z=cg d z:=fun z=>k.at d.1 z;have hd:Vs.aq (d.1.map f)=Vs.aq d.1:=k.aq d.1;constructor
 ·rintro⟨z,h1,h2,h3⟩;exact⟨z,hd▸h1,(h z).symm.trans h2,(h _).symm.trans h3⟩
 ·rintro⟨z,h1,h2,h3⟩;exact⟨z,hd.symm▸h1,(h z).trans h2,(h _).trans h3⟩
theorem jE.conn(k:jE f g)(d:an){a b:ID}:cv (d.1.map f,d.2.map g) a b↔cv d a b:=by
 constructor
 ·intro h
  induction h with
  |refl=>exact .refl _
  |tail _ j ih=>exact ih.tail ((k.YN d).1 j)
 ·intro h
  induction h with
  |refl=>exact .refl _
  |tail _ j ih=>exact ih.tail ((k.YN d).2 j)
theorem jE.FA(k:jE f g){d:an}{R:List ID}(h:ox d R):ox (d.1.map f,d.2.map g) R:=by
 refine⟨h.n,fun r hr=>?_,fun r hr s hs hc=>h.i r hr s hs ((k.conn d).1 hc),fun v hv=>?_⟩
 ·obtain⟨v,hv,he⟩:=h.v r hr;exact⟨f v,acU.2 ⟨v,hv,rfl⟩,(k.i v).trans he⟩
 ·obtain⟨u,hu,rfl⟩:=acU.1 hv;obtain⟨r,hr,hc⟩:=h.c u hu;exact⟨r,hr,by rw[k.i];exact(k.conn d).2 hc⟩
theorem NU(k:jE f g){d:an}(hw:Wf d)(M9:Wf (d.1.map f,d.2.map g))(hg:bH d=0):bH (d.1.map f,d.2.map g)=0:=by obtain⟨R,hr⟩:=uD hw;have h:=(iU hw hr).1 hg;rw[iU M9 (k.FA hr)];have hd:Vs.aq (d.1.map f)=Vs.aq d.1:=k.aq d.1;have a:=bQ hw;have b:=bQ M9;have hc:(bV (d.1.map f,d.2.map g)).length=(bV d).length :=Hl.count (D:=Vs.aq (d.1.map f)) M9.rw.n b ⟨fun c hc=>(a.c c hc).congr fun z hz=>k.ph d z,a.p.trans (List.Perm.of_eq hd.symm)⟩;have f1:ft d=(bV d).length+Vs.al d.1:=rfl;have f2:ft (d.1.map f,d.2.map g)=(bV (d.1.map f,d.2.map g)).length+Vs.al (d.1.map f):=rfl;have hal:Vs.al (d.1.map f)=Vs.al d.1:=k.al d.1;show(d.1.map f).length+_=_+(d.2.map g).length;rw[List.length_map,List.length_map];omega
theorem Se(o:bj):jE (iO o) (jR o):=by
 refine⟨fun v=>?_,fun v=>?_,fun a=>?_⟩
 ·unfold iO;split
  ·split<;>rfl
  ·rfl
 ·unfold iO;split
  ·split<;>rfl
  ·rfl
 ·unfold jR;split
  ·split<;>rfl
  ·rfl
end Go.Vs
namespace Go.Vs
open Go.Proofs Go.Cy
def hd(l:List ae):ae:=l.head?.getD zD
theorem HD{f g:ae→ae}{φ:ae→List ae}(hn:∀z,φ z≠[]):∀{c:List ae} {y:ae},(∀z∈c,Path g (φ z) (hd (φ (f z))))→Path f c y→Path g (c.flatMap φ) (hd (φ y))
 |[],y,_,_=>trivial
 |a::r,y,hp,h=>by
  obtain⟨h1,h2⟩:f a=r.head?.getD y∧Path f r y:=h;have ih:=HD hn (fun z hz=>hp z (abC _ hz)) h2;rw[List.flatMap_cons];refine Path.app.2 ⟨?_,ih⟩;have:=hp a aco;rw[h1]at this
  cases r with
  |nil=>exact this
  |cons b r =>
   have e:((b::r).flatMap φ).head?.getD (hd (φ y))=hd (φ b):=by
    rw[List.flatMap_cons]
    cases hb:φ b with
    |nil=>exact absurd hb (hn b)
    |cons q s=>rfl
   rw[e];exact this
theorem WL{f g:ae→ae}{φ:ae→List ae}(hn:∀z,φ z≠[]){c:List ae}(hp:∀z∈c,Path g (φ z) (hd (φ (f z))))(h:jX f c):jX g (c.flatMap φ):=by
 cases c with
 |nil=>exact h.elim
 |cons x r =>
  have h':Path f (x::r) x:=h;have:=HD hn hp h';rw[List.flatMap_cons]at this ⊢
  cases hx:φ x with
  |nil=>exact absurd hx (hn x)
  |cons q s =>rw[hx]at this;exact this
structure Sub(s t:an)(v:ID)(m k:ae)(u w:ID):Prop where
 ws:Wf s
 wt:Wf t
 mm:m∈aq s.1
 kn:k∉aq s.1
 ok:aj k∉aq s.1
 kk:k≠aj k
 k2:k.2=0∨k.2=1
 p:(aq t.1).Perm (k::aj k::aq s.1)
 pm:∀z∈aq s.1,z≠aj m→ph t z=if ph s z=m then aj k else ph s z
 po:ph t (aj m)=k
 pk:ph t k=if ph s (aj m)=m then aj k else ph s (aj m)
 pq:ph t (aj k)=m
 am:cg s m=some u
 ao:cg s (aj m)=some w
 at_:∀z∈aq s.1,z≠m→cg t z=cg s z
 tm:cg t m=some v
 tk:cg t k=some v
 tq:cg t (aj k)=some u
 vs:∀r,(∃x∈t.1,x.1=r)↔r=v∨∃x∈s.1,x.1=r
 nv:∀x∈s.1,x.1≠v
 len:t.1.length=s.1.length+1
 al:al t.1=al s.1
variable {s t:an} {v:ID} {m k:ae} {u w:ID}
def pW(m k:ae)(z:ae):List ae:=if z=m then[aj k,m] else if z=aj m then[aj m,k] else[z]
theorem Zl(m k z:ae):pW m k z≠[]:=by
 unfold pW;by_cases e:z=m
 ·rw[if_pos e];simp
 ·rw[if_neg e];by_cases e2:z=aj m
  ·rw[if_pos e2];simp
  ·rw[if_neg e2];simp
theorem Sub.om(h:Sub s t v m k u w):aj m∈aq s.1:=h.ws.other h.mm
theorem pX{m:ae}(h:m.2=0∨m.2=1):aj m≠m:=fun e=>by obtain⟨_,k⟩:=gX h;rw[e]at k;rcases k with⟨a,b⟩|⟨a,b⟩<;>omega
theorem acL(h:Sub s t v m k u w)(y:ae):hd (pW m k y)=if y=m then aj k else y:=by
 unfold pW;by_cases e:y=m
 ·rw[if_pos e,if_pos e];rfl
 ·rw[if_neg e,if_neg e];by_cases e2:y=aj m
  ·rw[if_pos e2,e2];rfl
  ·rw[if_neg e2];rfl
theorem Sub.bV(h:Sub s t v m k u w):(Vs.bV t).length=(Vs.bV s).length:=by
 have a:=bQ h.ws;have b:=bQ h.wt;have Zm:=pX (h.ws.side h.mm);have cyc:∀c∈Vs.bV s,jX (ph t) (c.flatMap (pW m k)):=fun c hc=>by
  refine WL (Zl m k) (fun z hz=>?_) (a.c c hc);have hz:z∈aq s.1:=a.p.mem_iff.1 (ac9.2 ⟨c,hc,hz⟩);rw[acL h];unfold pW;by_cases e:z=m
  ·rw[if_pos e,e];exact⟨h.pq,h.pm m h.mm (fun q=>Zm q.symm),trivial⟩
  ·rw[if_neg e];by_cases e2:z=aj m
   ·rw[if_pos e2,e2];exact⟨h.po,h.pk,trivial⟩
   ·rw[if_neg e2];exact⟨h.pm z hz e2,trivial⟩
 have perm:((Vs.bV s).map (·.flatMap (pW m k))).flatten.Perm (aq t.1):=by
  have e:((Vs.bV s).map (·.flatMap (pW m k))).flatten=(Vs.bV s).flatten.flatMap (pW m k):=by
   have:∀L:List (List ae),(L.map (·.flatMap (pW m k))).flatten=L.flatten.flatMap (pW m k):=by
    intro L
    induction L with
    |nil=>rfl
    |cons a L ih=>rw[List.map_cons,List.flatten_cons,List.flatten_cons,List.flatMap_append,ih]
   exact this _
  rw[e];refine(a.p.flatMap_right (pW m k)).trans ((?_:((aq s.1).flatMap (pW m k)).Perm _).trans h.p.symm);have nd:=h.ws.rw.n;obtain⟨r1,hr1⟩:∃r1,(aq s.1).Perm (m::r1):=⟨_,List.perm_cons_erase h.mm⟩;have hm1:aj m∈r1:=(abL.1 (hr1.mem_iff.1 h.om)).resolve_left Zm;obtain⟨r2,QT⟩:∃r2,r1.Perm (aj m::r2):=⟨_,List.perm_cons_erase hm1⟩;have hp:(aq s.1).Perm (m::aj m::r2):=hr1.trans (List.Perm.cons _ QT);have nd2:=hp.nodup_iff.1 nd;have bM:r2.flatMap (pW m k)=r2:=by
   have:∀l:List ae,(∀z∈l,z≠m∧z≠aj m)→l.flatMap (pW m k)=l:=by
    intro l
    induction l with
    |nil=>intro _;rfl
    |cons z l ih =>intro hl;obtain⟨h1,h2⟩:=hl z aco;rw[List.flatMap_cons,ih fun y hy=>hl y (List.mem_cons_of_mem _ hy)];unfold pW;rw[if_neg h1,if_neg h2];rfl
   refine this r2 fun z hz=>⟨fun e=>?_,fun e=>?_⟩
   ·subst e;exact(acg.1 nd2).1 (abC _ hz)
   ·subst e;exact(acg.1 (acg.1 nd2).2).1 hz
  refine(hp.flatMap_right (pW m k)).trans ?_;rw[List.flatMap_cons,List.flatMap_cons,bM];have e1:pW m k m=[aj k,m]:=if_pos rfl;have e2:pW m k (aj m)=[aj m,k]:=by unfold pW;rw[if_neg Zm,if_pos rfl]
  rw[e1,e2];refine List.Perm.trans ?_ (List.Perm.cons k (List.Perm.cons (aj k) hp.symm));show(aj k::m::aj m::k::r2).Perm (k::aj k::m::aj m::r2);exact(List.perm_middle (l₁:=[aj k,m,aj m]) (l₂:=r2) (a:=k))
 have:=Hl.count h.wt.rw.n b ⟨fun c hc=>by obtain⟨c0,h1,rfl⟩:=acU.1 hc;exact cyc c0 h1,perm⟩;rw[List.length_map]at this;exact this
theorem Sub.PJ(h:Sub s t v m k u w){a b:ID}(c:cv s a b):cv t a b:=by
 have dt:∀z∈aq s.1,z∈aq t.1:=fun z hz=>h.p.mem_iff.2 (abC _ (abC _ hz));have Zm:=pX (h.ws.side h.mm);have hqt:aj k∈aq t.1:=h.p.mem_iff.2 (by simp);have uv:AZ t u v:=⟨aj k,hqt,h.tq,by rw[bY h.k2];exact h.tk⟩;have vw:AZ t v w:=⟨m,dt m h.mm,h.tm,by rw[h.at_ _ h.om Zm];exact h.ao⟩;have uw:cv t u w:=uv.conn.trans vw.conn
 induction c with
 |refl=>exact .refl _
 |tail _ j ih =>
  refine ih.trans ?_;obtain⟨z,hz,h1,h2⟩:=j;by_cases e:z=m
  ·subst e;rw[h.am]at h1;rw[h.ao]at h2
   cases h1;cases h2
   exact uw
  ·by_cases e2:z=aj m
   ·subst e2;rw[h.ao]at h1;rw[bY (h.ws.side h.mm),h.am]at h2
    cases h1;cases h2
    exact uw.symm h.wt
   ·have e3:aj z≠m:=fun q=>e2 (by rw[←q,bY (h.ws.side hz)]);exact AZ.conn ⟨z,dt z hz,by rw[h.at_ z hz e];exact h1,by rw[h.at_ _ (h.ws.other hz) e3];exact h2⟩
theorem Sub.Zn(h:Sub s t v m k u w){a b:ID}(c:cv t a b):cv s (if a=v then u else a) (if b=v then u else b):=by
 have Zm:=pX (h.ws.side h.mm);have uw:cv s u w:=AZ.conn ⟨m,h.mm,h.am,h.ao⟩;have vof:∀{z x},z∈aq s.1→cg s z=some x→x≠v:=fun {z x} hz hx=>by obtain⟨y,hy,_,h2⟩:=sW h.ws hz;rw[h2]at hx;cases hx;exact h.nv y hy
 have hu:=vof h.mm h.am;have hw:=vof h.om h.ao
 induction c with
 |refl=>exact .refl _
 |tail _ j ih =>
  refine ih.trans ?_;obtain⟨z,hz,h1,h2⟩:=j;have Cf:=h.p.mem_iff.1 hz;rcases abL.1 Cf with rfl|Cf
  ·rw[h.tk]at h1;rw[h.tq]at h2
   cases h1;cases h2
   rw[if_pos rfl,if_neg hu];exact .refl _
  ·rcases abL.1 Cf with rfl|Cf
   ·rw[h.tq]at h1;rw[bY h.k2,h.tk]at h2
    cases h1;cases h2
    rw[if_neg hu,if_pos rfl];exact .refl _
   ·by_cases e:z=m
    ·subst e;rw[h.tm]at h1;rw[h.at_ _ h.om Zm,h.ao]at h2
     cases h1;cases h2
     rw[if_pos rfl,if_neg hw];exact uw
    ·by_cases e2:z=aj m
     ·subst e2;rw[h.at_ _ h.om Zm,h.ao]at h1;rw[bY (h.ws.side h.mm),h.tm]at h2
      cases h1;cases h2
      rw[if_neg hw,if_pos rfl];exact uw.symm h.ws
     ·have e3:aj z≠m:=fun q=>e2 (by rw[←q,bY (h.ws.side Cf)]);rw[h.at_ z Cf e]at h1;rw[h.at_ _ (h.ws.other Cf) e3]at h2;rw[if_neg (vof Cf h1),if_neg (vof (h.ws.other Cf) h2)];exact AZ.conn ⟨z,Cf,h1,h2⟩
theorem Sub.FA(h:Sub s t v m k u w){R:List ID}(hr:ox s R):ox t R:=by
 refine⟨hr.n,fun r hrm=>(h.vs r).2 (.inr (hr.v r hrm)),fun r h1 q h2 c=>?_,fun x hx=>?_⟩
 ·obtain⟨x,hx,ZM⟩:=hr.v r h1;obtain⟨y,hy,hyq⟩:=hr.v q h2;have:=h.Zn c;rw[if_neg (by rw[←ZM];exact h.nv x hx),if_neg (by rw[←hyq];exact h.nv y hy)]at this;exact hr.i r h1 q h2 this
 ·rcases (h.vs x.1).1 ⟨x,hx,rfl⟩ with e|⟨y,hy,e⟩
  ·obtain⟨y,hy,_,hyu⟩:=sW h.ws h.mm;rw[h.am]at hyu;obtain⟨r,hrm,hc⟩:=hr.c y hy;refine⟨r,hrm,?_⟩;rw[e];have hqt:aj k∈aq t.1:=h.p.mem_iff.2 (by simp);have uv:AZ t u v:=⟨aj k,hqt,h.tq,by rw[bY h.k2];exact h.tk⟩;have e2:u=y.1:=ac0 hyu;exact(uv.symm h.wt).conn.trans (e2▸h.PJ hc)
  ·obtain⟨r,hrm,hc⟩:=hr.c y hy;exact⟨r,hrm,e▸h.PJ hc⟩
theorem WM(h:Sub s t v m k u w):bH s=0↔bH t=0:=by obtain⟨R,hr⟩:=uD h.ws;rw[iU h.ws hr,iU h.wt (h.FA hr)];have h1:=qZ h.ws;have h2:=qZ h.wt;have h3:=h.p.length_eq;have h4:=h.bV;have h5:=h.al;have h6:=h.len;have f1:ft s=(Vs.bV s).length+Vs.al s.1:=rfl;have f2:ft t=(Vs.bV t).length+Vs.al t.1:=rfl;simp at h3;omega
end Go.Vs
namespace Go.Vs
open Go.Proofs Go.Cy
structure Fr(s t:an)(v:ID)(m k:ae)(uS uT vV:ai):Prop where
 ws:Wf s
 wt:Wf t
 mem:∀y,y∈t.1↔y=vV∨(y∈s.1∧y.1≠uS.1)∨y=uT
 us:uS∈s.1
 ui:uT.1=uS.1
 vi:vV.1=v
 vr:vV.2.1=[m,k]∨vV.2.1=[k,m]
 mm:m∈uS.2.1
 k2:k.2=0∨k.2=1
 kn:k∉aq s.1
 ok:aj k∉aq s.1
 nx:∀z∈uS.2.1,(if z=m then aj k else z)∈uT.2.1∧dk uT.2.1 (if z=m then aj k else z)=(if dk uS.2.1 z=m then aj k else dk uS.2.1 z)
 p:(aq t.1).Perm (k::aj k::aq s.1)
 nv:∀x∈s.1,x.1≠v
 len:t.1.length=s.1.length+1
 al:al t.1=al s.1
theorem z5{m k:ae}(h:m≠k):dk [m,k] m=k∧dk [m,k] k=m:=by
 have hn:[m,k].Nodup:=by simp[h]
 have a:=pQ hn (i:=0) (x:=m) rfl;have b:=pQ hn (i:=1) (x:=k) rfl;exact⟨a,by rw[b];simp⟩
variable {s t:an} {v:ID} {m k:ae} {uS uT vV:ai}
theorem Fr.sub(h:Fr s t v m k uS uT vV):∃w,Sub s t v m k uS.1 w:=by
 have Jx:m∈aq s.1:=aU.2 ⟨uS,h.us,h.mm⟩;have hod:aj m∈aq s.1:=h.ws.other Jx;have Zm:=pX (h.ws.side Jx);have Yg:m≠k:=fun e=>h.kn (e▸Jx);obtain⟨w,hw⟩:=acV.1 (En hod);have hvt:vV∈t.1:=(h.mem vV).2 (.inl rfl);have Zo:uT∈t.1:=(h.mem uT).2 (.inr (.inr rfl));have rs:=h.ws.rw;have rt:=h.wt.rw;have Xv:m∈vV.2.1:=by rcases h.vr with e|e<;>rw[e]<;>simp
 have hkv:k∈vV.2.1:=by rcases h.vr with e|e<;>rw[e]<;>simp
 have sm:sg t m=k∧sg t k=m:=by
  rw[jY rt hvt Xv,jY rt hvt hkv];rcases h.vr with e|e
  ·rw[e];exact z5 Yg
  ·rw[e];exact⟨(z5 (Ne.symm Yg)).2,(z5 (Ne.symm Yg)).1⟩
 have hqu:aj k∈uT.2.1:=by have:=(h.nx m h.mm).1;rwa [if_pos rfl]at this
 have pl:∀z∈aq s.1,(∃y,y∈s.1∧z∈y.2.1∧y∈t.1∧z≠m∧sg s z≠m)∨z∈uS.2.1:=fun z hz=>by
  obtain⟨y,hy,PI⟩:=aU.1 hz;by_cases e:y.1=uS.1
  ·have:=LA h.ws.sv h.us hy e;subst this;exact .inr PI
  ·refine .inl ⟨y,hy,PI,(h.mem y).2 (.inr (.inl ⟨hy,e⟩)),fun q=>?_,fun q=>?_⟩
   ·subst q;exact e (congrArg Prod.fst (rs.one h.us hy h.mm PI))
   ·rw[jY rs hy PI]at q;have:=kI (rs.ring hy) PI;rw[q]at this;exact e (congrArg Prod.fst (rs.one h.us hy h.mm this))
 have sgm:∀z∈aq s.1,sg t (if z=m then aj k else z)=if sg s z=m then aj k else sg s z:=fun z hz=>by
  rcases pl z hz with⟨y,hy,PI,hyt,h1,h2⟩|I6
  ·rw[if_neg h1,if_neg h2,jY rt hyt PI,jY rs hy PI]
  ·obtain⟨n1,n2⟩:=h.nx z I6;rw[jY rt Zo n1,jY rs h.us I6];exact n2
 have up:∀z∈aq s.1,z∈aq t.1:=fun z hz=>h.p.mem_iff.2 (abC _ (abC _ hz));have kt:k∈aq t.1:=h.p.mem_iff.2 (by simp);have qt:aj k∈aq t.1:=h.p.mem_iff.2 (by simp);refine⟨w,h.ws,h.wt,Jx,h.kn,h.ok,(fun e=>pX h.k2 e.symm),h.k2,h.p,fun z hz hzo=>?_,?_,?_,?_,?_,hw,fun z hz hzm=>?_,?_,?_,?_,fun r=>?_,h.nv,h.len,h.al⟩
 ·rw[jD (up z hz),jD hz];have bw:aj z≠m:=fun e=>hzo (by rw[←e,bY (h.ws.side hz)]);have:=sgm (aj z) (h.ws.other hz)
  rwa [if_neg bw]at this
 ·rw[jD (up _ hod),bY (h.ws.side Jx)];exact sm.1
 ·rw[jD kt,jD hod,bY (h.ws.side Jx)];have:=sgm m Jx
  rwa [if_pos rfl]at this
 ·rw[jD qt,bY h.k2];exact sm.2
 ·exact eL rs h.us h.mm
 ·rcases pl z hz with⟨y,hy,PI,hyt,_,_⟩|I6
  ·exact(eL rt hyt PI).trans (eL rs hy PI).symm
  ·have n1:=(h.nx z I6).1;rw[if_neg hzm]at n1;refine(eL rt Zo n1).trans ((congrArg some h.ui).trans (eL rs h.us I6).symm)
 ·exact(eL rt hvt Xv).trans (congrArg some h.vi)
 ·exact(eL rt hvt hkv).trans (congrArg some h.vi)
 ·exact(eL rt Zo hqu).trans (congrArg some h.ui)
 ·constructor
  ·rintro⟨x,hx,rfl⟩;rcases (h.mem x).1 hx with rfl|⟨h1,_⟩|rfl
   ·exact .inl h.vi
   ·exact .inr ⟨x,h1,rfl⟩
   ·exact .inr ⟨uS,h.us,h.ui.symm⟩
  ·rintro(rfl|⟨x,hx,rfl⟩)
   ·exact⟨vV,hvt,h.vi⟩
   ·by_cases e:x.1=uS.1
    ·exact⟨uT,Zo,h.ui.trans e.symm⟩
    ·exact⟨x,(h.mem x).2 (.inr (.inl ⟨hx,e⟩)),rfl⟩
theorem Fr.flat(h:Fr s t v m k uS uT vV):bH s=0↔bH t=0:=by obtain⟨w,hs⟩:=h.sub;exact WM hs
def pZ(m q z:ae):ae:=if z=m then q else z
theorem Jl{row:List ae}(hn:row.Nodup){j:Nat}{m:ae}(hj:row[j]? = some m)(q:ae):row.set j q=row.map (pZ m q):=by
 apply adf;intro i;rw[List.getElem?_set,List.getElem?_map];by_cases e:j=i
 ·subst e;have:=(abJ.1 hj).1;rw[if_pos rfl,if_pos this,hj];simp[pZ]
 ·rw[if_neg e]
  cases hi:row[i]? with
  |none=>rfl
  |some x =>
   have:x≠m:=fun k=>by subst k;exact e (zN hn hj hi)
   simp[pZ,this]
theorem L0{f g:ae→ae}{r:ae→ae}:∀{c:List ae} {y:ae},(∀z∈c,g (r z)=r (f z))→Path f c y→Path g (c.map r) (r y)
 |[],_,_,_=>trivial
 |a::c,y,h,p=>by
  obtain⟨h1,h2⟩:f a=c.head?.getD y∧Path f c y:=p;refine⟨?_,L0 (fun z hz=>h z (abC _ hz)) h2⟩;rw[h a List.mem_cons_self,h1]
  cases c<;>rfl
theorem Zp{f g:ae→ae}{r:ae→ae}{c:List ae}(h:∀z∈c,g (r z)=r (f z))(hc:jX f c):jX g (c.map r):=by
 cases c with
 |nil=>exact hc.elim
 |cons x c=>exact L0 (y:=x) h hc
theorem q6{row:List ae}(hn:row.Nodup){m q:ae}(hm:m∈row)(hq:q∉row){z:ae}(hz:z∈row):pZ m q z∈fm row m q∧dk (fm row m q) (pZ m q z)=pZ m q (dk row z):=by
 obtain⟨j,h1,h2,_⟩:=eu hm;have e:fm row m q=cc (row.map (pZ m q)):=by unfold fm;rw[if_pos ⟨hm,hq⟩,h1,Int.toNat_natCast,Jl hn h2]
 have iy:pZ m q z∈row.map (pZ m q):=acU.2 ⟨z,hz,rfl⟩;have nd:(row.map (pZ m q)).Nodup:=by rw[←Jl hn h2];exact RN hn h2 hq
 rw[e];refine⟨pH.2 iy,?_⟩;have nd2:(cc (row.map (pZ m q))).Nodup:=(kB _).nodup_iff.2 nd;have c1:jX (dk (cc (row.map (pZ m q)))) (row.map (pZ m q)):=by obtain⟨i,hi,he⟩:=AX (row.map (pZ m q));have:=sS nd2 (adE (pH.2 iy));rw[he]at this ⊢;exact LC this
 have back:∀y∈row,pZ q m (pZ m q y)=y:=fun y hy=>by
  unfold pZ;by_cases a:y=m
  ·rw[if_pos a,if_pos rfl,a]
  ·rw[if_neg a,if_neg (fun kk:y=q=>hq (kk▸hy))]
 have c2:jX (fun y=>pZ m q (dk row (pZ q m y))) (row.map (pZ m q)):=by refine Zp (fun y hy=>?_) (sS hn (adE hz));show pZ m q (dk row (pZ q m (pZ m q y)))=_;rw[back y hy]
 have:=Hq c1 c2 _ iy;rw[this];show pZ m q (dk row (pZ q m (pZ m q z)))=_;rw[back z hz]
end Go.Vs
namespace Go.Vs
open Go.Proofs Go.Cy
theorem PL(v:ai):∀l:List ai,al (cW v l)=al (v::l)
 |[]=>rfl
 |w::r=>by
  have ih:=PL v r;unfold cW
  split
  ·rfl
  ·unfold al at ih ⊢;rw[List.countP_cons,ih,List.countP_cons,List.countP_cons,List.countP_cons];omega
theorem z6(a b:List ai)(v:ai):al (a++v::b)=al a+(if v.2.1.isEmpty then 1 else 0)+al b:=by
 rw[Jk];have:al (v::b)=al b+if v.2.1.isEmpty then 1 else 0:=by unfold al;rw[List.countP_cons]
 omega
theorem z7{l:List ae}{x:ae}(h:x∈l):l.isEmpty=false:=by cases l with
 |nil=>cases h
 |cons _ _=>rfl
theorem Sf{row:List ae}(hn:row.Nodup){m q:ae}(hm:m∈row)(hq:q∉row){z:ae}(hz:z∈fm row m q):∃y∈row,z=pZ m q y:=by obtain⟨j,h1,h2,_⟩:=eu hm;unfold fm at hz;rw[if_pos ⟨hm,hq⟩,h1,Int.toNat_natCast,Jl hn h2]at hz;obtain⟨y,hy,e⟩:=acU.1 (pH.1 hz);exact⟨y,hy,e.symm⟩
theorem WN{d:an}(h:Wf d){m k:ae}{v:ID}(Sq:m.2=0∨m.2=1)(oW:k.2=0∨k.2=1)(hm:(aY d.2 m.1).isSome=true)(Mu:aT d.1 v=none)(hnk:aY d.2 k.1=none) (ht:Wf (cW (v,(cc [m,k],(e0,0))) (aE d m (aj k)).1,dB (k.1,(e0,0)) (aE d m (aj k)).2)) :
  ∃uS uT vV,Fr d (cW (v,(cc [m,k],(e0,0))) (aE d m (aj k)).1,dB (k.1,(e0,0)) (aE d m (aj k)).2) v m k uS uT vV:=by
 have Jx:m∈aq d.1:=h.kH hm Sq;have Jw:aj k∉aq d.1:=h.uz hnk _;have hkn:k∉aq d.1:=h.uz hnk _;obtain⟨p1,q1⟩:=jW h.rw Jx Jw;obtain⟨uS,hu,hmu⟩:=aU.1 Jx;have hqu:aj k∉uS.2.1:=fun e=>Jw (aU.2 ⟨uS,hu,e⟩);obtain⟨a,b,e1,e2,_,e4⟩:=nj h.sv hu;obtain⟨uT,Zo⟩:∃uT:ai,uT=(uS.1,(fm uS.2.1 m (aj k),uS.2.2)):=⟨_,rfl⟩;have es:(aE d m (aj k)).1=a++uT::b:=by rw[qP h.rw _ hu hmu,Zo];exact e4 _
 have nd:=h.rw.ring hu;have hmT:aj k∈uT.2.1:=by
  have:=(q6 nd hmu hqu hmu).1;rw[Zo];unfold pZ at this
  rwa [if_pos rfl]at this
 refine⟨uS,uT,(v,(cc [m,k],(e0,0))),h,ht,fun y=>?_,hu,by rw[Zo],rfl,VO m k,hmu,oW,hkn,Jw,fun z hz=>?_,?_,fun x hx e=>?_,?_,?_⟩
 ·show y∈cW _ (aE d m (aj k)).1↔_;rw[jS,es,e1];constructor
  ·rintro(k1|k1)
   ·exact .inl k1
   ·rcases acS.1 k1 with k1|k1
    ·exact .inr (.inl ⟨ab1 _ k1,e2 y (ab1 _ k1)⟩)
    ·rcases abL.1 k1 with k1|k1
     ·exact .inr (.inr k1)
     ·exact .inr (.inl ⟨abV _ (abC _ k1),e2 y (abV _ k1)⟩)
  ·rintro(k1|⟨k1,k2⟩|k1)
   ·exact .inl k1
   ·refine .inr ?_;rcases acS.1 k1 with k1|k1
    ·exact ab1 _ k1
    ·rcases abL.1 k1 with k1|k1
     ·subst k1;exact absurd rfl k2
     ·exact abV _ (abC _ k1)
   ·rw[k1];exact .inr (abV _ aco)
 ·rw[Zo];exact q6 nd hmu hqu hz
 ·show(aq (cW _ (aE d m (aj k)).1)).Perm _;refine(wg _ _).trans ((ade _ (kB [m,k])).trans ?_);show(m::k::aq (aE d m (aj k)).1).Perm _;exact(List.Perm.swap k m _).trans (List.Perm.cons k p1.symm)
 ·have:=jV h.sv hx;rw[e,Mu]at this;cases this
 ·show(cW _ (aE d m (aj k)).1).length=_;rw[fw,es,e1];simp
 ·show al (cW _ (aE d m (aj k)).1)=_;rw[PL,es,e1];have z1:al ((v,(cc [m,k],((e0,0):ByteArray×Int)))::(a++uT::b))=al (a++uT::b):=by have:=z6 [] (a++uT::b) (v,(cc [m,k],(e0,0)));rw[List.nil_append]at this;rw[this,if_neg (by rw[z7 (x:=m) (pH.2 (by simp))];simp)];show al []+0+_=_;have:al []=0:=rfl;omega
  rw[z1,z6,z6,z7 hmT,z7 hmu]
theorem Sh{d:an}(h:Wf d){vV:ai}{a b:ae}(hv:vV∈d.1)(hr:vV.2.1=[a,b]∨vV.2.1=[b,a])(rm:a.1≠b.1)(hs:Wf (aO (aE (aO d vV.1 zI) (aj b) a) zI b.1)) :
  ∃uS uT,Fr (aO (aE (aO d vV.1 zI) (aj b) a) zI b.1) d vV.1 a b uS uT vV:=by
 have hrp:vV.2.1.Perm [a,b]:=by
  rcases hr with e|e
  ·rw[e]
  ·rw[e];exact List.Perm.swap _ _ _
 obtain⟨p,q,h1,bw,h2,_⟩:=nj h.sv hv;have pd:(aq d.1).Perm (a::b::aq (p++q)):=by have:=(jB p q vV).trans (ade _ hrp);rw[←h1]at this;exact this
 have RL:aO d vV.1 zI=(p++q,d.2):=by unfold aO;rw[h2,qR h.ge]
 have Fe:=pd.nodup_iff.1 h.rw.n;have hbd:b∈aq d.1:=pd.mem_iff.2 (by simp);have Bx:=h.side hbd;have RM:aj b∈aq (p++q):=by
  have h3:=h.other hbd;rcases abL.1 (pd.mem_iff.1 h3) with k|k
  ·exact absurd (congrArg Prod.fst k) (fun k=>rm k.symm)
  rcases abL.1 k with k|k
  ·exact absurd k (pX Bx)
  ·exact k
 have I4:Rw (p++q):=⟨by rw[←h2];exact ng h.sv,(acg.1 (acg.1 Fe).2).2⟩;have ha:a∉aq (p++q):=fun k=>(acg.1 Fe).1 (abC _ k);rw[RL]at hs ⊢;obtain⟨p1,q1⟩:=jW (d:=(p++q,d.2)) I4 RM ha;have Pe:∀w∈(aE (p++q,d.2) (aj b) a).1,GV w:=by
  refine qQ (d:=(p++q,d.2)) (fun w hw=>h.gv w ?_) _ _;rw[h1];rcases acS.1 hw with k|k
  ·exact ab1 _ k
  ·exact abV _ (abC _ k)
 have Sz:(aO (aE (p++q,d.2) (aj b) a) zI b.1).1=(aE (p++q,d.2) (aj b) a).1:=uq Pe;obtain⟨uT,hu,hbu⟩:=aU.1 RM;have hau:a∉uT.2.1:=fun e=>ha (aU.2 ⟨uT,hu,e⟩);obtain⟨l,r,e1,e2,_,e4⟩:=nj I4.s hu;obtain⟨uS,Mb⟩:∃uS:ai,uS=(uT.1,(fm uT.2.1 (aj b) a,uT.2.2)):=⟨_,rfl⟩;have es:(aE (p++q,d.2) (aj b) a).1=l++uS::r:=by rw[qP (d:=(p++q,d.2)) I4 _ hu hbu,Mb];exact e4 _
 have nd:=I4.ring hu;have hmS:a∈uS.2.1:=by
  have:=(q6 nd hbu hau hbu).1;rw[Mb];unfold pZ at this
  rwa [if_pos rfl]at this
 have back:∀y∈uT.2.1,pZ a (aj b) (pZ (aj b) a y)=y:=fun y hy=>by
  unfold pZ;by_cases c:y=aj b
  ·rw[if_pos c,if_pos rfl,c]
  ·rw[if_neg c,if_neg (fun kk:y=a=>hau (kk▸hy))]
 have hp:(aq d.1).Perm (b::aj b::aq (aO (aE (p++q,d.2) (aj b) a) zI b.1).1):=by rw[Sz];exact pd.trans ((List.Perm.swap b a _).trans (List.Perm.cons b p1))
 have ahj:=hp.nodup_iff.1 h.rw.n;have acM:∀y,y∈(aO (aE (p++q,d.2) (aj b) a) zI b.1).1↔y∈l++uS::r:=fun y=>by rw[Sz,es]
 refine⟨uS,uT,hs,h,fun y=>?_,(acM uS).2 (abV _ aco),by rw[Mb],rfl,hr,hmS,Bx,fun e=>?_,fun e=>?_,fun z hz=>?_,hp,fun x hx=>?_,?_,?_⟩
 ·rw[h1,acM];have HV:y∈p++vV::q↔y=vV∨y∈p++q:=by
   simp only[List.mem_append,List.mem_cons];constructor
   ·rintro(c|c|c)
    ·exact .inr (.inl c)
    ·exact .inl c
    ·exact .inr (.inr c)
   ·rintro(c|c|c)
    ·exact .inr (.inl c)
    ·exact .inl c
    ·exact .inr (.inr c)
  rw[HV,e1];have Zj:uS.1=uT.1:=by rw[Mb]
  constructor
  ·rintro(c|c)
   ·exact .inl c
   ·rcases acS.1 c with c|c
    ·exact .inr (.inl ⟨ab1 _ c,by rw[Zj];exact e2 y (ab1 _ c)⟩)
    ·rcases abL.1 c with c|c
     ·exact .inr (.inr c)
     ·exact .inr (.inl ⟨abV _ (abC _ c),by rw[Zj];exact e2 y (abV _ c)⟩)
  ·rintro(c|⟨c,c2⟩|c)
   ·exact .inl c
   ·refine .inr ?_;rcases acS.1 c with c|c
    ·exact ab1 _ c
    ·rcases abL.1 c with c|c
     ·subst c;exact absurd rfl c2
     ·exact abV _ (abC _ c)
   ·rw[c];exact .inr (abV _ aco)
 ·exact(acg.1 ahj).1 (abC _ e)
 ·exact(acg.1 (acg.1 ahj).2).1 e
 ·rw[Mb]at hz;obtain⟨y,hy,rfl⟩:=Sf nd hbu hau hz;have n1:=(q6 nd hbu hau hy).2;have n2:dk uS.2.1 (pZ (aj b) a y)=pZ (aj b) a (dk uT.2.1 y):=by rw[Mb];exact n1
  have b1:=back y hy;have b2:=back _ (kI nd hy);show pZ a (aj b) (pZ (aj b) a y)∈uT.2.1∧dk uT.2.1 (pZ a (aj b) (pZ (aj b) a y))=pZ a (aj b) (dk uS.2.1 (pZ (aj b) a y));rw[b1,n2,b2];exact⟨hy,rfl⟩
 ·have hx:=(acM x).1 hx;have:∃y∈p++q,y.1=x.1:=by
   rw[e1];rcases acS.1 hx with c|c
   ·exact⟨x,ab1 _ c,rfl⟩
   ·rcases abL.1 c with c|c
    ·exact⟨uT,abV _ aco,by rw[c,Mb]⟩
    ·exact⟨x,abV _ (abC _ c),rfl⟩
  obtain⟨y,hy,e⟩:=this;rw[←e];exact bw y hy
 ·rw[Sz,es,h1];have:=congrArg List.length e1;simp at this ⊢;omega
 ·rw[Sz,es,h1];have z1:=z6 p q vV;have z2:=z6 l r uS;have z3:=z6 l r uT;have z4:=Jk p q;rw[e1]at z4;rw[z7 (hrp.mem_iff.2 (by simp):a∈vV.2.1)]at z1;rw[z7 hmS]at z2;rw[z7 hbu]at z3;simp at z1 z2 z3;omega
theorem bR:bH zS.1=0:=by have hr:ox zS.1 []:=⟨List.nodup_nil,fun r h=>(by cases h),fun r h=>(by cases h),fun v h=>(by cases h)⟩;rw[iU Wf.zero hr];rfl
theorem WO{s:StateT}(h:dy s)(hg:bH s.1=0)(o:bj):bH (j6 s o).1.1=0:=by
 have hw:=(h.one o).d;unfold j6 at hw ⊢
 split
 ·exact bR
 rename_i hm;rw[if_neg hm]at hw;have hm:cE o=0:=Classical.byContradiction fun k=>hm k
 split
 ·rename_i h1;rw[if_pos h1]at hw;unfold nV at hw ⊢
  split
  ·exact bR
  rename_i k1;rw[if_neg k1]at hw
  split
  ·exact bR
  rename_i k2;rw[if_neg k2]at hw;exact Sd h.d (by simpa[br] using k1) hw hg
 rename_i h1;rw[if_neg h1]at hw
 split
 ·unfold vj
  cases hv:br s.1 (bh o) with
  |none=>exact bR
  |some v =>
   simp only
   split
   ·exact bR
   ·rename_i hr;have hl:Lone s.1 v:=⟨h.d,ed hv,by simpa using hr⟩;have:=(HC hl).1 hg;rw[iQ hv]at this;exact this
 rename_i h2;rw[if_neg h2]at hw
 split
 ·unfold nT
  split;· exact bR
  split;· exact bR
  split;· exact bR
  split;· exact bR
  split;· exact bR
  rename_i k;exact Classical.byContradiction fun q=>k q
 rename_i h3;rw[if_neg h3]at hw
 split
 ·unfold D3
  split;· exact bR
  rename_i k1;exact WK (x:=bh o) ⟨h.d,pP k1⟩ hg
 rename_i h4;rw[if_neg h4]at hw
 split
 ·rename_i hk;rw[if_pos hk]at hw;unfold kz at hw ⊢
  split;· exact bR
  rename_i k1;rw[if_neg k1]at hw
  split;· exact bR
  rename_i k2;rw[if_neg k2]at hw
  split;· exact bR
  rename_i k3;rw[if_neg k3]at hw
  split;· exact bR
  rename_i k4;rw[if_neg k4]at hw
  split;· exact bR
  rename_i k5;rw[if_neg k5]at hw;obtain⟨m1,m2,m3,m4⟩:=zL hm hk;obtain⟨s1,s2⟩:=Eh m3 m4;obtain⟨uS,uT,vV,fr⟩:=WN (d:=s.1) (m:=Ll o) (k:=G4 o) (v:=fi o) h.d s1 s2 (pP k1) (by simpa[br] using k2) (by simpa[gN,G4] using k3) hw;exact fr.flat.1 hg
 rename_i h5;rw[if_neg h5]at hw
 split
 ·rename_i h6;rw[if_pos h6]at hw;unfold jT at hw ⊢
  split
  ·exact bR
  ·rename_i v hv;rw[hv]at hw;have XL:=ed hv;have hvi:=iQ hv;simp only at hw
   split
   ·rename_i r0 r1 hr;rw[hr]at hw;simp only at hw;have key:∀a b:ae,(v.2.1=[a,b]∨v.2.1=[b,a])→a.1≠b.1→Wf (JA s o a b)→bH (JA s o a b)=0:=fun a b hp rm Tj=>by unfold JA at Tj ⊢;rw[←hvi]at Tj ⊢;obtain⟨uS,uT,fr⟩:=Sh h.d XL hp rm Tj;exact fr.flat.2 hg
    unfold iZ at hw ⊢
    split;· exact bR
    rename_i bw;rw[if_neg bw]at hw
    split
    ·rename_i c;rw[if_pos c]at hw;exact key r1 r0 (.inr hr) (fun k=>bw k.symm) hw
    rename_i c;rw[if_neg c]at hw
    split
    ·rename_i c2;rw[if_pos c2]at hw;exact key r0 r1 (.inl hr) bw hw
    ·exact bR
   ·exact bR
 rename_i h6;rw[if_neg h6]at hw;unfold v7 at hw ⊢
 split
 ·rename_i c;rw[if_pos c]at hw;exact NU (Se o) h.d hw hg
 ·exact bR
theorem PM:∀(l:List bj) {s:StateT},dy s→bH s.1=0→bH (D4 l s).1.1=0
 |[],s,h,hg=>hg
 |o::r,s,h,hg=>by
  unfold D4
  split
  ·exact bR
  ·exact PM r (h.one o) (WO h hg o)
theorem NV{s:StateT}(h:dy s)(hg:bH s.1=0)(l:List bj):bH (cf s l).1.1=0:=by
 unfold cf
 split
 ·exact bR
 ·exact PM l h hg
theorem WQ{s:StateT}(h:dy s)(hg:bH s.1=0)(l:List bj):bH (iP s l).1=0:=by
 unfold iP
 split
 ·exact hg
 ·exact NV h hg l
end Go.Vs
