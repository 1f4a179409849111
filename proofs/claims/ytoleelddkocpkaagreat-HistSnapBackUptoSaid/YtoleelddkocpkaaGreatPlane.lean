/- Whatever is done -/
import Derived.Test.YtoleelddkocpkaaGreatEuler
set_option linter.unusedVariables false
set_option linter.unusedSimpArgs false
namespace Go.Vs
open Go.Proofs Go.Cy
variable {G:(f:FuncId)→(g:aO)→Option (g.A→Option g.B)}
structure Lone(d:ak)(v:ai):Prop where
 w:Wf d
 m:v∈d.1
 r:v.2.1=[]
theorem Lone.split{d:ak}{v:ai}(h:Lone d v):∃a b,d.1=a++v::b∧(aM d v.1 zI)=(a++b,d.2)∧an (a++b) ⊆ an d.1∧(an d.1).Perm (an (a++b)):=by
 obtain⟨a,b,h1,_,h2,_⟩:=nH h.w.sv h.m;have p:(an d.1).Perm (an (a++b)):=by have:=jI a b v;rw[←h1,h.r,List.nil_append]at this;exact this
 exact⟨a,b,h1,by unfold aM;rw[h2,rp h.w.ge],fun x hx=>p.mem_iff.2 hx,p⟩
theorem Lone.wf{d:ak}{v:ai}(h:Lone d v):Wf (aM d v.1 zI):=h.w.Wa h.m h.r
theorem Lone.mem{d:ak}{v:ai}(h:Lone d v){u:ai}:u∈(aM d v.1 zI).1↔u∈d.1∧u.1≠v.1:=by show u∈cY d.1 v.1↔_;unfold cY;rw[List.mem_filter];simp
theorem Lone.Xb{d:ak}{v:ai}(h:Lone d v):(an (aM d v.1 zI).1).Perm (an d.1):=by obtain⟨a,b,_,h2,_,h3⟩:=h.split;rw[h2];exact h3.symm
theorem Lone.Xc{d:ak}{v:ai}(h:Lone d v){u:ai}{z:ab}(hu:u∈d.1)(hz:z∈u.2.1):u∈(aM d v.1 zI).1:=by refine h.mem.2 ⟨hu,fun k=>?_⟩;rw[LW h.w.sv h.m hu k,h.r]at hz;simp at hz
theorem Lone.at{d:ak}{v:ai}(h:Lone d v){z:ab}(hz:z∈an d.1):cf (aM d v.1 zI) z=cf d z:=by obtain⟨u,hu,Jf⟩:=aS.1 hz;show Fb (aM d v.1 zI).1 z=Fb d.1 z;rw[fh h.w.rw hu Jf,fh h.wf.rw (h.Xc hu Jf) Jf]
theorem Lone.Y9{d:ak}{v:ai}(h:Lone d v){a b:ID}:Bf (aM d v.1 zI) a b↔Bf d a b:=by
 constructor
 ·rintro⟨z,hz,h1,h2⟩;have hz:=h.Xb.mem_iff.1 hz;exact⟨z,hz,by rw[←h.at hz];exact h1,by rw[←h.at (h.w.other hz)];exact h2⟩
 ·rintro⟨z,hz,h1,h2⟩;exact⟨z,h.Xb.mem_iff.2 hz,by rw[h.at hz];exact h1,by rw[h.at (h.w.other hz)];exact h2⟩
theorem Lone.conn{d:ak}{v:ai}(h:Lone d v){a b:ID}:cq (aM d v.1 zI) a b↔cq d a b:=by
 constructor
 ·intro k
  induction k with
  |refl=>exact .refl _
  |tail _ j ih=>exact ih.tail (h.Y9.1 j)
 ·intro k
  induction k with
  |refl=>exact .refl _
  |tail _ j ih=>exact ih.tail (h.Y9.2 j)
theorem Lone.alone{d:ak}{v:ai}(h:Lone d v){b:ID}(k:cq d v.1 b):b=v.1:=by
 have key:∀{a b:ID},cq d a b→a=v.1→b=v.1:=fun {a b} k ha=>by
  induction k with
  |refl=>exact ha
  |tail _ j ih =>obtain⟨z,hz,h1,_⟩:=j;obtain⟨u,hu,Jf,Bq⟩:=tC h.w hz;rw[Bq,ih]at h1;have:=acP h1;rw[LW h.w.sv h.m hu this,h.r]at Jf;simp at Jf
 exact key k rfl
theorem Lone.FJ{d:ak}{v:ai}(h:Lone d v){R:List ID}(hr:oS d R):∃R2,oS (aM d v.1 zI) R2∧R2.length+1=R.length:=by
 obtain⟨r,ya,hvr⟩:=hr.c v h.m;have hv:v.1∈R:=by rw[←h.alone hvr];exact ya
 refine⟨R.erase v.1,⟨hr.n.erase _,fun s hs=>?_,fun s hs t ht k=>hr.i s (adW hs) t (adW ht) (h.conn.1 k),fun u hu=>?_⟩,?_⟩
 ·obtain⟨u,hu,he⟩:=hr.v s (adW hs);refine⟨u,h.mem.2 ⟨hu,fun k=>?_⟩,he⟩;have:s=v.1:=he.symm.trans k;subst this;exact absurd hs (List.Nodup.not_mem_erase hr.n)
 ·obtain⟨hu1,hu2⟩:=h.mem.1 hu;obtain⟨s,hs,MC⟩:=hr.c u hu1;refine⟨s,(adX fun k=>?_).2 hs,h.conn.2 MC⟩;subst k;exact hu2 (h.alone (MC.symm h.w))
 ·rw[List.length_erase_of_mem hv];have:=List.length_pos_of_mem hv;omega
theorem Lone.ph{d:ak}{v:ai}(h:Lone d v){z:ab}(hz:z∈an d.1):ph (aM d v.1 zI) z=ph d z:=by rw[jJ hz,jJ (h.Xb.mem_iff.2 hz)];obtain⟨u,hu,Jf⟩:=aS.1 (h.w.other hz);rw[kd h.w.rw hu Jf,kd h.wf.rw (h.Xc hu Jf) Jf]
theorem Lone.bW{d:ak}{v:ai}(h:Lone d v):(Vs.bW (aM d v.1 zI)).length=(Vs.bW d).length:=by have a:=bR h.wf;have b:=bR h.w;refine Hw.count h.w.rw.n ⟨fun c hc=>?_,a.p.trans h.Xb⟩ b;refine(a.c c hc).congr fun z hz=>?_;have:z∈an (aM d v.1 zI).1:=a.p.mem_iff.1 (adv.2 ⟨c,hc,hz⟩);exact(h.ph (h.Xb.mem_iff.1 this)).symm
theorem EV{d:ak}(hw:Wf d){R:List ID}(hr:oS d R):fE d=(R.length:Int):=by rw[uV hw,(lU hw (fi hw)).len hw hr]
structure yw(d:ak)(v:ai)(y:ab):Prop where
 w:Wf d
 m:v∈d.1
 r:v.2.1=[y]
theorem yw.mem{d:ak}{v:ai}{y:ab}(h:yw d v y):y∈an d.1:=aS.2 ⟨v,h.m,by rw[h.r];simp⟩
theorem yw.cut{d:ak}{v:ai}{y:ab}(h:yw d v y):bX d y.1:=by obtain⟨e,he,h1,_⟩:=eC.1 (h.w.pd.mem_iff.1 h.mem);exact⟨h.w,by unfold ba;rw[List.find?_isSome];exact⟨e,he,by simpa using h1⟩⟩
theorem yw.lone{d:ak}{v:ai}{y:ab}(h:yw d v y):∃u,Lone (dg d y.1) u∧u.1=v.1:=by
 obtain⟨u,hu,bM⟩:=h.cut.ED.2 ⟨v,h.m,rfl⟩;refine⟨u,⟨h.cut.w,hu,?_⟩,bM⟩
 cases hq:u.2.1 with
 |nil=>rfl
 |cons z r =>
  exfalso;have hz:z∈u.2.1:=by rw[hq];simp
  have hzd:z∈an (dg d y.1).1:=aS.2 ⟨u,hu,hz⟩;have h1:cf (dg d y.1) z=some u.1:=fh h.cut.w.rw hu hz;rw[h.cut.at hzd,bM]at h1;obtain⟨w,hw,MK,Bq⟩:=tC h.w (h.cut.sub hzd);rw[Bq]at h1;have hwv:=LW h.w.sv h.m hw (acP h1);rw[hwv,h.r]at MK;have P8:z=y:=by simpa using MK
  have nd:=h.cut.p.nodup_iff.1 h.w.rw.n;have e:y=(y.1,y.2):=rfl;rcases h.w.side h.mem with k|k
  ·rw[k]at e;exact(ab1.1 nd).1 (abA _ (e▸P8▸hzd))
  ·rw[k]at e;exact(ab1.1 (ab1.1 nd).2).1 (e▸P8▸hzd)
theorem yw.back{d:ak}{v:ai}{y:ab}(h:yw d v y):ph d (aj y)=y:=by
 rw[jJ (h.w.other h.mem),bY (h.w.side h.mem)];have hy:y∈v.2.1:=by rw[h.r];simp
 rw[kd h.w.rw h.m hy];exact(HC (h.w.rw.ring h.m) hy).2 (by rw[h.r];rfl)
theorem yw.one{d:ak}{v:ai}{y:ab}(h:yw d v y):NZ d (y.1,0) (y.1,1):=by
 have hm:aj y∈(bW d).flatten:=(bR h.w).p.mem_iff.2 (h.w.other h.mem);obtain⟨c,hc,h1⟩:=adv.1 hm;have h2:=((bR h.w).c c hc).step h1;rw[h.back]at h2;have e:y=(y.1,y.2):=rfl;have eo:aj y=(y.1,(aj y).2):=rfl;obtain⟨_,k⟩:=hZ (h.w.side h.mem);rcases k with⟨k1,k2⟩|⟨k1,k2⟩
 ·rw[k1]at e;rw[k2]at eo;exact⟨c,hc,e▸h2,eo▸h1⟩
 ·rw[k1]at e;rw[k2]at eo;exact⟨c,hc,eo▸h1,e▸h2⟩
theorem yw.bW{d:ak}{v:ai}{y:ab}(h:yw d v y):(Vs.bW (dg d y.1)).length≤(Vs.bW d).length:=by
 have h1:=(h.cut.same h.one).2;have hb:=h.back;have e:y=(y.1,y.2):=rfl;have eo:aj y=(y.1,(aj y).2):=rfl;obtain⟨_,k⟩:=hZ (h.w.side h.mem);rcases k with⟨k1,k2⟩|⟨k1,k2⟩
 ·rw[k1]at e;rw[k2]at eo;have:ph d (y.1,1)=(y.1,0):=by rw[←eo,hb];exact e
  rw[if_pos this]at h1
  split at h1<;>omega
 ·rw[k1]at e;rw[k2]at eo;have:ph d (y.1,0)=(y.1,1):=by rw[←eo,hb];exact e
  rw[if_pos this]at h1
  split at h1<;>omega
theorem yw.parts{d:ak}{v:ai}{y:ab}(h:yw d v y){u:ai}(hu:Lone (dg d y.1) u)(bM:u.1=v.1):fE (aM (dg d y.1) v.1 zI)=fE d:=by
 obtain⟨a,b,ha,hb,_,_⟩:=h.cut.Jh;have hr:=lU h.w (fi h.w);have X3:cf d y=some v.1:=fh h.w.rw h.m (by rw[h.r];simp);have XX:cf d (aj y)≠some v.1:=fun k=>by
  obtain⟨w,hw,MK,Bq⟩:=tC h.w (h.w.other h.mem);rw[Bq]at k;rw[LW h.w.sv h.m hw (Option.some.inj k),h.r]at MK;have MK:aj y=y:=by simpa using MK
  obtain⟨_,m⟩:=hZ (h.w.side h.mem);rw[MK]at m;omega
 have bB:a≠b∧(a=v.1∨b=v.1):=by
  have e:y=(y.1,y.2):=rfl;have eo:aj y=(y.1,(aj y).2):=rfl;obtain⟨_,k⟩:=hZ (h.w.side h.mem);rcases k with⟨k1,k2⟩|⟨k1,k2⟩
  ·rw[k1]at e;rw[k2]at eo;rw[e,ha]at X3;rw[eo,hb]at XX;have:=acP X3;exact⟨fun k=>XX (by rw[←k,this]),.inl this⟩
  ·rw[k1]at e;rw[k2]at eo;rw[e,hb]at X3;rw[eo,ha]at XX;have:=acP X3;exact⟨fun k=>XX (by rw[k,this]),.inr this⟩
 have Aw:¬cq (dg d y.1) a b:=fun k=>by
  rcases bB.2 with m|m
  ·rw[m,←bM]at k;exact bB.1 (m.trans (bM▸hu.alone k).symm)
  ·rw[m,←bM]at k;exact bB.1 ((bM▸hu.alone (k.symm h.cut.w):a=v.1).trans m.symm)
 obtain⟨R2,h2,h3⟩:=h.cut.Wu ha hb Aw hr;obtain⟨R3,h4,h5⟩:=hu.FJ h2;rw[bM]at h4;have hwf:=hu.wf;rw[bM]at hwf;rw[EV hwf h4,EV h.w hr];omega
end Go.Vs
namespace Go.Vs
open Go.Proofs Go.Cy
theorem uY{d:ak}(hw:Wf d):∃R,oS d R:=⟨_,lU hw (fi hw)⟩
theorem iW{d:ak}(hw:Wf d){R:List ID}(hr:oS d R):bL d=0↔d.1.length+ft d=2*R.length+d.2.length:=by
 obtain⟨k,h1,h2⟩:=EF hw hr;rw[h1];constructor
 ·intro h;omega
 ·intro h;omega
theorem rD{d:ak}(hw:Wf d):(an d.1).length=2*d.2.length:=by have:=hw.pd.length_eq;rw[Be]at this;omega
theorem Xd{d':ak}{x:ID}(h:bX d' x)(hg:bL d'=0):bL (dg d' x)=0:=by
 obtain⟨u,w,hu,hw,_,_⟩:=h.Jh;obtain⟨R,hr⟩:=uY h.wf;have k:=(iW h.wf hr).1 hg;have hv:(dg d' x).1.length=d'.1.length:=by have:=congrArg List.length h.ids;simpa using this
 have he:(dg d' x).2.length+1=d'.2.length:=by have h1:=rD h.wf;have h2:=rD h.w;have h3:=h.p.length_eq;simp at h3;omega
 by_cases hc:cq (dg d' x) u w
 ·have Rn:=h.FJ hu hw hc hr;by_cases ho:NZ d' (x,0) (x,1)
  ·have h1:=(h.same ho).1;obtain⟨j,_,h2⟩:=EF h.w Rn;omega
  ·have h1:=h.diff ho;rw[iW h.w Rn];omega
 ·obtain⟨R2,Rn,hl⟩:=h.Wu hu hw hc hr;have ho:NZ d' (x,0) (x,1):=Classical.byContradiction fun ho=>hc (h.HD hu hw ho);have h1:=(h.same ho).1;rw[iW h.w Rn];omega
theorem Jt(a b:List ai):al (a++b)=al a+al b:=List.countP_append
theorem HL{d:ak}{v:ai}(h:Lone d v):bL d=0↔bL (aM d v.1 zI)=0:=by
 obtain⟨R,hr⟩:=uY h.w;obtain⟨R2,Rn,hl⟩:=h.FJ hr;rw[iW h.w hr,iW h.wf Rn];obtain⟨a,b,k1,k2,_,_⟩:=h.split;have hf:=h.bW;have e1:d.1.length=(aM d v.1 zI).1.length+1:=by rw[k1,k2];simp;omega
 have e2:(aM d v.1 zI).2.length=d.2.length:=by rw[k2]
 have e3:al d.1=al (aM d v.1 zI).1+1:=by
  rw[k1,k2];show al (a++v::b)=al (a++b)+1;rw[Jt,Jt];have:al (v::b)=al b+1:=by unfold al;rw[List.countP_cons,h.r];rfl
  omega
 have f1:ft d=(bW d).length+al d.1:=rfl;have f2:ft (aM d v.1 zI)=(bW (aM d v.1 zI)).length+al (aM d v.1 zI).1:=rfl;omega
theorem SI{d:ak}(hw:Wf d){x:ID}(hx:aR d.1 x=none)(Lh:Wf (c8 (x,([],(e0,0))) d.1,d.2))(hg:bL d=0):bL (c8 (x,([],(e0,0))) d.1,d.2)=0:=by
 have hl:Lone (c8 (x,([],(e0,0))) d.1,d.2) (x,([],(e0,0))):=⟨Lh,j5.2 (.inl rfl),rfl⟩;rw[HL hl];have e:aM (c8 (x,([],(e0,0))) d.1,d.2) x zI=d:=by have h1:=Ef (x,([],(e0,0))) (l:=d.1) hx;have h2:=rp hw.ge;unfold aM;show(cY (c8 (x,([],(e0,0))) d.1) x,dd d.2 zI)=d;rw[h2];exact congrArg (fun l:List ai=>((l,d.2):ak)) h1
 show bL (aM (c8 (x,([],(e0,0))) d.1,d.2) x zI)=0;rw[e];exact hg
structure jK(f:ai→ai)(g:ag→ag):Prop where
 i:∀v,(f v).1=v.1
 r:∀v,(f v).2.1=v.2.1
 e:∀a,(g a).1=a.1
variable {f:ai→ai} {g:ag→ag}
theorem jK.an(k:jK f g)(l:List ai):Vs.an (l.map f)=Vs.an l:=by unfold Vs.an;rw[List.flatMap_map];congr 1;funext v;exact k.r v
theorem jK.at(k:jK f g)(l:List ai)(x:ab):Fb (l.map f) x=Fb l x:=by
 unfold Fb;rw[List.find?_map];have:((fun v:ai=>decide (x∈v.2.1)) ∘ f)=fun v:ai=>decide (x∈v.2.1):=by funext v;show decide (x∈(f v).2.1)=_;rw[k.r]
 rw[this,Option.map_map];congr 1;funext v;exact k.i v
theorem jK.find(k:jK f g)(l:List ai)(x:ID):aR (l.map f) x=(aR l x).map f:=by
 unfold aR;rw[List.find?_map];have:((fun v:ai=>decide (v.1=x)) ∘ f)=fun v:ai=>decide (v.1=x):=by funext v;show decide ((f v).1=x)=_;rw[k.i]
 rw[this]
theorem jK.al(k:jK f g)(l:List ai):Vs.al (l.map f)=Vs.al l:=by unfold Vs.al;rw[List.countP_map];congr 1;funext v;show(f v).2.1.isEmpty=_;rw[k.r]
theorem jK.km(k:jK f g)(d:ak)(x:ab):Vs.km (d.1.map f,d.2.map g) x=Vs.km d x:=by
 unfold Vs.km;have h1:cf (d.1.map f,d.2.map g) x=cf d x:=k.at d.1 x;rw[h1]
 cases cf d x with
 |none=>rfl
 |some a =>
  have h2:bI (d.1.map f,d.2.map g) a=bI d a:=by
   unfold bI bq;show((aR (d.1.map f) a).getD zV).2.1=_;rw[k.find]
   cases aR d.1 a with
   |none=>rfl
   |some v=>exact k.r v
  show dG (bI (d.1.map f,d.2.map g) a) x 1=_;rw[h2]
theorem jK.ph(k:jK f g)(d:ak)(x:ab):Vs.ph (d.1.map f,d.2.map g) x=Vs.ph d x:=by unfold Vs.ph JF;have h1:cf (d.1.map f,d.2.map g) x=cf d x:=k.at d.1 x;rw[h1,k.km]
theorem jK.Y9(k:jK f g)(d:ak){a b:ID}:Bf (d.1.map f,d.2.map g) a b↔Bf d a b:=by
 unfold Bf;have h:∀z,cf (d.1.map f,d.2.map g) z=cf d z:=fun z=>k.at d.1 z;have hd:Vs.an (d.1.map f)=Vs.an d.1:=k.an d.1;constructor
 ·rintro⟨z,h1,h2,h3⟩;exact⟨z,hd▸h1,(h z).symm.trans h2,(h _).symm.trans h3⟩
 ·rintro⟨z,h1,h2,h3⟩;exact⟨z,hd.symm▸h1,(h z).trans h2,(h _).trans h3⟩
theorem jK.conn(k:jK f g)(d:ak){a b:ID}:cq (d.1.map f,d.2.map g) a b↔cq d a b:=by
 constructor
 ·intro h
  induction h with
  |refl=>exact .refl _
  |tail _ j ih=>exact ih.tail ((k.Y9 d).1 j)
 ·intro h
  induction h with
  |refl=>exact .refl _
  |tail _ j ih=>exact ih.tail ((k.Y9 d).2 j)
theorem jK.FJ(k:jK f g){d:ak}{R:List ID}(h:oS d R):oS (d.1.map f,d.2.map g) R:=by
 refine⟨h.n,fun r hr=>?_,fun r hr s hs hc=>h.i r hr s hs ((k.conn d).1 hc),fun v hv=>?_⟩
 ·obtain⟨v,hv,he⟩:=h.v r hr;exact⟨f v,acn.2 ⟨v,hv,rfl⟩,(k.i v).trans he⟩
 ·obtain⟨u,hu,rfl⟩:=acn.1 hv;obtain⟨r,hr,hc⟩:=h.c u hu;exact⟨r,hr,by rw[k.i];exact(k.conn d).2 hc⟩
theorem Ot(k:jK f g){d:ak}(hw:Wf d)(Lh:Wf (d.1.map f,d.2.map g))(hg:bL d=0):bL (d.1.map f,d.2.map g)=0:=by obtain⟨R,hr⟩:=uY hw;have h:=(iW hw hr).1 hg;rw[iW Lh (k.FJ hr)];have hd:Vs.an (d.1.map f)=Vs.an d.1:=k.an d.1;have a:=bR hw;have b:=bR Lh;have hc:(bW (d.1.map f,d.2.map g)).length=(bW d).length :=Hw.count (D:=Vs.an (d.1.map f)) Lh.rw.n b ⟨fun c hc=>(a.c c hc).congr fun z hz=>k.ph d z,a.p.trans (List.Perm.of_eq hd.symm)⟩;have f1:ft d=(bW d).length+Vs.al d.1:=rfl;have f2:ft (d.1.map f,d.2.map g)=(bW (d.1.map f,d.2.map g)).length+Vs.al (d.1.map f):=rfl;have hal:Vs.al (d.1.map f)=Vs.al d.1:=k.al d.1;show(d.1.map f).length+_=_+(d.2.map g).length;rw[List.length_map,List.length_map];omega
theorem SJ(o:br):jK (iQ o) (j4 o):=by
 refine⟨fun v=>?_,fun v=>?_,fun a=>?_⟩
 ·unfold iQ;split
  ·split<;>rfl
  ·rfl
 ·unfold iQ;split
  ·split<;>rfl
  ·rfl
 ·unfold j4;split
  ·split<;>rfl
  ·rfl
end Go.Vs
namespace Go.Vs
open Go.Proofs Go.Cy
def hd(l:List ab):ab:=l.head?.getD zD
theorem HM{f g:ab→ab}{φ:ab→List ab}(hn:∀z,φ z≠[]):∀{c:List ab} {y:ab},(∀z∈c,Path g (φ z) (hd (φ (f z))))→Path f c y→Path g (c.flatMap φ) (hd (φ y))
 |[],y,_,_=>trivial
 |a::r,y,hp,h=>by
  obtain⟨h1,h2⟩:f a=r.head?.getD y∧Path f r y:=h;have ih:=HM hn (fun z hz=>hp z (abA _ hz)) h2;rw[List.flatMap_cons];refine Path.app.2 ⟨?_,ih⟩;have:=hp a ab4;rw[h1]at this
  cases r with
  |nil=>exact this
  |cons b r =>
   have e:((b::r).flatMap φ).head?.getD (hd (φ y))=hd (φ b):=by
    rw[List.flatMap_cons]
    cases hb:φ b with
    |nil=>exact absurd hb (hn b)
    |cons q s=>rfl
   rw[e];exact this
theorem Xe{f g:ab→ab}{φ:ab→List ab}(hn:∀z,φ z≠[]){c:List ab}(hp:∀z∈c,Path g (φ z) (hd (φ (f z))))(h:kc f c):kc g (c.flatMap φ):=by
 cases c with
 |nil=>exact h.elim
 |cons x r =>
  have h':Path f (x::r) x:=h;have:=HM hn hp h';rw[List.flatMap_cons]at this ⊢
  cases hx:φ x with
  |nil=>exact absurd hx (hn x)
  |cons q s =>rw[hx]at this;exact this
structure Sub(s t:ak)(v:ID)(m k:ab)(u w:ID):Prop where
 ws:Wf s
 wt:Wf t
 mm:m∈an s.1
 kn:k∉an s.1
 ok:aj k∉an s.1
 kk:k≠aj k
 k2:k.2=0∨k.2=1
 p:(an t.1).Perm (k::aj k::an s.1)
 pm:∀z∈an s.1,z≠aj m→ph t z=if ph s z=m then aj k else ph s z
 po:ph t (aj m)=k
 pk:ph t k=if ph s (aj m)=m then aj k else ph s (aj m)
 pq:ph t (aj k)=m
 am:cf s m=some u
 ao:cf s (aj m)=some w
 at_:∀z∈an s.1,z≠m→cf t z=cf s z
 tm:cf t m=some v
 tk:cf t k=some v
 tq:cf t (aj k)=some u
 vs:∀r,(∃x∈t.1,x.1=r)↔r=v∨∃x∈s.1,x.1=r
 nv:∀x∈s.1,x.1≠v
 len:t.1.length=s.1.length+1
 al:al t.1=al s.1
variable {s t:ak} {v:ID} {m k:ab} {u w:ID}
def qj(m k:ab)(z:ab):List ab:=if z=m then[aj k,m] else if z=aj m then[aj m,k] else[z]
theorem ZI(m k z:ab):qj m k z≠[]:=by
 unfold qj;by_cases e:z=m
 ·rw[if_pos e];simp
 ·rw[if_neg e];by_cases e2:z=aj m
  ·rw[if_pos e2];simp
  ·rw[if_neg e2];simp
theorem Sub.om(h:Sub s t v m k u w):aj m∈an s.1:=h.ws.other h.mm
theorem qk{m:ab}(h:m.2=0∨m.2=1):aj m≠m:=fun e=>by obtain⟨_,k⟩:=hZ h;rw[e]at k;rcases k with⟨a,b⟩|⟨a,b⟩<;>omega
theorem ac8(h:Sub s t v m k u w)(y:ab):hd (qj m k y)=if y=m then aj k else y:=by
 unfold qj;by_cases e:y=m
 ·rw[if_pos e,if_pos e];rfl
 ·rw[if_neg e,if_neg e];by_cases e2:y=aj m
  ·rw[if_pos e2,e2];rfl
  ·rw[if_neg e2];rfl
theorem Sub.bW(h:Sub s t v m k u w):(Vs.bW t).length=(Vs.bW s).length:=by
 have a:=bR h.ws;have b:=bR h.wt;have ZJ:=qk (h.ws.side h.mm);have cyc:∀c∈Vs.bW s,kc (ph t) (c.flatMap (qj m k)):=fun c hc=>by
  refine Xe (ZI m k) (fun z hz=>?_) (a.c c hc);have hz:z∈an s.1:=a.p.mem_iff.1 (adv.2 ⟨c,hc,hz⟩);rw[ac8 h];unfold qj;by_cases e:z=m
  ·rw[if_pos e,e];exact⟨h.pq,h.pm m h.mm (fun q=>ZJ q.symm),trivial⟩
  ·rw[if_neg e];by_cases e2:z=aj m
   ·rw[if_pos e2,e2];exact⟨h.po,h.pk,trivial⟩
   ·rw[if_neg e2];exact⟨h.pm z hz e2,trivial⟩
 have perm:((Vs.bW s).map (·.flatMap (qj m k))).flatten.Perm (an t.1):=by
  have e:((Vs.bW s).map (·.flatMap (qj m k))).flatten=(Vs.bW s).flatten.flatMap (qj m k):=by
   have:∀L:List (List ab),(L.map (·.flatMap (qj m k))).flatten=L.flatten.flatMap (qj m k):=by
    intro L
    induction L with
    |nil=>rfl
    |cons a L ih=>rw[List.map_cons,List.flatten_cons,List.flatten_cons,List.flatMap_append,ih]
   exact this _
  rw[e];refine(a.p.flatMap_right (qj m k)).trans ((?_:((an s.1).flatMap (qj m k)).Perm _).trans h.p.symm);have nd:=h.ws.rw.n;obtain⟨r1,hr1⟩:∃r1,(an s.1).Perm (m::r1):=⟨_,List.perm_cons_erase h.mm⟩;have hm1:aj m∈r1:=(abD.1 (hr1.mem_iff.1 h.om)).resolve_left ZJ;obtain⟨r2,Rn⟩:∃r2,r1.Perm (aj m::r2):=⟨_,List.perm_cons_erase hm1⟩;have hp:(an s.1).Perm (m::aj m::r2):=hr1.trans (List.Perm.cons _ Rn);have nd2:=hp.nodup_iff.1 nd;have bM:r2.flatMap (qj m k)=r2:=by
   have:∀l:List ab,(∀z∈l,z≠m∧z≠aj m)→l.flatMap (qj m k)=l:=by
    intro l
    induction l with
    |nil=>intro _;rfl
    |cons z l ih =>intro hl;obtain⟨h1,h2⟩:=hl z ab4;rw[List.flatMap_cons,ih fun y hy=>hl y (List.mem_cons_of_mem _ hy)];unfold qj;rw[if_neg h1,if_neg h2];rfl
   refine this r2 fun z hz=>⟨fun e=>?_,fun e=>?_⟩
   ·subst e;exact(ab1.1 nd2).1 (abA _ hz)
   ·subst e;exact(ab1.1 (ab1.1 nd2).2).1 hz
  refine(hp.flatMap_right (qj m k)).trans ?_;rw[List.flatMap_cons,List.flatMap_cons,bM];have e1:qj m k m=[aj k,m]:=if_pos rfl;have e2:qj m k (aj m)=[aj m,k]:=by unfold qj;rw[if_neg ZJ,if_pos rfl]
  rw[e1,e2];refine List.Perm.trans ?_ (List.Perm.cons k (List.Perm.cons (aj k) hp.symm));show(aj k::m::aj m::k::r2).Perm (k::aj k::m::aj m::r2);exact(List.perm_middle (l₁:=[aj k,m,aj m]) (l₂:=r2) (a:=k))
 have:=Hw.count h.wt.rw.n b ⟨fun c hc=>by obtain⟨c0,h1,rfl⟩:=acn.1 hc;exact cyc c0 h1,perm⟩;rw[List.length_map]at this;exact this
theorem Sub.P9(h:Sub s t v m k u w){a b:ID}(c:cq s a b):cq t a b:=by
 have dt:∀z∈an s.1,z∈an t.1:=fun z hz=>h.p.mem_iff.2 (abA _ (abA _ hz));have ZJ:=qk (h.ws.side h.mm);have hqt:aj k∈an t.1:=h.p.mem_iff.2 (by simp);have uv:Bf t u v:=⟨aj k,hqt,h.tq,by rw[bY h.k2];exact h.tk⟩;have vw:Bf t v w:=⟨m,dt m h.mm,h.tm,by rw[h.at_ _ h.om ZJ];exact h.ao⟩;have uw:cq t u w:=uv.conn.trans vw.conn
 induction c with
 |refl=>exact .refl _
 |tail _ j ih =>
  refine ih.trans ?_;obtain⟨z,hz,h1,h2⟩:=j;by_cases e:z=m
  ·subst e;rw[h.am]at h1;rw[h.ao]at h2
   cases h1;cases h2
   exact uw
  ·by_cases e2:z=aj m
   ·subst e2;rw[h.ao]at h1;rw[bY (h.ws.side h.mm),h.am]at h2
    cases h1;cases h2
    exact uw.symm h.wt
   ·have e3:aj z≠m:=fun q=>e2 (by rw[←q,bY (h.ws.side hz)]);exact Bf.conn ⟨z,dt z hz,by rw[h.at_ z hz e];exact h1,by rw[h.at_ _ (h.ws.other hz) e3];exact h2⟩
theorem Sub.ZK(h:Sub s t v m k u w){a b:ID}(c:cq t a b):cq s (if a=v then u else a) (if b=v then u else b):=by
 have ZJ:=qk (h.ws.side h.mm);have uw:cq s u w:=Bf.conn ⟨m,h.mm,h.am,h.ao⟩;have vof:∀{z x},z∈an s.1→cf s z=some x→x≠v:=fun {z x} hz hx=>by obtain⟨y,hy,_,h2⟩:=tC h.ws hz;rw[h2]at hx;cases hx;exact h.nv y hy
 have hu:=vof h.mm h.am;have hw:=vof h.om h.ao
 induction c with
 |refl=>exact .refl _
 |tail _ j ih =>
  refine ih.trans ?_;obtain⟨z,hz,h1,h2⟩:=j;have Cu:=h.p.mem_iff.1 hz;rcases abD.1 Cu with rfl|Cu
  ·rw[h.tk]at h1;rw[h.tq]at h2
   cases h1;cases h2
   rw[if_pos rfl,if_neg hu];exact .refl _
  ·rcases abD.1 Cu with rfl|Cu
   ·rw[h.tq]at h1;rw[bY h.k2,h.tk]at h2
    cases h1;cases h2
    rw[if_neg hu,if_pos rfl];exact .refl _
   ·by_cases e:z=m
    ·subst e;rw[h.tm]at h1;rw[h.at_ _ h.om ZJ,h.ao]at h2
     cases h1;cases h2
     rw[if_pos rfl,if_neg hw];exact uw
    ·by_cases e2:z=aj m
     ·subst e2;rw[h.at_ _ h.om ZJ,h.ao]at h1;rw[bY (h.ws.side h.mm),h.tm]at h2
      cases h1;cases h2
      rw[if_neg hw,if_pos rfl];exact uw.symm h.ws
     ·have e3:aj z≠m:=fun q=>e2 (by rw[←q,bY (h.ws.side Cu)]);rw[h.at_ z Cu e]at h1;rw[h.at_ _ (h.ws.other Cu) e3]at h2;rw[if_neg (vof Cu h1),if_neg (vof (h.ws.other Cu) h2)];exact Bf.conn ⟨z,Cu,h1,h2⟩
theorem Sub.FJ(h:Sub s t v m k u w){R:List ID}(hr:oS s R):oS t R:=by
 refine⟨hr.n,fun r hrm=>(h.vs r).2 (.inr (hr.v r hrm)),fun r h1 q h2 c=>?_,fun x hx=>?_⟩
 ·obtain⟨x,hx,hxr⟩:=hr.v r h1;obtain⟨y,hy,hyq⟩:=hr.v q h2;have:=h.ZK c;rw[if_neg (by rw[←hxr];exact h.nv x hx),if_neg (by rw[←hyq];exact h.nv y hy)]at this;exact hr.i r h1 q h2 this
 ·rcases (h.vs x.1).1 ⟨x,hx,rfl⟩ with e|⟨y,hy,e⟩
  ·obtain⟨y,hy,_,hyu⟩:=tC h.ws h.mm;rw[h.am]at hyu;obtain⟨r,hrm,hc⟩:=hr.c y hy;refine⟨r,hrm,?_⟩;rw[e];have hqt:aj k∈an t.1:=h.p.mem_iff.2 (by simp);have uv:Bf t u v:=⟨aj k,hqt,h.tq,by rw[bY h.k2];exact h.tk⟩;have e2:u=y.1:=acP hyu;exact(uv.symm h.wt).conn.trans (e2▸h.P9 hc)
  ·obtain⟨r,hrm,hc⟩:=hr.c y hy;exact⟨r,hrm,e▸h.P9 hc⟩
theorem Xf(h:Sub s t v m k u w):bL s=0↔bL t=0:=by obtain⟨R,hr⟩:=uY h.ws;rw[iW h.ws hr,iW h.wt (h.FJ hr)];have h1:=rD h.ws;have h2:=rD h.wt;have h3:=h.p.length_eq;have h4:=h.bW;have h5:=h.al;have h6:=h.len;have f1:ft s=(Vs.bW s).length+Vs.al s.1:=rfl;have f2:ft t=(Vs.bW t).length+Vs.al t.1:=rfl;simp at h3;omega
end Go.Vs
namespace Go.Vs
open Go.Proofs Go.Cy
structure Fr(s t:ak)(v:ID)(m k:ab)(uS uT vV:ai):Prop where
 ws:Wf s
 wt:Wf t
 mem:∀y,y∈t.1↔y=vV∨(y∈s.1∧y.1≠uS.1)∨y=uT
 us:uS∈s.1
 ui:uT.1=uS.1
 vi:vV.1=v
 vr:vV.2.1=[m,k]∨vV.2.1=[k,m]
 mm:m∈uS.2.1
 k2:k.2=0∨k.2=1
 kn:k∉an s.1
 ok:aj k∉an s.1
 nx:∀z∈uS.2.1,(if z=m then aj k else z)∈uT.2.1∧du uT.2.1 (if z=m then aj k else z)=(if du uS.2.1 z=m then aj k else du uS.2.1 z)
 p:(an t.1).Perm (k::aj k::an s.1)
 nv:∀x∈s.1,x.1≠v
 len:t.1.length=s.1.length+1
 al:al t.1=al s.1
theorem Ag{m k:ab}(h:m≠k):du [m,k] m=k∧du [m,k] k=m:=by
 have hn:[m,k].Nodup:=by simp[h]
 have a:=qe hn (i:=0) (x:=m) rfl;have b:=qe hn (i:=1) (x:=k) rfl;exact⟨a,by rw[b];simp⟩
variable {s t:ak} {v:ID} {m k:ab} {uS uT vV:ai}
theorem Fr.sub(h:Fr s t v m k uS uT vV):∃w,Sub s t v m k uS.1 w:=by
 have JE:m∈an s.1:=aS.2 ⟨uS,h.us,h.mm⟩;have hod:aj m∈an s.1:=h.ws.other JE;have ZJ:=qk (h.ws.side JE);have Yw:m≠k:=fun e=>h.kn (e▸JE);obtain⟨w,hw⟩:=acu.1 (Ex hod);have hvt:vV∈t.1:=(h.mem vV).2 (.inl rfl);have ZL:uT∈t.1:=(h.mem uT).2 (.inr (.inr rfl));have rs:=h.ws.rw;have rt:=h.wt.rw;have XL:m∈vV.2.1:=by rcases h.vr with e|e<;>rw[e]<;>simp
 have hkv:k∈vV.2.1:=by rcases h.vr with e|e<;>rw[e]<;>simp
 have sm:sg t m=k∧sg t k=m:=by
  rw[kd rt hvt XL,kd rt hvt hkv];rcases h.vr with e|e
  ·rw[e];exact Ag Yw
  ·rw[e];exact⟨(Ag (Ne.symm Yw)).2,(Ag (Ne.symm Yw)).1⟩
 have hqu:aj k∈uT.2.1:=by have:=(h.nx m h.mm).1;rwa [if_pos rfl]at this
 have pl:∀z∈an s.1,(∃y,y∈s.1∧z∈y.2.1∧y∈t.1∧z≠m∧sg s z≠m)∨z∈uS.2.1:=fun z hz=>by
  obtain⟨y,hy,P8⟩:=aS.1 hz;by_cases e:y.1=uS.1
  ·have:=LW h.ws.sv h.us hy e;subst this;exact .inr P8
  ·refine .inl ⟨y,hy,P8,(h.mem y).2 (.inr (.inl ⟨hy,e⟩)),fun q=>?_,fun q=>?_⟩
   ·subst q;exact e (congrArg Prod.fst (rs.one h.us hy h.mm P8))
   ·rw[kd rs hy P8]at q;have:=kV (rs.ring hy) P8;rw[q]at this;exact e (congrArg Prod.fst (rs.one h.us hy h.mm this))
 have sgm:∀z∈an s.1,sg t (if z=m then aj k else z)=if sg s z=m then aj k else sg s z:=fun z hz=>by
  rcases pl z hz with⟨y,hy,P8,hyt,h1,h2⟩|Jf
  ·rw[if_neg h1,if_neg h2,kd rt hyt P8,kd rs hy P8]
  ·obtain⟨n1,n2⟩:=h.nx z Jf;rw[kd rt ZL n1,kd rs h.us Jf];exact n2
 have up:∀z∈an s.1,z∈an t.1:=fun z hz=>h.p.mem_iff.2 (abA _ (abA _ hz));have kt:k∈an t.1:=h.p.mem_iff.2 (by simp);have qt:aj k∈an t.1:=h.p.mem_iff.2 (by simp);refine⟨w,h.ws,h.wt,JE,h.kn,h.ok,(fun e=>qk h.k2 e.symm),h.k2,h.p,fun z hz hzo=>?_,?_,?_,?_,?_,hw,fun z hz hzm=>?_,?_,?_,?_,fun r=>?_,h.nv,h.len,h.al⟩
 ·rw[jJ (up z hz),jJ hz];have bB:aj z≠m:=fun e=>hzo (by rw[←e,bY (h.ws.side hz)]);have:=sgm (aj z) (h.ws.other hz)
  rwa [if_neg bB]at this
 ·rw[jJ (up _ hod),bY (h.ws.side JE)];exact sm.1
 ·rw[jJ kt,jJ hod,bY (h.ws.side JE)];have:=sgm m JE
  rwa [if_pos rfl]at this
 ·rw[jJ qt,bY h.k2];exact sm.2
 ·exact fh rs h.us h.mm
 ·rcases pl z hz with⟨y,hy,P8,hyt,_,_⟩|Jf
  ·exact(fh rt hyt P8).trans (fh rs hy P8).symm
  ·have n1:=(h.nx z Jf).1;rw[if_neg hzm]at n1;refine(fh rt ZL n1).trans ((congrArg some h.ui).trans (fh rs h.us Jf).symm)
 ·exact(fh rt hvt XL).trans (congrArg some h.vi)
 ·exact(fh rt hvt hkv).trans (congrArg some h.vi)
 ·exact(fh rt ZL hqu).trans (congrArg some h.ui)
 ·constructor
  ·rintro⟨x,hx,rfl⟩;rcases (h.mem x).1 hx with rfl|⟨h1,_⟩|rfl
   ·exact .inl h.vi
   ·exact .inr ⟨x,h1,rfl⟩
   ·exact .inr ⟨uS,h.us,h.ui.symm⟩
  ·rintro(rfl|⟨x,hx,rfl⟩)
   ·exact⟨vV,hvt,h.vi⟩
   ·by_cases e:x.1=uS.1
    ·exact⟨uT,ZL,h.ui.trans e.symm⟩
    ·exact⟨x,(h.mem x).2 (.inr (.inl ⟨hx,e⟩)),rfl⟩
theorem Fr.flat(h:Fr s t v m k uS uT vV):bL s=0↔bL t=0:=by obtain⟨w,hs⟩:=h.sub;exact Xf hs
def qx(m q z:ab):ab:=if z=m then q else z
theorem Ju{row:List ab}(hn:row.Nodup){j:Nat}{m:ab}(hj:row[j]? = some m)(q:ab):row.set j q=row.map (qx m q):=by
 apply adz;intro i;rw[List.getElem?_set,List.getElem?_map];by_cases e:j=i
 ·subst e;have:=(abC.1 hj).1;rw[if_pos rfl,if_pos this,hj];simp[qx]
 ·rw[if_neg e]
  cases hi:row[i]? with
  |none=>rfl
  |some x =>
   have:x≠m:=fun k=>by subst k;exact e (z5 hn hj hi)
   simp[qx,this]
theorem Mm{f g:ab→ab}{r:ab→ab}:∀{c:List ab} {y:ab},(∀z∈c,g (r z)=r (f z))→Path f c y→Path g (c.map r) (r y)
 |[],_,_,_=>trivial
 |a::c,y,h,p=>by
  obtain⟨h1,h2⟩:f a=c.head?.getD y∧Path f c y:=p;refine⟨?_,Mm (fun z hz=>h z (abA _ hz)) h2⟩;rw[h a List.mem_cons_self,h1]
  cases c<;>rfl
theorem ZM{f g:ab→ab}{r:ab→ab}{c:List ab}(h:∀z∈c,g (r z)=r (f z))(hc:kc f c):kc g (c.map r):=by
 cases c with
 |nil=>exact hc.elim
 |cons x c=>exact Mm (y:=x) h hc
theorem rE{row:List ab}(hn:row.Nodup){m q:ab}(hm:m∈row)(hq:q∉row){z:ab}(hz:z∈row):qx m q z∈fJ row m q∧du (fJ row m q) (qx m q z)=qx m q (du row z):=by
 obtain⟨j,h1,h2,_⟩:=eV hm;have e:fJ row m q=cp (row.map (qx m q)):=by unfold fJ;rw[if_pos ⟨hm,hq⟩,h1,Int.toNat_natCast,Ju hn h2]
 have js:qx m q z∈row.map (qx m q):=acn.2 ⟨z,hz,rfl⟩;have nd:(row.map (qx m q)).Nodup:=by rw[←Ju hn h2];exact Se hn h2 hq
 rw[e];refine⟨pY.2 js,?_⟩;have nd2:(cp (row.map (qx m q))).Nodup:=(kO _).nodup_iff.2 nd;have c1:kc (du (cp (row.map (qx m q)))) (row.map (qx m q)):=by obtain⟨i,hi,he⟩:=Bc (row.map (qx m q));have:=tz nd2 (adP (pY.2 js));rw[he]at this ⊢;exact LZ this
 have back:∀y∈row,qx q m (qx m q y)=y:=fun y hy=>by
  unfold qx;by_cases a:y=m
  ·rw[if_pos a,if_pos rfl,a]
  ·rw[if_neg a,if_neg (fun kk:y=q=>hq (kk▸hy))]
 have c2:kc (fun y=>qx m q (du row (qx q m y))) (row.map (qx m q)):=by refine ZM (fun y hy=>?_) (tz hn (adP hz));show qx m q (du row (qx q m (qx m q y)))=_;rw[back y hy]
 have:=HA c1 c2 _ js;rw[this];show qx m q (du row (qx q m (qx m q z)))=_;rw[back z hz]
end Go.Vs
namespace Go.Vs
open Go.Proofs Go.Cy
theorem Qa(v:ai):∀l:List ai,al (c8 v l)=al (v::l)
 |[]=>rfl
 |w::r=>by
  have ih:=Qa v r;unfold c8
  split
  ·rfl
  ·unfold al at ih ⊢;rw[List.countP_cons,ih,List.countP_cons,List.countP_cons,List.countP_cons];omega
theorem Ah(a b:List ai)(v:ai):al (a++v::b)=al a+(if v.2.1.isEmpty then 1 else 0)+al b:=by
 rw[Jt];have:al (v::b)=al b+if v.2.1.isEmpty then 1 else 0:=by unfold al;rw[List.countP_cons]
 omega
theorem Ai{l:List ab}{x:ab}(h:x∈l):l.isEmpty=false:=by cases l with
 |nil=>cases h
 |cons _ _=>rfl
theorem SK{row:List ab}(hn:row.Nodup){m q:ab}(hm:m∈row)(hq:q∉row){z:ab}(hz:z∈fJ row m q):∃y∈row,z=qx m q y:=by obtain⟨j,h1,h2,_⟩:=eV hm;unfold fJ at hz;rw[if_pos ⟨hm,hq⟩,h1,Int.toNat_natCast,Ju hn h2]at hz;obtain⟨y,hy,e⟩:=acn.1 (pY.1 hz);exact⟨y,hy,e.symm⟩
theorem Xg{d:ak}(h:Wf d){m k:ab}{v:ID}(TT:m.2=0∨m.2=1)(qu:k.2=0∨k.2=1)(hm:(ba d.2 m.1).isSome=true)(MU:aR d.1 v=none)(hnk:ba d.2 k.1=none) (ht:Wf (c8 (v,(cp [m,k],(e0,0))) (aE d m (aj k)).1,dL (k.1,(e0,0)) (aE d m (aj k)).2)) :
  ∃uS uT vV,Fr d (c8 (v,(cp [m,k],(e0,0))) (aE d m (aj k)).1,dL (k.1,(e0,0)) (aE d m (aj k)).2) v m k uS uT vV:=by
 have JE:m∈an d.1:=h.kU hm TT;have JD:aj k∉an d.1:=h.uU hnk _;have hkn:k∉an d.1:=h.uU hnk _;obtain⟨p1,q1⟩:=j9 h.rw JE JD;obtain⟨uS,hu,hmu⟩:=aS.1 JE;have hqu:aj k∉uS.2.1:=fun e=>JD (aS.2 ⟨uS,hu,e⟩);obtain⟨a,b,e1,e2,_,e4⟩:=nH h.sv hu;obtain⟨uT,ZL⟩:∃uT:ai,uT=(uS.1,(fJ uS.2.1 m (aj k),uS.2.2)):=⟨_,rfl⟩;have es:(aE d m (aj k)).1=a++uT::b:=by rw[rl h.rw _ hu hmu,ZL];exact e4 _
 have nd:=h.rw.ring hu;have hmT:aj k∈uT.2.1:=by
  have:=(rE nd hmu hqu hmu).1;rw[ZL];unfold qx at this
  rwa [if_pos rfl]at this
 refine⟨uS,uT,(v,(cp [m,k],(e0,0))),h,ht,fun y=>?_,hu,by rw[ZL],rfl,Wh m k,hmu,qu,hkn,JD,fun z hz=>?_,?_,fun x hx e=>?_,?_,?_⟩
 ·show y∈c8 _ (aE d m (aj k)).1↔_;rw[j5,es,e1];constructor
  ·rintro(k1|k1)
   ·exact .inl k1
   ·rcases ab6.1 k1 with k1|k1
    ·exact .inr (.inl ⟨abM _ k1,e2 y (abM _ k1)⟩)
    ·rcases abD.1 k1 with k1|k1
     ·exact .inr (.inr k1)
     ·exact .inr (.inl ⟨abL _ (abA _ k1),e2 y (abL _ k1)⟩)
  ·rintro(k1|⟨k1,k2⟩|k1)
   ·exact .inl k1
   ·refine .inr ?_;rcases ab6.1 k1 with k1|k1
    ·exact abM _ k1
    ·rcases abD.1 k1 with k1|k1
     ·subst k1;exact absurd rfl k2
     ·exact abL _ (abA _ k1)
   ·rw[k1];exact .inr (abL _ ab4)
 ·rw[ZL];exact rE nd hmu hqu hz
 ·show(an (c8 _ (aE d m (aj k)).1)).Perm _;refine(wG _ _).trans ((ady _ (kO [m,k])).trans ?_);show(m::k::an (aE d m (aj k)).1).Perm _;exact(List.Perm.swap k m _).trans (List.Perm.cons k p1.symm)
 ·have:=j8 h.sv hx;rw[e,MU]at this;cases this
 ·show(c8 _ (aE d m (aj k)).1).length=_;rw[fL,es,e1];simp
 ·show al (c8 _ (aE d m (aj k)).1)=_;rw[Qa,es,e1];have z1:al ((v,(cp [m,k],((e0,0):ByteArray×Int)))::(a++uT::b))=al (a++uT::b):=by have:=Ah [] (a++uT::b) (v,(cp [m,k],(e0,0)));rw[List.nil_append]at this;rw[this,if_neg (by rw[Ai (x:=m) (pY.2 (by simp))];simp)];show al []+0+_=_;have:al []=0:=rfl;omega
  rw[z1,Ah,Ah,Ai hmT,Ai hmu]
theorem SL{d:ak}(h:Wf d){vV:ai}{a b:ab}(hv:vV∈d.1)(hr:vV.2.1=[a,b]∨vV.2.1=[b,a])(zH:a.1≠b.1)(hs:Wf (aM (aE (aM d vV.1 zI) (aj b) a) zI b.1)) :
  ∃uS uT,Fr (aM (aE (aM d vV.1 zI) (aj b) a) zI b.1) d vV.1 a b uS uT vV:=by
 have hrp:vV.2.1.Perm [a,b]:=by
  rcases hr with e|e
  ·rw[e]
  ·rw[e];exact List.Perm.swap _ _ _
 obtain⟨p,q,h1,bB,h2,_⟩:=nH h.sv hv;have pd:(an d.1).Perm (a::b::an (p++q)):=by have:=(jI p q vV).trans (ady _ hrp);rw[←h1]at this;exact this
 have Sc:aM d vV.1 zI=(p++q,d.2):=by unfold aM;rw[h2,rp h.ge]
 have Fq:=pd.nodup_iff.1 h.rw.n;have hbd:b∈an d.1:=pd.mem_iff.2 (by simp);have Fk:=h.side hbd;have Sd:aj b∈an (p++q):=by
  have h3:=h.other hbd;rcases abD.1 (pd.mem_iff.1 h3) with k|k
  ·exact absurd (congrArg Prod.fst k) (fun k=>zH k.symm)
  rcases abD.1 k with k|k
  ·exact absurd k (qk Fk)
  ·exact k
 have Jd:Rw (p++q):=⟨by rw[←h2];exact nF h.sv,(ab1.1 (ab1.1 Fq).2).2⟩;have ha:a∉an (p++q):=fun k=>(ab1.1 Fq).1 (abA _ k);rw[Sc]at hs ⊢;obtain⟨p1,q1⟩:=j9 (d:=(p++q,d.2)) Jd Sd ha;have Sb:∀w∈(aE (p++q,d.2) (aj b) a).1,GV w:=by
  refine rm (d:=(p++q,d.2)) (fun w hw=>h.gv w ?_) _ _;rw[h1];rcases ab6.1 hw with k|k
  ·exact abM _ k
  ·exact abL _ (abA _ k)
 have Tf:(aM (aE (p++q,d.2) (aj b) a) zI b.1).1=(aE (p++q,d.2) (aj b) a).1:=uO Sb;obtain⟨uT,hu,hbu⟩:=aS.1 Sd;have hau:a∉uT.2.1:=fun e=>ha (aS.2 ⟨uT,hu,e⟩);obtain⟨l,r,e1,e2,_,e4⟩:=nH Jd.s hu;obtain⟨uS,MC⟩:∃uS:ai,uS=(uT.1,(fJ uT.2.1 (aj b) a,uT.2.2)):=⟨_,rfl⟩;have es:(aE (p++q,d.2) (aj b) a).1=l++uS::r:=by rw[rl (d:=(p++q,d.2)) Jd _ hu hbu,MC];exact e4 _
 have nd:=Jd.ring hu;have hmS:a∈uS.2.1:=by
  have:=(rE nd hbu hau hbu).1;rw[MC];unfold qx at this
  rwa [if_pos rfl]at this
 have back:∀y∈uT.2.1,qx a (aj b) (qx (aj b) a y)=y:=fun y hy=>by
  unfold qx;by_cases c:y=aj b
  ·rw[if_pos c,if_pos rfl,c]
  ·rw[if_neg c,if_neg (fun kk:y=a=>hau (kk▸hy))]
 have hp:(an d.1).Perm (b::aj b::an (aM (aE (p++q,d.2) (aj b) a) zI b.1).1):=by rw[Tf];exact pd.trans ((List.Perm.swap b a _).trans (List.Perm.cons b p1))
 have ahD:=hp.nodup_iff.1 h.rw.n;have ac9:∀y,y∈(aM (aE (p++q,d.2) (aj b) a) zI b.1).1↔y∈l++uS::r:=fun y=>by rw[Tf,es]
 refine⟨uS,uT,hs,h,fun y=>?_,(ac9 uS).2 (abL _ ab4),by rw[MC],rfl,hr,hmS,Fk,fun e=>?_,fun e=>?_,fun z hz=>?_,hp,fun x hx=>?_,?_,?_⟩
 ·rw[h1,ac9];have H8:y∈p++vV::q↔y=vV∨y∈p++q:=by
   simp only[List.mem_append,List.mem_cons];constructor
   ·rintro(c|c|c)
    ·exact .inr (.inl c)
    ·exact .inl c
    ·exact .inr (.inr c)
   ·rintro(c|c|c)
    ·exact .inr (.inl c)
    ·exact .inl c
    ·exact .inr (.inr c)
  rw[H8,e1];have ZG:uS.1=uT.1:=by rw[MC]
  constructor
  ·rintro(c|c)
   ·exact .inl c
   ·rcases ab6.1 c with c|c
    ·exact .inr (.inl ⟨abM _ c,by rw[ZG];exact e2 y (abM _ c)⟩)
    ·rcases abD.1 c with c|c
     ·exact .inr (.inr c)
     ·exact .inr (.inl ⟨abL _ (abA _ c),by rw[ZG];exact e2 y (abL _ c)⟩)
  ·rintro(c|⟨c,c2⟩|c)
   ·exact .inl c
   ·refine .inr ?_;rcases ab6.1 c with c|c
    ·exact abM _ c
    ·rcases abD.1 c with c|c
     ·subst c;exact absurd rfl c2
     ·exact abL _ (abA _ c)
   ·rw[c];exact .inr (abL _ ab4)
 ·exact(ab1.1 ahD).1 (abA _ e)
 ·exact(ab1.1 (ab1.1 ahD).2).1 e
 ·rw[MC]at hz;obtain⟨y,hy,rfl⟩:=SK nd hbu hau hz;have n1:=(rE nd hbu hau hy).2;have n2:du uS.2.1 (qx (aj b) a y)=qx (aj b) a (du uT.2.1 y):=by rw[MC];exact n1
  have b1:=back y hy;have b2:=back _ (kV nd hy);show qx a (aj b) (qx (aj b) a y)∈uT.2.1∧du uT.2.1 (qx a (aj b) (qx (aj b) a y))=qx a (aj b) (du uS.2.1 (qx (aj b) a y));rw[b1,n2,b2];exact⟨hy,rfl⟩
 ·have hx:=(ac9 x).1 hx;have:∃y∈p++q,y.1=x.1:=by
   rw[e1];rcases ab6.1 hx with c|c
   ·exact⟨x,abM _ c,rfl⟩
   ·rcases abD.1 c with c|c
    ·exact⟨uT,abL _ ab4,by rw[c,MC]⟩
    ·exact⟨x,abL _ (abA _ c),rfl⟩
  obtain⟨y,hy,e⟩:=this;rw[←e];exact bB y hy
 ·rw[Tf,es,h1];have:=congrArg List.length e1;simp at this ⊢;omega
 ·rw[Tf,es,h1];have z1:=Ah p q vV;have z2:=Ah l r uS;have z3:=Ah l r uT;have z4:=Jt p q;rw[e1]at z4;rw[Ai (hrp.mem_iff.2 (by simp):a∈vV.2.1)]at z1;rw[Ai hmS]at z2;rw[Ai hbu]at z3;simp at z1 z2 z3;omega
theorem bS:bL zS.1=0:=by have hr:oS zS.1 []:=⟨List.nodup_nil,fun r h=>(by cases h),fun r h=>(by cases h),fun v h=>(by cases h)⟩;rw[iW Wf.zero hr];rfl
theorem Xh{s:StateT}(h:eZ s)(hg:bL s.1=0)(o:br):bL (kh s o).1.1=0:=by
 have hw:=(h.one o).d;unfold kh at hw ⊢
 split
 ·exact bS
 rename_i hm;rw[if_neg hm]at hw;have hm:cG o=0:=Classical.byContradiction fun k=>hm k
 split
 ·rename_i h1;rw[if_pos h1]at hw;unfold oy at hw ⊢
  split
  ·exact bS
  rename_i k1;rw[if_neg k1]at hw
  split
  ·exact bS
  rename_i k2;rw[if_neg k2]at hw;exact SI h.d (by simpa[bq] using k1) hw hg
 rename_i h1;rw[if_neg h1]at hw
 split
 ·unfold vF
  cases hv:bq s.1 (bf o) with
  |none=>exact bS
  |some v =>
   simp only
   split
   ·exact bS
   ·rename_i hr;have hl:Lone s.1 v:=⟨h.d,eQ hv,by simpa using hr⟩;have:=(HL hl).1 hg;rw[iR hv]at this;exact this
 rename_i h2;rw[if_neg h2]at hw
 split
 ·unfold ox
  split;· exact bS
  split;· exact bS
  split;· exact bS
  split;· exact bS
  split;· exact bS
  rename_i k;exact Classical.byContradiction fun q=>k q
 rename_i h3;rw[if_neg h3]at hw
 split
 ·unfold Ec
  split;· exact bS
  rename_i k1;exact Xd (x:=bf o) ⟨h.d,qd k1⟩ hg
 rename_i h4;rw[if_neg h4]at hw
 split
 ·rename_i hk;rw[if_pos hk]at hw;unfold kM at hw ⊢
  split;· exact bS
  rename_i k1;rw[if_neg k1]at hw
  split;· exact bS
  rename_i k2;rw[if_neg k2]at hw
  split;· exact bS
  rename_i k3;rw[if_neg k3]at hw
  split;· exact bS
  rename_i k4;rw[if_neg k4]at hw
  split;· exact bS
  rename_i k5;rw[if_neg k5]at hw;obtain⟨m1,m2,m3,m4⟩:=zY hm hk;obtain⟨s1,s2⟩:=Er m3 m4;obtain⟨uS,uT,vV,fr⟩:=Xg (d:=s.1) (m:=LF o) (k:=Hg o) (v:=fG o) h.d s1 s2 (qd k1) (by simpa[bq] using k2) (by simpa[hP,Hg] using k3) hw;exact fr.flat.1 hg
 rename_i h5;rw[if_neg h5]at hw
 split
 ·rename_i h6;rw[if_pos h6]at hw;unfold j6 at hw ⊢
  split
  ·exact bS
  ·rename_i v hv;rw[hv]at hw;have X4:=eQ hv;have hvi:=iR hv;simp only at hw
   split
   ·rename_i r0 r1 hr;rw[hr]at hw;simp only at hw;have key:∀a b:ab,(v.2.1=[a,b]∨v.2.1=[b,a])→a.1≠b.1→Wf (JH s o a b)→bL (JH s o a b)=0:=fun a b hp zH TV=>by unfold JH at TV ⊢;rw[←hvi]at TV ⊢;obtain⟨uS,uT,fr⟩:=SL h.d X4 hp zH TV;exact fr.flat.2 hg
    unfold jg at hw ⊢
    split;· exact bS
    rename_i bB;rw[if_neg bB]at hw
    split
    ·rename_i c;rw[if_pos c]at hw;exact key r1 r0 (.inr hr) (fun k=>bB k.symm) hw
    rename_i c;rw[if_neg c]at hw
    split
    ·rename_i c2;rw[if_pos c2]at hw;exact key r0 r1 (.inl hr) bB hw
    ·exact bS
   ·exact bS
 rename_i h6;rw[if_neg h6]at hw;unfold wB at hw ⊢
 split
 ·rename_i c;rw[if_pos c]at hw;exact Ot (SJ o) h.d hw hg
 ·exact bS
theorem Qb:∀(l:List br) {s:StateT},eZ s→bL s.1=0→bL (Ed l s).1.1=0
 |[],s,h,hg=>hg
 |o::r,s,h,hg=>by
  unfold Ed
  split
  ·exact bS
  ·exact Qb r (h.one o) (Xh h hg o)
theorem Ou{s:StateT}(h:eZ s)(hg:bL s.1=0)(l:List br):bL (cZ s l).1.1=0:=by
 unfold cZ
 split
 ·exact bS
 ·exact Qb l h hg
theorem Xi{s:StateT}(h:eZ s)(hg:bL s.1=0)(l:List br):bL (hY s l).1=0:=by
 unfold hY
 split
 ·exact hg
 ·exact Ou h hg l
end Go.Vs
