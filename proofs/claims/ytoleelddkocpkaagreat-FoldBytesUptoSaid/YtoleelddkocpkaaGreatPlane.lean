/- Whatever is done -/
import Derived.Test.YtoleelddkocpkaaGreatEuler
set_option linter.unusedVariables false
set_option linter.unusedSimpArgs false
namespace Go.Vs
open Go.Proofs Go.Cy
variable {G:(f:FuncId)→(g:aO)→Option (g.A→Option g.B)}
structure Lone(d:ak)(v:ai):Prop where
 w:Wf d
 m:v∈d.1
 r:v.2.1=[]
theorem Lone.split{d:ak}{v:ai}(h:Lone d v):∃a b,d.1=a++v::b∧(aJ d v.1 zI)=(a++b,d.2)∧an (a++b) ⊆ an d.1∧(an d.1).Perm (an (a++b)):=by
 obtain⟨a,b,h1,_,h2,_⟩:=mT h.w.sv h.m;have p:(an d.1).Perm (an (a++b)):=by have:=js a b v;rw[←h1,h.r,List.nil_append]at this;exact this
 exact⟨a,b,h1,by unfold aJ;rw[h2,qw h.w.ge],fun x hx=>p.mem_iff.2 hx,p⟩
theorem Lone.wf{d:ak}{v:ai}(h:Lone d v):Wf (aJ d v.1 zI):=h.w.UD h.m h.r
theorem Lone.mem{d:ak}{v:ai}(h:Lone d v){u:ai}:u∈(aJ d v.1 zI).1↔u∈d.1∧u.1≠v.1:=by show u∈cT d.1 v.1↔_;unfold cT;rw[List.mem_filter];simp
theorem Lone.Vw{d:ak}{v:ai}(h:Lone d v):(an (aJ d v.1 zI).1).Perm (an d.1):=by obtain⟨a,b,_,h2,_,h3⟩:=h.split;rw[h2];exact h3.symm
theorem Lone.Vx{d:ak}{v:ai}(h:Lone d v){u:ai}{z:ab}(hu:u∈d.1)(hz:z∈u.2.1):u∈(aJ d v.1 zI).1:=by refine h.mem.2 ⟨hu,fun k=>?_⟩;rw[KM h.w.sv h.m hu k,h.r]at hz;simp at hz
theorem Lone.at{d:ak}{v:ai}(h:Lone d v){z:ab}(hz:z∈an d.1):b8 (aJ d v.1 zI) z=b8 d z:=by obtain⟨u,hu,H7⟩:=aS.1 hz;show Eh (aJ d v.1 zI).1 z=Eh d.1 z;rw[eJ h.w.rw hu H7,eJ h.wf.rw (h.Vx hu H7) H7]
theorem Lone.XP{d:ak}{v:ai}(h:Lone d v){a b:ID}:Ai (aJ d v.1 zI) a b↔Ai d a b:=by
 constructor
 ·rintro⟨z,hz,h1,h2⟩;have hz:=h.Vw.mem_iff.1 hz;exact⟨z,hz,by rw[←h.at hz];exact h1,by rw[←h.at (h.w.other hz)];exact h2⟩
 ·rintro⟨z,hz,h1,h2⟩;exact⟨z,h.Vw.mem_iff.2 hz,by rw[h.at hz];exact h1,by rw[h.at (h.w.other hz)];exact h2⟩
theorem Lone.conn{d:ak}{v:ai}(h:Lone d v){a b:ID}:ck (aJ d v.1 zI) a b↔ck d a b:=by
 constructor
 ·intro k
  induction k with
  |refl=>exact .refl _
  |tail _ j ih=>exact ih.tail (h.XP.1 j)
 ·intro k
  induction k with
  |refl=>exact .refl _
  |tail _ j ih=>exact ih.tail (h.XP.2 j)
theorem Lone.alone{d:ak}{v:ai}(h:Lone d v){b:ID}(k:ck d v.1 b):b=v.1:=by
 have key:∀{a b:ID},ck d a b→a=v.1→b=v.1:=fun {a b} k ha=>by
  induction k with
  |refl=>exact ha
  |tail _ j ih =>obtain⟨z,hz,h1,_⟩:=j;obtain⟨u,hu,H7,Ar⟩:=sB h.w hz;rw[Ar,ih]at h1;have:=ab2 h1;rw[KM h.w.sv h.m hu this,h.r]at H7;simp at H7
 exact key k rfl
theorem Lone.EM{d:ak}{v:ai}(h:Lone d v){R:List ID}(hr:n6 d R):∃R2,n6 (aJ d v.1 zI) R2∧R2.length+1=R.length:=by
 obtain⟨r,xF,hvr⟩:=hr.c v h.m;have hv:v.1∈R:=by rw[←h.alone hvr];exact xF
 refine⟨R.erase v.1,⟨hr.n.erase _,fun s hs=>?_,fun s hs t ht k=>hr.i s (ad5 hs) t (ad5 ht) (h.conn.1 k),fun u hu=>?_⟩,?_⟩
 ·obtain⟨u,hu,he⟩:=hr.v s (ad5 hs);refine⟨u,h.mem.2 ⟨hu,fun k=>?_⟩,he⟩;have:s=v.1:=he.symm.trans k;subst this;exact absurd hs (List.Nodup.not_mem_erase hr.n)
 ·obtain⟨hu1,hu2⟩:=h.mem.1 hu;obtain⟨s,hs,Ll⟩:=hr.c u hu1;refine⟨s,(aea fun k=>?_).2 hs,h.conn.2 Ll⟩;subst k;exact hu2 (h.alone (Ll.symm h.w))
 ·rw[List.length_erase_of_mem hv];have:=List.length_pos_of_mem hv;omega
theorem Lone.ph{d:ak}{v:ai}(h:Lone d v){z:ab}(hz:z∈an d.1):ph (aJ d v.1 zI) z=ph d z:=by rw[ju hz,ju (h.Vw.mem_iff.2 hz)];obtain⟨u,hu,H7⟩:=aS.1 (h.w.other hz);rw[jR h.w.rw hu H7,jR h.wf.rw (h.Vx hu H7) H7]
theorem Lone.bU{d:ak}{v:ai}(h:Lone d v):(Vs.bU (aJ d v.1 zI)).length=(Vs.bU d).length:=by have a:=bQ h.wf;have b:=bQ h.w;refine Gs.count h.w.rw.n ⟨fun c hc=>?_,a.p.trans h.Vw⟩ b;refine(a.c c hc).congr fun z hz=>?_;have:z∈an (aJ d v.1 zI).1:=a.p.mem_iff.1 (ace.2 ⟨c,hc,hz⟩);exact(h.ph (h.Vw.mem_iff.1 this)).symm
theorem DZ{d:ak}(hw:Wf d){R:List ID}(hr:n6 d R):eZ d=(R.length:Int):=by rw[tR hw,(lq hw (eL hw)).len hw hr]
structure xu(d:ak)(v:ai)(y:ab):Prop where
 w:Wf d
 m:v∈d.1
 r:v.2.1=[y]
theorem xu.mem{d:ak}{v:ai}{y:ab}(h:xu d v y):y∈an d.1:=aS.2 ⟨v,h.m,by rw[h.r];simp⟩
theorem xu.cut{d:ak}{v:ai}{y:ab}(h:xu d v y):bV d y.1:=by obtain⟨e,he,h1,_⟩:=dO.1 (h.w.pd.mem_iff.1 h.mem);exact⟨h.w,by unfold aY;rw[List.find?_isSome];exact⟨e,he,by simpa using h1⟩⟩
theorem xu.lone{d:ak}{v:ai}{y:ab}(h:xu d v y):∃u,Lone (cZ d y.1) u∧u.1=v.1:=by
 obtain⟨u,hu,bL⟩:=h.cut.H9.2 ⟨v,h.m,rfl⟩;refine⟨u,⟨h.cut.w,hu,?_⟩,bL⟩
 cases hq:u.2.1 with
 |nil=>rfl
 |cons z r =>
  exfalso;have hz:z∈u.2.1:=by rw[hq];simp
  have hzd:z∈an (cZ d y.1).1:=aS.2 ⟨u,hu,hz⟩;have h1:b8 (cZ d y.1) z=some u.1:=eJ h.cut.w.rw hu hz;rw[h.cut.at hzd,bL]at h1;obtain⟨w,hw,Lt,Ar⟩:=sB h.w (h.cut.sub hzd);rw[Ar]at h1;have hwv:=KM h.w.sv h.m hw (ab2 h1);rw[hwv,h.r]at Lt;have OM:z=y:=by simpa using Lt
  have nd:=h.cut.p.nodup_iff.1 h.w.rw.n;have e:y=(y.1,y.2):=rfl;rcases h.w.side h.mem with k|k
  ·rw[k]at e;exact(abR.1 nd).1 (abq _ (e▸OM▸hzd))
  ·rw[k]at e;exact(abR.1 (abR.1 nd).2).1 (e▸OM▸hzd)
theorem xu.back{d:ak}{v:ai}{y:ab}(h:xu d v y):ph d (ag y)=y:=by
 rw[ju (h.w.other h.mem),bW (h.w.side h.mem)];have hy:y∈v.2.1:=by rw[h.r];simp
 rw[jR h.w.rw h.m hy];exact(Gy (h.w.rw.ring h.m) hy).2 (by rw[h.r];rfl)
theorem xu.one{d:ak}{v:ai}{y:ab}(h:xu d v y):MH d (y.1,0) (y.1,1):=by
 have hm:ag y∈(bU d).flatten:=(bQ h.w).p.mem_iff.2 (h.w.other h.mem);obtain⟨c,hc,h1⟩:=ace.1 hm;have h2:=((bQ h.w).c c hc).step h1;rw[h.back]at h2;have e:y=(y.1,y.2):=rfl;have eo:ag y=(y.1,(ag y).2):=rfl;obtain⟨_,k⟩:=gO (h.w.side h.mem);rcases k with⟨k1,k2⟩|⟨k1,k2⟩
 ·rw[k1]at e;rw[k2]at eo;exact⟨c,hc,e▸h2,eo▸h1⟩
 ·rw[k1]at e;rw[k2]at eo;exact⟨c,hc,eo▸h1,e▸h2⟩
theorem xu.bU{d:ak}{v:ai}{y:ab}(h:xu d v y):(Vs.bU (cZ d y.1)).length≤(Vs.bU d).length:=by
 have h1:=(h.cut.same h.one).2;have hb:=h.back;have e:y=(y.1,y.2):=rfl;have eo:ag y=(y.1,(ag y).2):=rfl;obtain⟨_,k⟩:=gO (h.w.side h.mem);rcases k with⟨k1,k2⟩|⟨k1,k2⟩
 ·rw[k1]at e;rw[k2]at eo;have:ph d (y.1,1)=(y.1,0):=by rw[←eo,hb];exact e
  rw[if_pos this]at h1
  split at h1<;>omega
 ·rw[k1]at e;rw[k2]at eo;have:ph d (y.1,0)=(y.1,1):=by rw[←eo,hb];exact e
  rw[if_pos this]at h1
  split at h1<;>omega
theorem xu.parts{d:ak}{v:ai}{y:ab}(h:xu d v y){u:ai}(hu:Lone (cZ d y.1) u)(bL:u.1=v.1):eZ (aJ (cZ d y.1) v.1 zI)=eZ d:=by
 obtain⟨a,b,ha,hb,_,_⟩:=h.cut.Ia;have hr:=lq h.w (eL h.w);have Wy:b8 d y=some v.1:=eJ h.w.rw h.m (by rw[h.r];simp);have Wu:b8 d (ag y)≠some v.1:=fun k=>by
  obtain⟨w,hw,Lt,Ar⟩:=sB h.w (h.w.other h.mem);rw[Ar]at k;rw[KM h.w.sv h.m hw (Option.some.inj k),h.r]at Lt;have Lt:ag y=y:=by simpa using Lt
  obtain⟨_,m⟩:=gO (h.w.side h.mem);rw[Lt]at m;omega
 have bw:a≠b∧(a=v.1∨b=v.1):=by
  have e:y=(y.1,y.2):=rfl;have eo:ag y=(y.1,(ag y).2):=rfl;obtain⟨_,k⟩:=gO (h.w.side h.mem);rcases k with⟨k1,k2⟩|⟨k1,k2⟩
  ·rw[k1]at e;rw[k2]at eo;rw[e,ha]at Wy;rw[eo,hb]at Wu;have:=ab2 Wy;exact⟨fun k=>Wu (by rw[←k,this]),.inl this⟩
  ·rw[k1]at e;rw[k2]at eo;rw[e,hb]at Wy;rw[eo,ha]at Wu;have:=ab2 Wy;exact⟨fun k=>Wu (by rw[k,this]),.inr this⟩
 have zq:¬ck (cZ d y.1) a b:=fun k=>by
  rcases bw.2 with m|m
  ·rw[m,←bL]at k;exact bw.1 (m.trans (bL▸hu.alone k).symm)
  ·rw[m,←bL]at k;exact bw.1 ((bL▸hu.alone (k.symm h.cut.w):a=v.1).trans m.symm)
 obtain⟨R2,h2,h3⟩:=h.cut.UU ha hb zq hr;obtain⟨R3,h4,h5⟩:=hu.EM h2;rw[bL]at h4;have hwf:=hu.wf;rw[bL]at hwf;rw[DZ hwf h4,DZ h.w hr];omega
end Go.Vs
namespace Go.Vs
open Go.Proofs Go.Cy
theorem tU{d:ak}(hw:Wf d):∃R,n6 d R:=⟨_,lq hw (eL hw)⟩
theorem iF{d:ak}(hw:Wf d){R:List ID}(hr:n6 d R):bP d=0↔d.1.length+ft d=2*R.length+d.2.length:=by
 obtain⟨k,h1,h2⟩:=DK hw hr;rw[h1];constructor
 ·intro h;omega
 ·intro h;omega
theorem qE{d:ak}(hw:Wf d):(an d.1).length=2*d.2.length:=by have:=hw.pd.length_eq;rw[Ah]at this;omega
theorem Vy{d':ak}{x:ID}(h:bV d' x)(hg:bP d'=0):bP (cZ d' x)=0:=by
 obtain⟨u,w,hu,hw,_,_⟩:=h.Ia;obtain⟨R,hr⟩:=tU h.wf;have k:=(iF h.wf hr).1 hg;have hv:(cZ d' x).1.length=d'.1.length:=by have:=congrArg List.length h.ids;simpa using this
 have he:(cZ d' x).2.length+1=d'.2.length:=by have h1:=qE h.wf;have h2:=qE h.w;have h3:=h.p.length_eq;simp at h3;omega
 by_cases hc:ck (cZ d' x) u w
 ·have PY:=h.EM hu hw hc hr;by_cases ho:MH d' (x,0) (x,1)
  ·have h1:=(h.same ho).1;obtain⟨j,_,h2⟩:=DK h.w PY;omega
  ·have h1:=h.diff ho;rw[iF h.w PY];omega
 ·obtain⟨R2,PY,hl⟩:=h.UU hu hw hc hr;have ho:MH d' (x,0) (x,1):=Classical.byContradiction fun ho=>hc (h.Gz hu hw ho);have h1:=(h.same ho).1;rw[iF h.w PY];omega
theorem Io(a b:List ai):al (a++b)=al a+al b:=List.countP_append
theorem GH{d:ak}{v:ai}(h:Lone d v):bP d=0↔bP (aJ d v.1 zI)=0:=by
 obtain⟨R,hr⟩:=tU h.w;obtain⟨R2,PY,hl⟩:=h.EM hr;rw[iF h.w hr,iF h.wf PY];obtain⟨a,b,k1,k2,_,_⟩:=h.split;have hf:=h.bU;have e1:d.1.length=(aJ d v.1 zI).1.length+1:=by rw[k1,k2];simp;omega
 have e2:(aJ d v.1 zI).2.length=d.2.length:=by rw[k2]
 have e3:al d.1=al (aJ d v.1 zI).1+1:=by
  rw[k1,k2];show al (a++v::b)=al (a++b)+1;rw[Io,Io];have:al (v::b)=al b+1:=by unfold al;rw[List.countP_cons,h.r];rfl
  omega
 have f1:ft d=(bU d).length+al d.1:=rfl;have f2:ft (aJ d v.1 zI)=(bU (aJ d v.1 zI)).length+al (aJ d v.1 zI).1:=rfl;omega
theorem Rg{d:ak}(hw:Wf d){x:ID}(hx:aQ d.1 x=none)(Mn:Wf (cU (x,([],(e0,0))) d.1,d.2))(hg:bP d=0):bP (cU (x,([],(e0,0))) d.1,d.2)=0:=by
 have hl:Lone (cU (x,([],(e0,0))) d.1,d.2) (x,([],(e0,0))):=⟨Mn,jL.2 (.inl rfl),rfl⟩;rw[GH hl];have e:aJ (cU (x,([],(e0,0))) d.1,d.2) x zI=d:=by have h1:=Dh (x,([],(e0,0))) (l:=d.1) hx;have h2:=qw hw.ge;unfold aJ;show(cT (cU (x,([],(e0,0))) d.1) x,cY d.2 zI)=d;rw[h2];exact congrArg (fun l:List ai=>((l,d.2):ak)) h1
 show bP (aJ (cU (x,([],(e0,0))) d.1,d.2) x zI)=0;rw[e];exact hg
structure jv(f:ai→ai)(g:aj→aj):Prop where
 i:∀v,(f v).1=v.1
 r:∀v,(f v).2.1=v.2.1
 e:∀a,(g a).1=a.1
variable {f:ai→ai} {g:aj→aj}
theorem jv.an(k:jv f g)(l:List ai):Vs.an (l.map f)=Vs.an l:=by unfold Vs.an;rw[List.flatMap_map];congr 1;funext v;exact k.r v
theorem jv.at(k:jv f g)(l:List ai)(x:ab):Eh (l.map f) x=Eh l x:=by
 unfold Eh;rw[List.find?_map];have:((fun v:ai=>decide (x∈v.2.1)) ∘ f)=fun v:ai=>decide (x∈v.2.1):=by funext v;show decide (x∈(f v).2.1)=_;rw[k.r]
 rw[this,Option.map_map];congr 1;funext v;exact k.i v
theorem jv.find(k:jv f g)(l:List ai)(x:ID):aQ (l.map f) x=(aQ l x).map f:=by
 unfold aQ;rw[List.find?_map];have:((fun v:ai=>decide (v.1=x)) ∘ f)=fun v:ai=>decide (v.1=x):=by funext v;show decide ((f v).1=x)=_;rw[k.i]
 rw[this]
theorem jv.al(k:jv f g)(l:List ai):Vs.al (l.map f)=Vs.al l:=by unfold Vs.al;rw[List.countP_map];congr 1;funext v;show(f v).2.1.isEmpty=_;rw[k.r]
theorem jv.jY(k:jv f g)(d:ak)(x:ab):Vs.jY (d.1.map f,d.2.map g) x=Vs.jY d x:=by
 unfold Vs.jY;have h1:b8 (d.1.map f,d.2.map g) x=b8 d x:=k.at d.1 x;rw[h1]
 cases b8 d x with
 |none=>rfl
 |some a =>
  have h2:bF (d.1.map f,d.2.map g) a=bF d a:=by
   unfold bF bj;show((aQ (d.1.map f) a).getD zV).2.1=_;rw[k.find]
   cases aQ d.1 a with
   |none=>rfl
   |some v=>exact k.r v
  show dp (bF (d.1.map f,d.2.map g) a) x 1=_;rw[h2]
theorem jv.ph(k:jv f g)(d:ak)(x:ab):Vs.ph (d.1.map f,d.2.map g) x=Vs.ph d x:=by unfold Vs.ph IB;have h1:b8 (d.1.map f,d.2.map g) x=b8 d x:=k.at d.1 x;rw[h1,k.jY]
theorem jv.XP(k:jv f g)(d:ak){a b:ID}:Ai (d.1.map f,d.2.map g) a b↔Ai d a b:=by
 unfold Ai;have h:∀z,b8 (d.1.map f,d.2.map g) z=b8 d z:=fun z=>k.at d.1 z;have hd:Vs.an (d.1.map f)=Vs.an d.1:=k.an d.1;constructor
 ·rintro⟨z,h1,h2,h3⟩;exact⟨z,hd▸h1,(h z).symm.trans h2,(h _).symm.trans h3⟩
 ·rintro⟨z,h1,h2,h3⟩;exact⟨z,hd.symm▸h1,(h z).trans h2,(h _).trans h3⟩
theorem jv.conn(k:jv f g)(d:ak){a b:ID}:ck (d.1.map f,d.2.map g) a b↔ck d a b:=by
 constructor
 ·intro h
  induction h with
  |refl=>exact .refl _
  |tail _ j ih=>exact ih.tail ((k.XP d).1 j)
 ·intro h
  induction h with
  |refl=>exact .refl _
  |tail _ j ih=>exact ih.tail ((k.XP d).2 j)
theorem jv.EM(k:jv f g){d:ak}{R:List ID}(h:n6 d R):n6 (d.1.map f,d.2.map g) R:=by
 refine⟨h.n,fun r hr=>?_,fun r hr s hs hc=>h.i r hr s hs ((k.conn d).1 hc),fun v hv=>?_⟩
 ·obtain⟨v,hv,he⟩:=h.v r hr;exact⟨f v,abW.2 ⟨v,hv,rfl⟩,(k.i v).trans he⟩
 ·obtain⟨u,hu,rfl⟩:=abW.1 hv;obtain⟨r,hr,hc⟩:=h.c u hu;exact⟨r,hr,by rw[k.i];exact(k.conn d).2 hc⟩
theorem M6(k:jv f g){d:ak}(hw:Wf d)(Mn:Wf (d.1.map f,d.2.map g))(hg:bP d=0):bP (d.1.map f,d.2.map g)=0:=by obtain⟨R,hr⟩:=tU hw;have h:=(iF hw hr).1 hg;rw[iF Mn (k.EM hr)];have hd:Vs.an (d.1.map f)=Vs.an d.1:=k.an d.1;have a:=bQ hw;have b:=bQ Mn;have hc:(bU (d.1.map f,d.2.map g)).length=(bU d).length :=Gs.count (D:=Vs.an (d.1.map f)) Mn.rw.n b ⟨fun c hc=>(a.c c hc).congr fun z hz=>k.ph d z,a.p.trans (List.Perm.of_eq hd.symm)⟩;have f1:ft d=(bU d).length+Vs.al d.1:=rfl;have f2:ft (d.1.map f,d.2.map g)=(bU (d.1.map f,d.2.map g)).length+Vs.al (d.1.map f):=rfl;have hal:Vs.al (d.1.map f)=Vs.al d.1:=k.al d.1;show(d.1.map f).length+_=_+(d.2.map g).length;rw[List.length_map,List.length_map];omega
theorem Rh(o:bg):jv (iA o) (jK o):=by
 refine⟨fun v=>?_,fun v=>?_,fun a=>?_⟩
 ·unfold iA;split
  ·split<;>rfl
  ·rfl
 ·unfold iA;split
  ·split<;>rfl
  ·rfl
 ·unfold jK;split
  ·split<;>rfl
  ·rfl
end Go.Vs
namespace Go.Vs
open Go.Proofs Go.Cy
def hd(l:List ab):ab:=l.head?.getD zD
theorem GI{f g:ab→ab}{φ:ab→List ab}(hn:∀z,φ z≠[]):∀{c:List ab} {y:ab},(∀z∈c,Path g (φ z) (hd (φ (f z))))→Path f c y→Path g (c.flatMap φ) (hd (φ y))
 |[],y,_,_=>trivial
 |a::r,y,hp,h=>by
  obtain⟨h1,h2⟩:f a=r.head?.getD y∧Path f r y:=h;have ih:=GI hn (fun z hz=>hp z (abq _ hz)) h2;rw[List.flatMap_cons];refine Path.app.2 ⟨?_,ih⟩;have:=hp a abT;rw[h1]at this
  cases r with
  |nil=>exact this
  |cons b r =>
   have e:((b::r).flatMap φ).head?.getD (hd (φ y))=hd (φ b):=by
    rw[List.flatMap_cons]
    cases hb:φ b with
    |nil=>exact absurd hb (hn b)
    |cons q s=>rfl
   rw[e];exact this
theorem Vz{f g:ab→ab}{φ:ab→List ab}(hn:∀z,φ z≠[]){c:List ab}(hp:∀z∈c,Path g (φ z) (hd (φ (f z))))(h:jQ f c):jQ g (c.flatMap φ):=by
 cases c with
 |nil=>exact h.elim
 |cons x r =>
  have h':Path f (x::r) x:=h;have:=GI hn hp h';rw[List.flatMap_cons]at this ⊢
  cases hx:φ x with
  |nil=>exact absurd hx (hn x)
  |cons q s =>rw[hx]at this;exact this
structure Sub(s t:ak)(v:ID)(m k:ab)(u w:ID):Prop where
 ws:Wf s
 wt:Wf t
 mm:m∈an s.1
 kn:k∉an s.1
 ok:ag k∉an s.1
 kk:k≠ag k
 k2:k.2=0∨k.2=1
 p:(an t.1).Perm (k::ag k::an s.1)
 pm:∀z∈an s.1,z≠ag m→ph t z=if ph s z=m then ag k else ph s z
 po:ph t (ag m)=k
 pk:ph t k=if ph s (ag m)=m then ag k else ph s (ag m)
 pq:ph t (ag k)=m
 am:b8 s m=some u
 ao:b8 s (ag m)=some w
 at_:∀z∈an s.1,z≠m→b8 t z=b8 s z
 tm:b8 t m=some v
 tk:b8 t k=some v
 tq:b8 t (ag k)=some u
 vs:∀r,(∃x∈t.1,x.1=r)↔r=v∨∃x∈s.1,x.1=r
 nv:∀x∈s.1,x.1≠v
 len:t.1.length=s.1.length+1
 al:al t.1=al s.1
variable {s t:ak} {v:ID} {m k:ab} {u w:ID}
def py(m k:ab)(z:ab):List ab:=if z=m then[ag k,m] else if z=ag m then[ag m,k] else[z]
theorem Yl(m k z:ab):py m k z≠[]:=by
 unfold py;by_cases e:z=m
 ·rw[if_pos e];simp
 ·rw[if_neg e];by_cases e2:z=ag m
  ·rw[if_pos e2];simp
  ·rw[if_neg e2];simp
theorem Sub.om(h:Sub s t v m k u w):ag m∈an s.1:=h.ws.other h.mm
theorem pz{m:ab}(h:m.2=0∨m.2=1):ag m≠m:=fun e=>by obtain⟨_,k⟩:=gO h;rw[e]at k;rcases k with⟨a,b⟩|⟨a,b⟩<;>omega
theorem abF(h:Sub s t v m k u w)(y:ab):hd (py m k y)=if y=m then ag k else y:=by
 unfold py;by_cases e:y=m
 ·rw[if_pos e,if_pos e];rfl
 ·rw[if_neg e,if_neg e];by_cases e2:y=ag m
  ·rw[if_pos e2,e2];rfl
  ·rw[if_neg e2];rfl
theorem Sub.bU(h:Sub s t v m k u w):(Vs.bU t).length=(Vs.bU s).length:=by
 have a:=bQ h.ws;have b:=bQ h.wt;have Ym:=pz (h.ws.side h.mm);have cyc:∀c∈Vs.bU s,jQ (ph t) (c.flatMap (py m k)):=fun c hc=>by
  refine Vz (Yl m k) (fun z hz=>?_) (a.c c hc);have hz:z∈an s.1:=a.p.mem_iff.1 (ace.2 ⟨c,hc,hz⟩);rw[abF h];unfold py;by_cases e:z=m
  ·rw[if_pos e,e];exact⟨h.pq,h.pm m h.mm (fun q=>Ym q.symm),trivial⟩
  ·rw[if_neg e];by_cases e2:z=ag m
   ·rw[if_pos e2,e2];exact⟨h.po,h.pk,trivial⟩
   ·rw[if_neg e2];exact⟨h.pm z hz e2,trivial⟩
 have perm:((Vs.bU s).map (·.flatMap (py m k))).flatten.Perm (an t.1):=by
  have e:((Vs.bU s).map (·.flatMap (py m k))).flatten=(Vs.bU s).flatten.flatMap (py m k):=by
   have:∀L:List (List ab),(L.map (·.flatMap (py m k))).flatten=L.flatten.flatMap (py m k):=by
    intro L
    induction L with
    |nil=>rfl
    |cons a L ih=>rw[List.map_cons,List.flatten_cons,List.flatten_cons,List.flatMap_append,ih]
   exact this _
  rw[e];refine(a.p.flatMap_right (py m k)).trans ((?_:((an s.1).flatMap (py m k)).Perm _).trans h.p.symm);have nd:=h.ws.rw.n;obtain⟨r1,hr1⟩:∃r1,(an s.1).Perm (m::r1):=⟨_,List.perm_cons_erase h.mm⟩;have hm1:ag m∈r1:=(abM.1 (hr1.mem_iff.1 h.om)).resolve_left Ym;obtain⟨r2,PY⟩:∃r2,r1.Perm (ag m::r2):=⟨_,List.perm_cons_erase hm1⟩;have hp:(an s.1).Perm (m::ag m::r2):=hr1.trans (List.Perm.cons _ PY);have nd2:=hp.nodup_iff.1 nd;have bL:r2.flatMap (py m k)=r2:=by
   have:∀l:List ab,(∀z∈l,z≠m∧z≠ag m)→l.flatMap (py m k)=l:=by
    intro l
    induction l with
    |nil=>intro _;rfl
    |cons z l ih =>intro hl;obtain⟨h1,h2⟩:=hl z abT;rw[List.flatMap_cons,ih fun y hy=>hl y (List.mem_cons_of_mem _ hy)];unfold py;rw[if_neg h1,if_neg h2];rfl
   refine this r2 fun z hz=>⟨fun e=>?_,fun e=>?_⟩
   ·subst e;exact(abR.1 nd2).1 (abq _ hz)
   ·subst e;exact(abR.1 (abR.1 nd2).2).1 hz
  refine(hp.flatMap_right (py m k)).trans ?_;rw[List.flatMap_cons,List.flatMap_cons,bL];have e1:py m k m=[ag k,m]:=if_pos rfl;have e2:py m k (ag m)=[ag m,k]:=by unfold py;rw[if_neg Ym,if_pos rfl]
  rw[e1,e2];refine List.Perm.trans ?_ (List.Perm.cons k (List.Perm.cons (ag k) hp.symm));show(ag k::m::ag m::k::r2).Perm (k::ag k::m::ag m::r2);exact(List.perm_middle (l₁:=[ag k,m,ag m]) (l₂:=r2) (a:=k))
 have:=Gs.count h.wt.rw.n b ⟨fun c hc=>by obtain⟨c0,h1,rfl⟩:=abW.1 hc;exact cyc c0 h1,perm⟩;rw[List.length_map]at this;exact this
theorem Sub.ON(h:Sub s t v m k u w){a b:ID}(c:ck s a b):ck t a b:=by
 have dt:∀z∈an s.1,z∈an t.1:=fun z hz=>h.p.mem_iff.2 (abq _ (abq _ hz));have Ym:=pz (h.ws.side h.mm);have hqt:ag k∈an t.1:=h.p.mem_iff.2 (by simp);have uv:Ai t u v:=⟨ag k,hqt,h.tq,by rw[bW h.k2];exact h.tk⟩;have vw:Ai t v w:=⟨m,dt m h.mm,h.tm,by rw[h.at_ _ h.om Ym];exact h.ao⟩;have uw:ck t u w:=uv.conn.trans vw.conn
 induction c with
 |refl=>exact .refl _
 |tail _ j ih =>
  refine ih.trans ?_;obtain⟨z,hz,h1,h2⟩:=j;by_cases e:z=m
  ·subst e;rw[h.am]at h1;rw[h.ao]at h2
   cases h1;cases h2
   exact uw
  ·by_cases e2:z=ag m
   ·subst e2;rw[h.ao]at h1;rw[bW (h.ws.side h.mm),h.am]at h2
    cases h1;cases h2
    exact uw.symm h.wt
   ·have e3:ag z≠m:=fun q=>e2 (by rw[←q,bW (h.ws.side hz)]);exact Ai.conn ⟨z,dt z hz,by rw[h.at_ z hz e];exact h1,by rw[h.at_ _ (h.ws.other hz) e3];exact h2⟩
theorem Sub.Yn(h:Sub s t v m k u w){a b:ID}(c:ck t a b):ck s (if a=v then u else a) (if b=v then u else b):=by
 have Ym:=pz (h.ws.side h.mm);have uw:ck s u w:=Ai.conn ⟨m,h.mm,h.am,h.ao⟩;have vof:∀{z x},z∈an s.1→b8 s z=some x→x≠v:=fun {z x} hz hx=>by obtain⟨y,hy,_,h2⟩:=sB h.ws hz;rw[h2]at hx;cases hx;exact h.nv y hy
 have hu:=vof h.mm h.am;have hw:=vof h.om h.ao
 induction c with
 |refl=>exact .refl _
 |tail _ j ih =>
  refine ih.trans ?_;obtain⟨z,hz,h1,h2⟩:=j;have Bw:=h.p.mem_iff.1 hz;rcases abM.1 Bw with rfl|Bw
  ·rw[h.tk]at h1;rw[h.tq]at h2
   cases h1;cases h2
   rw[if_pos rfl,if_neg hu];exact .refl _
  ·rcases abM.1 Bw with rfl|Bw
   ·rw[h.tq]at h1;rw[bW h.k2,h.tk]at h2
    cases h1;cases h2
    rw[if_neg hu,if_pos rfl];exact .refl _
   ·by_cases e:z=m
    ·subst e;rw[h.tm]at h1;rw[h.at_ _ h.om Ym,h.ao]at h2
     cases h1;cases h2
     rw[if_pos rfl,if_neg hw];exact uw
    ·by_cases e2:z=ag m
     ·subst e2;rw[h.at_ _ h.om Ym,h.ao]at h1;rw[bW (h.ws.side h.mm),h.tm]at h2
      cases h1;cases h2
      rw[if_neg hw,if_pos rfl];exact uw.symm h.ws
     ·have e3:ag z≠m:=fun q=>e2 (by rw[←q,bW (h.ws.side Bw)]);rw[h.at_ z Bw e]at h1;rw[h.at_ _ (h.ws.other Bw) e3]at h2;rw[if_neg (vof Bw h1),if_neg (vof (h.ws.other Bw) h2)];exact Ai.conn ⟨z,Bw,h1,h2⟩
theorem Sub.EM(h:Sub s t v m k u w){R:List ID}(hr:n6 s R):n6 t R:=by
 refine⟨hr.n,fun r hrm=>(h.vs r).2 (.inr (hr.v r hrm)),fun r h1 q h2 c=>?_,fun x hx=>?_⟩
 ·obtain⟨x,hx,YN⟩:=hr.v r h1;obtain⟨y,hy,hyq⟩:=hr.v q h2;have:=h.Yn c;rw[if_neg (by rw[←YN];exact h.nv x hx),if_neg (by rw[←hyq];exact h.nv y hy)]at this;exact hr.i r h1 q h2 this
 ·rcases (h.vs x.1).1 ⟨x,hx,rfl⟩ with e|⟨y,hy,e⟩
  ·obtain⟨y,hy,_,hyu⟩:=sB h.ws h.mm;rw[h.am]at hyu;obtain⟨r,hrm,hc⟩:=hr.c y hy;refine⟨r,hrm,?_⟩;rw[e];have hqt:ag k∈an t.1:=h.p.mem_iff.2 (by simp);have uv:Ai t u v:=⟨ag k,hqt,h.tq,by rw[bW h.k2];exact h.tk⟩;have e2:u=y.1:=ab2 hyu;exact(uv.symm h.wt).conn.trans (e2▸h.ON hc)
  ·obtain⟨r,hrm,hc⟩:=hr.c y hy;exact⟨r,hrm,e▸h.ON hc⟩
theorem VA(h:Sub s t v m k u w):bP s=0↔bP t=0:=by obtain⟨R,hr⟩:=tU h.ws;rw[iF h.ws hr,iF h.wt (h.EM hr)];have h1:=qE h.ws;have h2:=qE h.wt;have h3:=h.p.length_eq;have h4:=h.bU;have h5:=h.al;have h6:=h.len;have f1:ft s=(Vs.bU s).length+Vs.al s.1:=rfl;have f2:ft t=(Vs.bU t).length+Vs.al t.1:=rfl;simp at h3;omega
end Go.Vs
namespace Go.Vs
open Go.Proofs Go.Cy
structure Fr(s t:ak)(v:ID)(m k:ab)(uS uT vV:ai):Prop where
 ws:Wf s
 wt:Wf t
 mem:∀y,y∈t.1↔y=vV∨(y∈s.1∧y.1≠uS.1)∨y=uT
 us:uS∈s.1
 ui:uT.1=uS.1
 vi:vV.1=v
 vr:vV.2.1=[m,k]∨vV.2.1=[k,m]
 mm:m∈uS.2.1
 k2:k.2=0∨k.2=1
 kn:k∉an s.1
 ok:ag k∉an s.1
 nx:∀z∈uS.2.1,(if z=m then ag k else z)∈uT.2.1∧de uT.2.1 (if z=m then ag k else z)=(if de uS.2.1 z=m then ag k else de uS.2.1 z)
 p:(an t.1).Perm (k::ag k::an s.1)
 nv:∀x∈s.1,x.1≠v
 len:t.1.length=s.1.length+1
 al:al t.1=al s.1
theorem zc{m k:ab}(h:m≠k):de [m,k] m=k∧de [m,k] k=m:=by
 have hn:[m,k].Nodup:=by simp[h]
 have a:=pe hn (i:=0) (x:=m) rfl;have b:=pe hn (i:=1) (x:=k) rfl;exact⟨a,by rw[b];simp⟩
variable {s t:ak} {v:ID} {m k:ab} {uS uT vV:ai}
theorem Fr.sub(h:Fr s t v m k uS uT vV):∃w,Sub s t v m k uS.1 w:=by
 have IA:m∈an s.1:=aS.2 ⟨uS,h.us,h.mm⟩;have hod:ag m∈an s.1:=h.ws.other IA;have Ym:=pz (h.ws.side IA);have Xe:m≠k:=fun e=>h.kn (e▸IA);obtain⟨w,hw⟩:=abY.1 (DD hod);have hvt:vV∈t.1:=(h.mem vV).2 (.inl rfl);have Yo:uT∈t.1:=(h.mem uT).2 (.inr (.inr rfl));have rs:=h.ws.rw;have rt:=h.wt.rw;have Wj:m∈vV.2.1:=by rcases h.vr with e|e<;>rw[e]<;>simp
 have hkv:k∈vV.2.1:=by rcases h.vr with e|e<;>rw[e]<;>simp
 have sm:sg t m=k∧sg t k=m:=by
  rw[jR rt hvt Wj,jR rt hvt hkv];rcases h.vr with e|e
  ·rw[e];exact zc Xe
  ·rw[e];exact⟨(zc (Ne.symm Xe)).2,(zc (Ne.symm Xe)).1⟩
 have hqu:ag k∈uT.2.1:=by have:=(h.nx m h.mm).1;rwa [if_pos rfl]at this
 have pl:∀z∈an s.1,(∃y,y∈s.1∧z∈y.2.1∧y∈t.1∧z≠m∧sg s z≠m)∨z∈uS.2.1:=fun z hz=>by
  obtain⟨y,hy,OM⟩:=aS.1 hz;by_cases e:y.1=uS.1
  ·have:=KM h.ws.sv h.us hy e;subst this;exact .inr OM
  ·refine .inl ⟨y,hy,OM,(h.mem y).2 (.inr (.inl ⟨hy,e⟩)),fun q=>?_,fun q=>?_⟩
   ·subst q;exact e (congrArg Prod.fst (rs.one h.us hy h.mm OM))
   ·rw[jR rs hy OM]at q;have:=kB (rs.ring hy) OM;rw[q]at this;exact e (congrArg Prod.fst (rs.one h.us hy h.mm this))
 have sgm:∀z∈an s.1,sg t (if z=m then ag k else z)=if sg s z=m then ag k else sg s z:=fun z hz=>by
  rcases pl z hz with⟨y,hy,OM,hyt,h1,h2⟩|H7
  ·rw[if_neg h1,if_neg h2,jR rt hyt OM,jR rs hy OM]
  ·obtain⟨n1,n2⟩:=h.nx z H7;rw[jR rt Yo n1,jR rs h.us H7];exact n2
 have up:∀z∈an s.1,z∈an t.1:=fun z hz=>h.p.mem_iff.2 (abq _ (abq _ hz));have kt:k∈an t.1:=h.p.mem_iff.2 (by simp);have qt:ag k∈an t.1:=h.p.mem_iff.2 (by simp);refine⟨w,h.ws,h.wt,IA,h.kn,h.ok,(fun e=>pz h.k2 e.symm),h.k2,h.p,fun z hz hzo=>?_,?_,?_,?_,?_,hw,fun z hz hzm=>?_,?_,?_,?_,fun r=>?_,h.nv,h.len,h.al⟩
 ·rw[ju (up z hz),ju hz];have bw:ag z≠m:=fun e=>hzo (by rw[←e,bW (h.ws.side hz)]);have:=sgm (ag z) (h.ws.other hz)
  rwa [if_neg bw]at this
 ·rw[ju (up _ hod),bW (h.ws.side IA)];exact sm.1
 ·rw[ju kt,ju hod,bW (h.ws.side IA)];have:=sgm m IA
  rwa [if_pos rfl]at this
 ·rw[ju qt,bW h.k2];exact sm.2
 ·exact eJ rs h.us h.mm
 ·rcases pl z hz with⟨y,hy,OM,hyt,_,_⟩|H7
  ·exact(eJ rt hyt OM).trans (eJ rs hy OM).symm
  ·have n1:=(h.nx z H7).1;rw[if_neg hzm]at n1;refine(eJ rt Yo n1).trans ((congrArg some h.ui).trans (eJ rs h.us H7).symm)
 ·exact(eJ rt hvt Wj).trans (congrArg some h.vi)
 ·exact(eJ rt hvt hkv).trans (congrArg some h.vi)
 ·exact(eJ rt Yo hqu).trans (congrArg some h.ui)
 ·constructor
  ·rintro⟨x,hx,rfl⟩;rcases (h.mem x).1 hx with rfl|⟨h1,_⟩|rfl
   ·exact .inl h.vi
   ·exact .inr ⟨x,h1,rfl⟩
   ·exact .inr ⟨uS,h.us,h.ui.symm⟩
  ·rintro(rfl|⟨x,hx,rfl⟩)
   ·exact⟨vV,hvt,h.vi⟩
   ·by_cases e:x.1=uS.1
    ·exact⟨uT,Yo,h.ui.trans e.symm⟩
    ·exact⟨x,(h.mem x).2 (.inr (.inl ⟨hx,e⟩)),rfl⟩
theorem Fr.flat(h:Fr s t v m k uS uT vV):bP s=0↔bP t=0:=by obtain⟨w,hs⟩:=h.sub;exact VA hs
def pJ(m q z:ab):ab:=if z=m then q else z
theorem Ip{row:List ab}(hn:row.Nodup){j:Nat}{m:ab}(hj:row[j]? = some m)(q:ab):row.set j q=row.map (pJ m q):=by
 apply acm;intro i;rw[List.getElem?_set,List.getElem?_map];by_cases e:j=i
 ·subst e;have:=(aby.1 hj).1;rw[if_pos rfl,if_pos this,hj];simp[pJ]
 ·rw[if_neg e]
  cases hi:row[i]? with
  |none=>rfl
  |some x =>
   have:x≠m:=fun k=>by subst k;exact e (yR hn hj hi)
   simp[pJ,this]
theorem K9{f g:ab→ab}{r:ab→ab}:∀{c:List ab} {y:ab},(∀z∈c,g (r z)=r (f z))→Path f c y→Path g (c.map r) (r y)
 |[],_,_,_=>trivial
 |a::c,y,h,p=>by
  obtain⟨h1,h2⟩:f a=c.head?.getD y∧Path f c y:=p;refine⟨?_,K9 (fun z hz=>h z (abq _ hz)) h2⟩;rw[h a List.mem_cons_self,h1]
  cases c<;>rfl
theorem Yp{f g:ab→ab}{r:ab→ab}{c:List ab}(h:∀z∈c,g (r z)=r (f z))(hc:jQ f c):jQ g (c.map r):=by
 cases c with
 |nil=>exact hc.elim
 |cons x c=>exact K9 (y:=x) h hc
theorem qF{row:List ab}(hn:row.Nodup){m q:ab}(hm:m∈row)(hq:q∉row){z:ab}(hz:z∈row):pJ m q z∈fi row m q∧de (fi row m q) (pJ m q z)=pJ m q (de row z):=by
 obtain⟨j,h1,h2,_⟩:=eg hm;have e:fi row m q=cj (row.map (pJ m q)):=by unfold fi;rw[if_pos ⟨hm,hq⟩,h1,Int.toNat_natCast,Ip hn h2]
 have iW:pJ m q z∈row.map (pJ m q):=abW.2 ⟨z,hz,rfl⟩;have nd:(row.map (pJ m q)).Nodup:=by rw[←Ip hn h2];exact QJ hn h2 hq
 rw[e];refine⟨oX.2 iW,?_⟩;have nd2:(cj (row.map (pJ m q))).Nodup:=(kq _).nodup_iff.2 nd;have c1:jQ (de (cj (row.map (pJ m q)))) (row.map (pJ m q)):=by obtain⟨i,hi,he⟩:=Ag (row.map (pJ m q));have:=sx nd2 (ac3 (oX.2 iW));rw[he]at this ⊢;exact KO this
 have back:∀y∈row,pJ q m (pJ m q y)=y:=fun y hy=>by
  unfold pJ;by_cases a:y=m
  ·rw[if_pos a,if_pos rfl,a]
  ·rw[if_neg a,if_neg (fun kk:y=q=>hq (kk▸hy))]
 have c2:jQ (fun y=>pJ m q (de row (pJ q m y))) (row.map (pJ m q)):=by refine Yp (fun y hy=>?_) (sx hn (ac3 hz));show pJ m q (de row (pJ q m (pJ m q y)))=_;rw[back y hy]
 have:=Gv c1 c2 _ iW;rw[this];show pJ m q (de row (pJ q m (pJ m q z)))=_;rw[back z hz]
end Go.Vs
namespace Go.Vs
open Go.Proofs Go.Cy
theorem OO(v:ai):∀l:List ai,al (cU v l)=al (v::l)
 |[]=>rfl
 |w::r=>by
  have ih:=OO v r;unfold cU
  split
  ·rfl
  ·unfold al at ih ⊢;rw[List.countP_cons,ih,List.countP_cons,List.countP_cons,List.countP_cons];omega
theorem zd(a b:List ai)(v:ai):al (a++v::b)=al a+(if v.2.1.isEmpty then 1 else 0)+al b:=by
 rw[Io];have:al (v::b)=al b+if v.2.1.isEmpty then 1 else 0:=by unfold al;rw[List.countP_cons]
 omega
theorem ze{l:List ab}{x:ab}(h:x∈l):l.isEmpty=false:=by cases l with
 |nil=>cases h
 |cons _ _=>rfl
theorem Ri{row:List ab}(hn:row.Nodup){m q:ab}(hm:m∈row)(hq:q∉row){z:ab}(hz:z∈fi row m q):∃y∈row,z=pJ m q y:=by obtain⟨j,h1,h2,_⟩:=eg hm;unfold fi at hz;rw[if_pos ⟨hm,hq⟩,h1,Int.toNat_natCast,Ip hn h2]at hz;obtain⟨y,hy,e⟩:=abW.1 (oX.1 hz);exact⟨y,hy,e.symm⟩
theorem VB{d:ak}(h:Wf d){m k:ab}{v:ID}(W0:m.2=0∨m.2=1)(oF:k.2=0∨k.2=1)(hm:(aY d.2 m.1).isSome=true)(Nn:aQ d.1 v=none)(hnk:aY d.2 k.1=none) (ht:Wf (cU (v,(cj [m,k],(e0,0))) (aC d m (ag k)).1,dv (k.1,(e0,0)) (aC d m (ag k)).2)) :
  ∃uS uT vV,Fr d (cU (v,(cj [m,k],(e0,0))) (aC d m (ag k)).1,dv (k.1,(e0,0)) (aC d m (ag k)).2) v m k uS uT vV:=by
 have IA:m∈an d.1:=h.kA hm W0;have Iz:ag k∉an d.1:=h.tQ hnk _;have hkn:k∉an d.1:=h.tQ hnk _;obtain⟨p1,q1⟩:=jP h.rw IA Iz;obtain⟨uS,hu,hmu⟩:=aS.1 IA;have hqu:ag k∉uS.2.1:=fun e=>Iz (aS.2 ⟨uS,hu,e⟩);obtain⟨a,b,e1,e2,_,e4⟩:=mT h.sv hu;obtain⟨uT,Yo⟩:∃uT:ai,uT=(uS.1,(fi uS.2.1 m (ag k),uS.2.2)):=⟨_,rfl⟩;have es:(aC d m (ag k)).1=a++uT::b:=by rw[qu h.rw _ hu hmu,Yo];exact e4 _
 have nd:=h.rw.ring hu;have hmT:ag k∈uT.2.1:=by
  have:=(qF nd hmu hqu hmu).1;rw[Yo];unfold pJ at this
  rwa [if_pos rfl]at this
 refine⟨uS,uT,(v,(cj [m,k],(e0,0))),h,ht,fun y=>?_,hu,by rw[Yo],rfl,UI m k,hmu,oF,hkn,Iz,fun z hz=>?_,?_,fun x hx e=>?_,?_,?_⟩
 ·show y∈cU _ (aC d m (ag k)).1↔_;rw[jL,es,e1];constructor
  ·rintro(k1|k1)
   ·exact .inl k1
   ·rcases abU.1 k1 with k1|k1
    ·exact .inr (.inl ⟨abO _ k1,e2 y (abO _ k1)⟩)
    ·rcases abM.1 k1 with k1|k1
     ·exact .inr (.inr k1)
     ·exact .inr (.inl ⟨abN _ (abq _ k1),e2 y (abN _ k1)⟩)
  ·rintro(k1|⟨k1,k2⟩|k1)
   ·exact .inl k1
   ·refine .inr ?_;rcases abU.1 k1 with k1|k1
    ·exact abO _ k1
    ·rcases abM.1 k1 with k1|k1
     ·subst k1;exact absurd rfl k2
     ·exact abN _ (abq _ k1)
   ·rw[k1];exact .inr (abN _ abT)
 ·rw[Yo];exact qF nd hmu hqu hz
 ·show(an (cU _ (aC d m (ag k)).1)).Perm _;refine(vE _ _).trans ((ach _ (kq [m,k])).trans ?_);show(m::k::an (aC d m (ag k)).1).Perm _;exact(List.Perm.swap k m _).trans (List.Perm.cons k p1.symm)
 ·have:=jO h.sv hx;rw[e,Nn]at this;cases this
 ·show(cU _ (aC d m (ag k)).1).length=_;rw[fk,es,e1];simp
 ·show al (cU _ (aC d m (ag k)).1)=_;rw[OO,es,e1];have z1:al ((v,(cj [m,k],((e0,0):ByteArray×Int)))::(a++uT::b))=al (a++uT::b):=by have:=zd [] (a++uT::b) (v,(cj [m,k],(e0,0)));rw[List.nil_append]at this;rw[this,if_neg (by rw[ze (x:=m) (oX.2 (by simp))];simp)];show al []+0+_=_;have:al []=0:=rfl;omega
  rw[z1,zd,zd,ze hmT,ze hmu]
theorem Rj{d:ak}(h:Wf d){vV:ai}{a b:ab}(hv:vV∈d.1)(hr:vV.2.1=[a,b]∨vV.2.1=[b,a])(z8:a.1≠b.1)(hs:Wf (aJ (aC (aJ d vV.1 zI) (ag b) a) zI b.1)) :
  ∃uS uT,Fr (aJ (aC (aJ d vV.1 zI) (ag b) a) zI b.1) d vV.1 a b uS uT vV:=by
 have hrp:vV.2.1.Perm [a,b]:=by
  rcases hr with e|e
  ·rw[e]
  ·rw[e];exact List.Perm.swap _ _ _
 obtain⟨p,q,h1,bw,h2,_⟩:=mT h.sv hv;have pd:(an d.1).Perm (a::b::an (p++q)):=by have:=(js p q vV).trans (ach _ hrp);rw[←h1]at this;exact this
 have QH:aJ d vV.1 zI=(p++q,d.2):=by unfold aJ;rw[h2,qw h.ge]
 have Et:=pd.nodup_iff.1 h.rw.n;have hbd:b∈an d.1:=pd.mem_iff.2 (by simp);have Eo:=h.side hbd;have QI:ag b∈an (p++q):=by
  have h3:=h.other hbd;rcases abM.1 (pd.mem_iff.1 h3) with k|k
  ·exact absurd (congrArg Prod.fst k) (fun k=>z8 k.symm)
  rcases abM.1 k with k|k
  ·exact absurd k (pz Eo)
  ·exact k
 have H5:Rw (p++q):=⟨by rw[←h2];exact mR h.sv,(abR.1 (abR.1 Et).2).2⟩;have ha:a∉an (p++q):=fun k=>(abR.1 Et).1 (abq _ k);rw[QH]at hs ⊢;obtain⟨p1,q1⟩:=jP (d:=(p++q,d.2)) H5 QI ha;have UC:∀w∈(aC (p++q,d.2) (ag b) a).1,GV w:=by
  refine qv (d:=(p++q,d.2)) (fun w hw=>h.gv w ?_) _ _;rw[h1];rcases abU.1 hw with k|k
  ·exact abO _ k
  ·exact abN _ (abq _ k)
 have RC:(aJ (aC (p++q,d.2) (ag b) a) zI b.1).1=(aC (p++q,d.2) (ag b) a).1:=tM UC;obtain⟨uT,hu,hbu⟩:=aS.1 QI;have hau:a∉uT.2.1:=fun e=>ha (aS.2 ⟨uT,hu,e⟩);obtain⟨l,r,e1,e2,_,e4⟩:=mT H5.s hu;obtain⟨uS,Ll⟩:∃uS:ai,uS=(uT.1,(fi uT.2.1 (ag b) a,uT.2.2)):=⟨_,rfl⟩;have es:(aC (p++q,d.2) (ag b) a).1=l++uS::r:=by rw[qu (d:=(p++q,d.2)) H5 _ hu hbu,Ll];exact e4 _
 have nd:=H5.ring hu;have hmS:a∈uS.2.1:=by
  have:=(qF nd hbu hau hbu).1;rw[Ll];unfold pJ at this
  rwa [if_pos rfl]at this
 have back:∀y∈uT.2.1,pJ a (ag b) (pJ (ag b) a y)=y:=fun y hy=>by
  unfold pJ;by_cases c:y=ag b
  ·rw[if_pos c,if_pos rfl,c]
  ·rw[if_neg c,if_neg (fun kk:y=a=>hau (kk▸hy))]
 have hp:(an d.1).Perm (b::ag b::an (aJ (aC (p++q,d.2) (ag b) a) zI b.1).1):=by rw[RC];exact pd.trans ((List.Perm.swap b a _).trans (List.Perm.cons b p1))
 have af3:=hp.nodup_iff.1 h.rw.n;have abG:∀y,y∈(aJ (aC (p++q,d.2) (ag b) a) zI b.1).1↔y∈l++uS::r:=fun y=>by rw[RC,es]
 refine⟨uS,uT,hs,h,fun y=>?_,(abG uS).2 (abN _ abT),by rw[Ll],rfl,hr,hmS,Eo,fun e=>?_,fun e=>?_,fun z hz=>?_,hp,fun x hx=>?_,?_,?_⟩
 ·rw[h1,abG];have G4:y∈p++vV::q↔y=vV∨y∈p++q:=by
   simp only[List.mem_append,List.mem_cons];constructor
   ·rintro(c|c|c)
    ·exact .inr (.inl c)
    ·exact .inl c
    ·exact .inr (.inr c)
   ·rintro(c|c|c)
    ·exact .inr (.inl c)
    ·exact .inl c
    ·exact .inr (.inr c)
  rw[G4,e1];have Yj:uS.1=uT.1:=by rw[Ll]
  constructor
  ·rintro(c|c)
   ·exact .inl c
   ·rcases abU.1 c with c|c
    ·exact .inr (.inl ⟨abO _ c,by rw[Yj];exact e2 y (abO _ c)⟩)
    ·rcases abM.1 c with c|c
     ·exact .inr (.inr c)
     ·exact .inr (.inl ⟨abN _ (abq _ c),by rw[Yj];exact e2 y (abN _ c)⟩)
  ·rintro(c|⟨c,c2⟩|c)
   ·exact .inl c
   ·refine .inr ?_;rcases abU.1 c with c|c
    ·exact abO _ c
    ·rcases abM.1 c with c|c
     ·subst c;exact absurd rfl c2
     ·exact abN _ (abq _ c)
   ·rw[c];exact .inr (abN _ abT)
 ·exact(abR.1 af3).1 (abq _ e)
 ·exact(abR.1 (abR.1 af3).2).1 e
 ·rw[Ll]at hz;obtain⟨y,hy,rfl⟩:=Ri nd hbu hau hz;have n1:=(qF nd hbu hau hy).2;have n2:de uS.2.1 (pJ (ag b) a y)=pJ (ag b) a (de uT.2.1 y):=by rw[Ll];exact n1
  have b1:=back y hy;have b2:=back _ (kB nd hy);show pJ a (ag b) (pJ (ag b) a y)∈uT.2.1∧de uT.2.1 (pJ a (ag b) (pJ (ag b) a y))=pJ a (ag b) (de uS.2.1 (pJ (ag b) a y));rw[b1,n2,b2];exact⟨hy,rfl⟩
 ·have hx:=(abG x).1 hx;have:∃y∈p++q,y.1=x.1:=by
   rw[e1];rcases abU.1 hx with c|c
   ·exact⟨x,abO _ c,rfl⟩
   ·rcases abM.1 c with c|c
    ·exact⟨uT,abN _ abT,by rw[c,Ll]⟩
    ·exact⟨x,abN _ (abq _ c),rfl⟩
  obtain⟨y,hy,e⟩:=this;rw[←e];exact bw y hy
 ·rw[RC,es,h1];have:=congrArg List.length e1;simp at this ⊢;omega
 ·rw[RC,es,h1];have z1:=zd p q vV;have z2:=zd l r uS;have z3:=zd l r uT;have z4:=Io p q;rw[e1]at z4;rw[ze (hrp.mem_iff.2 (by simp):a∈vV.2.1)]at z1;rw[ze hmS]at z2;rw[ze hbu]at z3;simp at z1 z2 z3;omega
theorem bK:bP zS.1=0:=by have hr:n6 zS.1 []:=⟨List.nodup_nil,fun r h=>(by cases h),fun r h=>(by cases h),fun v h=>(by cases h)⟩;rw[iF Wf.zero hr];rfl
theorem VC{s:StateT}(h:dF s)(hg:bP s.1=0)(o:bg):bP (jW s o).1.1=0:=by
 have hw:=(h.one o).d;unfold jW at hw ⊢
 split
 ·exact bK
 rename_i hm;rw[if_neg hm]at hw;have hm:cx o=0:=Classical.byContradiction fun k=>hm k
 split
 ·rename_i h1;rw[if_pos h1]at hw;unfold nJ at hw ⊢
  split
  ·exact bK
  rename_i k1;rw[if_neg k1]at hw
  split
  ·exact bK
  rename_i k2;rw[if_neg k2]at hw;exact Rg h.d (by simpa[bj] using k1) hw hg
 rename_i h1;rw[if_neg h1]at hw
 split
 ·unfold uI
  cases hv:bj s.1 (aZ o) with
  |none=>exact bK
  |some v =>
   simp only
   split
   ·exact bK
   ·rename_i hr;have hl:Lone s.1 v:=⟨h.d,dX hv,by simpa using hr⟩;have:=(GH hl).1 hg;rw[iC hv]at this;exact this
 rename_i h2;rw[if_neg h2]at hw
 split
 ·unfold nI
  split;· exact bK
  split;· exact bK
  split;· exact bK
  split;· exact bK
  split;· exact bK
  rename_i k;exact Classical.byContradiction fun q=>k q
 rename_i h3;rw[if_neg h3]at hw
 split
 ·unfold De
  split;· exact bK
  rename_i k1;exact Vy (x:=aZ o) ⟨h.d,o9 k1⟩ hg
 rename_i h4;rw[if_neg h4]at hw
 split
 ·rename_i hk;rw[if_pos hk]at hw;unfold kl at hw ⊢
  split;· exact bK
  rename_i k1;rw[if_neg k1]at hw
  split;· exact bK
  rename_i k2;rw[if_neg k2]at hw
  split;· exact bK
  rename_i k3;rw[if_neg k3]at hw
  split;· exact bK
  rename_i k4;rw[if_neg k4]at hw
  split;· exact bK
  rename_i k5;rw[if_neg k5]at hw;obtain⟨m1,m2,m3,m4⟩:=yP hm hk;obtain⟨s1,s2⟩:=Dx m3 m4;obtain⟨uS,uT,vV,fr⟩:=VB (d:=s.1) (m:=Ky o) (k:=Gc o) (v:=fb o) h.d s1 s2 (o9 k1) (by simpa[bj] using k2) (by simpa[gN,Gc] using k3) hw;exact fr.flat.1 hg
 rename_i h5;rw[if_neg h5]at hw
 split
 ·rename_i h6;rw[if_pos h6]at hw;unfold jM at hw ⊢
  split
  ·exact bK
  ·rename_i v hv;rw[hv]at hw;have Wz:=dX hv;have hvi:=iC hv;simp only at hw
   split
   ·rename_i r0 r1 hr;rw[hr]at hw;simp only at hw;have key:∀a b:ab,(v.2.1=[a,b]∨v.2.1=[b,a])→a.1≠b.1→Wf (IE s o a b)→bP (IE s o a b)=0:=fun a b hp z8 Sh=>by unfold IE at Sh ⊢;rw[←hvi]at Sh ⊢;obtain⟨uS,uT,fr⟩:=Rj h.d Wz hp z8 Sh;exact fr.flat.2 hg
    unfold iM at hw ⊢
    split;· exact bK
    rename_i bw;rw[if_neg bw]at hw
    split
    ·rename_i c;rw[if_pos c]at hw;exact key r1 r0 (.inr hr) (fun k=>bw k.symm) hw
    rename_i c;rw[if_neg c]at hw
    split
    ·rename_i c2;rw[if_pos c2]at hw;exact key r0 r1 (.inl hr) bw hw
    ·exact bK
   ·exact bK
 rename_i h6;rw[if_neg h6]at hw;unfold vz at hw ⊢
 split
 ·rename_i c;rw[if_pos c]at hw;exact M6 (Rh o) h.d hw hg
 ·exact bK
theorem OP:∀(l:List bg) {s:StateT},dF s→bP s.1=0→bP (Df l s).1.1=0
 |[],s,h,hg=>hg
 |o::r,s,h,hg=>by
  unfold Df
  split
  ·exact bK
  ·exact OP r (h.one o) (VC h hg o)
theorem M7{s:StateT}(h:dF s)(hg:bP s.1=0)(l:List bg):bP (cv s l).1.1=0:=by
 unfold cv
 split
 ·exact bK
 ·exact OP l h hg
theorem VD{s:StateT}(h:dF s)(hg:bP s.1=0)(l:List bg):bP (iB s l).1=0:=by
 unfold iB
 split
 ·exact hg
 ·exact M7 h hg l
end Go.Vs
