/- Whatever is done -/
import Derived.Test.YtoleelddkocpkaaGreatEuler
set_option linter.unusedVariables false
set_option linter.unusedSimpArgs false
namespace Go.Vs
open Go.Proofs Go.Cy
variable {G:(f:FuncId)→(g:aN)→Option (g.A→Option g.B)}
structure Lone(d:ak)(v:ai):Prop where
 w:Wf d
 m:v∈d.1
 r:v.2.1=[]
theorem Lone.split{d:ak}{v:ai}(h:Lone d v):∃a b,d.1=a++v::b∧(aM d v.1 zI)=(a++b,d.2)∧an (a++b) ⊆ an d.1∧(an d.1).Perm (an (a++b)):=by
 obtain⟨a,b,h1,_,h2,_⟩:=nC h.w.sv h.m;have p:(an d.1).Perm (an (a++b)):=by have:=jH a b v;rw[←h1,h.r,List.nil_append]at this;exact this
 exact⟨a,b,h1,by unfold aM;rw[h2,q7 h.w.ge],fun x hx=>p.mem_iff.2 hx,p⟩
theorem Lone.wf{d:ak}{v:ai}(h:Lone d v):Wf (aM d v.1 zI):=h.w.VM h.m h.r
theorem Lone.mem{d:ak}{v:ai}(h:Lone d v){u:ai}:u∈(aM d v.1 zI).1↔u∈d.1∧u.1≠v.1:=by show u∈cU d.1 v.1↔_;unfold cU;rw[List.mem_filter];simp
theorem Lone.WJ{d:ak}{v:ai}(h:Lone d v):(an (aM d v.1 zI).1).Perm (an d.1):=by obtain⟨a,b,_,h2,_,h3⟩:=h.split;rw[h2];exact h3.symm
theorem Lone.WK{d:ak}{v:ai}(h:Lone d v){u:ai}{z:ab}(hu:u∈d.1)(hz:z∈u.2.1):u∈(aM d v.1 zI).1:=by refine h.mem.2 ⟨hu,fun k=>?_⟩;rw[Lx h.w.sv h.m hu k,h.r]at hz;simp at hz
theorem Lone.at{d:ak}{v:ai}(h:Lone d v){z:ab}(hz:z∈an d.1):cd (aM d v.1 zI) z=cd d z:=by obtain⟨u,hu,IX⟩:=aU.1 hz;show EY (aM d v.1 zI).1 z=EY d.1 z;rw[eZ h.w.rw hu IX,eZ h.wf.rw (h.WK hu IX) IX]
theorem Lone.YL{d:ak}{v:ai}(h:Lone d v){a b:ID}:A5 (aM d v.1 zI) a b↔A5 d a b:=by
 constructor
 ·rintro⟨z,hz,h1,h2⟩;have hz:=h.WJ.mem_iff.1 hz;exact⟨z,hz,by rw[←h.at hz];exact h1,by rw[←h.at (h.w.other hz)];exact h2⟩
 ·rintro⟨z,hz,h1,h2⟩;exact⟨z,h.WJ.mem_iff.2 hz,by rw[h.at hz];exact h1,by rw[h.at (h.w.other hz)];exact h2⟩
theorem Lone.conn{d:ak}{v:ai}(h:Lone d v){a b:ID}:cq (aM d v.1 zI) a b↔cq d a b:=by
 constructor
 ·intro k
  induction k with
  |refl=>exact .refl _
  |tail _ j ih=>exact ih.tail (h.YL.1 j)
 ·intro k
  induction k with
  |refl=>exact .refl _
  |tail _ j ih=>exact ih.tail (h.YL.2 j)
theorem Lone.alone{d:ak}{v:ai}(h:Lone d v){b:ID}(k:cq d v.1 b):b=v.1:=by
 have key:∀{a b:ID},cq d a b→a=v.1→b=v.1:=fun {a b} k ha=>by
  induction k with
  |refl=>exact ha
  |tail _ j ih =>obtain⟨z,hz,h1,_⟩:=j;obtain⟨u,hu,IX,Bi⟩:=tg h.w hz;rw[Bi,ih]at h1;have:=ac7 h1;rw[Lx h.w.sv h.m hu this,h.r]at IX;simp at IX
 exact key k rfl
theorem Lone.Fv{d:ak}{v:ai}(h:Lone d v){R:List ID}(hr:oM d R):∃R2,oM (aM d v.1 zI) R2∧R2.length+1=R.length:=by
 obtain⟨r,xT,hvr⟩:=hr.c v h.m;have hv:v.1∈R:=by rw[←h.alone hvr];exact xT
 refine⟨R.erase v.1,⟨hr.n.erase _,fun s hs=>?_,fun s hs t ht k=>hr.i s (adH hs) t (adH ht) (h.conn.1 k),fun u hu=>?_⟩,?_⟩
 ·obtain⟨u,hu,he⟩:=hr.v s (adH hs);refine⟨u,h.mem.2 ⟨hu,fun k=>?_⟩,he⟩;have:s=v.1:=he.symm.trans k;subst this;exact absurd hs (List.Nodup.not_mem_erase hr.n)
 ·obtain⟨hu1,hu2⟩:=h.mem.1 hu;obtain⟨s,hs,Mg⟩:=hr.c u hu1;refine⟨s,(adI fun k=>?_).2 hs,h.conn.2 Mg⟩;subst k;exact hu2 (h.alone (Mg.symm h.w))
 ·rw[List.length_erase_of_mem hv];have:=List.length_pos_of_mem hv;omega
theorem Lone.ph{d:ak}{v:ai}(h:Lone d v){z:ab}(hz:z∈an d.1):ph (aM d v.1 zI) z=ph d z:=by rw[jI hz,jI (h.WJ.mem_iff.2 hz)];obtain⟨u,hu,IX⟩:=aU.1 (h.w.other hz);rw[j8 h.w.rw hu IX,j8 h.wf.rw (h.WK hu IX) IX]
theorem Lone.bV{d:ak}{v:ai}(h:Lone d v):(Vs.bV (aM d v.1 zI)).length=(Vs.bV d).length:=by have a:=bQ h.wf;have b:=bQ h.w;refine Hh.count h.w.rw.n ⟨fun c hc=>?_,a.p.trans h.WJ⟩ b;refine(a.c c hc).congr fun z hz=>?_;have:z∈an (aM d v.1 zI).1:=a.p.mem_iff.1 (adj.2 ⟨c,hc,hz⟩);exact(h.ph (h.WJ.mem_iff.1 this)).symm
theorem EM{d:ak}(hw:Wf d){R:List ID}(hr:oM d R):fw d=(R.length:Int):=by rw[uI hw,(lP hw (fa hw)).len hw hr]
structure yl(d:ak)(v:ai)(y:ab):Prop where
 w:Wf d
 m:v∈d.1
 r:v.2.1=[y]
theorem yl.mem{d:ak}{v:ai}{y:ab}(h:yl d v y):y∈an d.1:=aU.2 ⟨v,h.m,by rw[h.r];simp⟩
theorem yl.cut{d:ak}{v:ai}{y:ab}(h:yl d v y):bW d y.1:=by obtain⟨e,he,h1,_⟩:=dZ.1 (h.w.pd.mem_iff.1 h.mem);exact⟨h.w,by unfold aZ;rw[List.find?_isSome];exact⟨e,he,by simpa using h1⟩⟩
theorem yl.lone{d:ak}{v:ai}{y:ab}(h:yl d v y):∃u,Lone (da d y.1) u∧u.1=v.1:=by
 obtain⟨u,hu,bL⟩:=h.cut.Ev.2 ⟨v,h.m,rfl⟩;refine⟨u,⟨h.cut.w,hu,?_⟩,bL⟩
 cases hq:u.2.1 with
 |nil=>rfl
 |cons z r =>
  exfalso;have hz:z∈u.2.1:=by rw[hq];simp
  have hzd:z∈an (da d y.1).1:=aU.2 ⟨u,hu,hz⟩;have h1:cd (da d y.1) z=some u.1:=eZ h.cut.w.rw hu hz;rw[h.cut.at hzd,bL]at h1;obtain⟨w,hw,Mn,Bi⟩:=tg h.w (h.cut.sub hzd);rw[Bi]at h1;have hwv:=Lx h.w.sv h.m hw (ac7 h1);rw[hwv,h.r]at Mn;have PM:z=y:=by simpa using Mn
  have nd:=h.cut.p.nodup_iff.1 h.w.rw.n;have e:y=(y.1,y.2):=rfl;rcases h.w.side h.mem with k|k
  ·rw[k]at e;exact(abP.1 nd).1 (abt _ (e▸PM▸hzd))
  ·rw[k]at e;exact(abP.1 (abP.1 nd).2).1 (e▸PM▸hzd)
theorem yl.back{d:ak}{v:ai}{y:ab}(h:yl d v y):ph d (aj y)=y:=by
 rw[jI (h.w.other h.mem),bX (h.w.side h.mem)];have hy:y∈v.2.1:=by rw[h.r];simp
 rw[j8 h.w.rw h.m hy];exact(Hm (h.w.rw.ring h.m) hy).2 (by rw[h.r];rfl)
theorem yl.one{d:ak}{v:ai}{y:ab}(h:yl d v y):NB d (y.1,0) (y.1,1):=by
 have hm:aj y∈(bV d).flatten:=(bQ h.w).p.mem_iff.2 (h.w.other h.mem);obtain⟨c,hc,h1⟩:=adj.1 hm;have h2:=((bQ h.w).c c hc).step h1;rw[h.back]at h2;have e:y=(y.1,y.2):=rfl;have eo:aj y=(y.1,(aj y).2):=rfl;obtain⟨_,k⟩:=hP (h.w.side h.mem);rcases k with⟨k1,k2⟩|⟨k1,k2⟩
 ·rw[k1]at e;rw[k2]at eo;exact⟨c,hc,e▸h2,eo▸h1⟩
 ·rw[k1]at e;rw[k2]at eo;exact⟨c,hc,eo▸h1,e▸h2⟩
theorem yl.bV{d:ak}{v:ai}{y:ab}(h:yl d v y):(Vs.bV (da d y.1)).length≤(Vs.bV d).length:=by
 have h1:=(h.cut.same h.one).2;have hb:=h.back;have e:y=(y.1,y.2):=rfl;have eo:aj y=(y.1,(aj y).2):=rfl;obtain⟨_,k⟩:=hP (h.w.side h.mem);rcases k with⟨k1,k2⟩|⟨k1,k2⟩
 ·rw[k1]at e;rw[k2]at eo;have:ph d (y.1,1)=(y.1,0):=by rw[←eo,hb];exact e
  rw[if_pos this]at h1
  split at h1<;>omega
 ·rw[k1]at e;rw[k2]at eo;have:ph d (y.1,0)=(y.1,1):=by rw[←eo,hb];exact e
  rw[if_pos this]at h1
  split at h1<;>omega
theorem yl.parts{d:ak}{v:ai}{y:ab}(h:yl d v y){u:ai}(hu:Lone (da d y.1) u)(bL:u.1=v.1):fw (aM (da d y.1) v.1 zI)=fw d:=by
 obtain⟨a,b,ha,hb,_,_⟩:=h.cut.IZ;have hr:=lP h.w (fa h.w);have XG:cd d y=some v.1:=eZ h.w.rw h.m (by rw[h.r];simp);have XC:cd d (aj y)≠some v.1:=fun k=>by
  obtain⟨w,hw,Mn,Bi⟩:=tg h.w (h.w.other h.mem);rw[Bi]at k;rw[Lx h.w.sv h.m hw (Option.some.inj k),h.r]at Mn;have Mn:aj y=y:=by simpa using Mn
  obtain⟨_,m⟩:=hP (h.w.side h.mem);rw[Mn]at m;omega
 have bz:a≠b∧(a=v.1∨b=v.1):=by
  have e:y=(y.1,y.2):=rfl;have eo:aj y=(y.1,(aj y).2):=rfl;obtain⟨_,k⟩:=hP (h.w.side h.mem);rcases k with⟨k1,k2⟩|⟨k1,k2⟩
  ·rw[k1]at e;rw[k2]at eo;rw[e,ha]at XG;rw[eo,hb]at XC;have:=ac7 XG;exact⟨fun k=>XC (by rw[←k,this]),.inl this⟩
  ·rw[k1]at e;rw[k2]at eo;rw[e,hb]at XG;rw[eo,ha]at XC;have:=ac7 XG;exact⟨fun k=>XC (by rw[k,this]),.inr this⟩
 have Al:¬cq (da d y.1) a b:=fun k=>by
  rcases bz.2 with m|m
  ·rw[m,←bL]at k;exact bz.1 (m.trans (bL▸hu.alone k).symm)
  ·rw[m,←bL]at k;exact bz.1 ((bL▸hu.alone (k.symm h.cut.w):a=v.1).trans m.symm)
 obtain⟨R2,h2,h3⟩:=h.cut.V8 ha hb Al hr;obtain⟨R3,h4,h5⟩:=hu.Fv h2;rw[bL]at h4;have hwf:=hu.wf;rw[bL]at hwf;rw[EM hwf h4,EM h.w hr];omega
end Go.Vs
namespace Go.Vs
open Go.Proofs Go.Cy
theorem uL{d:ak}(hw:Wf d):∃R,oM d R:=⟨_,lP hw (fa hw)⟩
theorem iU{d:ak}(hw:Wf d){R:List ID}(hr:oM d R):bP d=0↔d.1.length+ft d=2*R.length+d.2.length:=by
 obtain⟨k,h1,h2⟩:=Ex hw hr;rw[h1];constructor
 ·intro h;omega
 ·intro h;omega
theorem rm{d:ak}(hw:Wf d):(an d.1).length=2*d.2.length:=by have:=hw.pd.length_eq;rw[A4]at this;omega
theorem WL{d':ak}{x:ID}(h:bW d' x)(hg:bP d'=0):bP (da d' x)=0:=by
 obtain⟨u,w,hu,hw,_,_⟩:=h.IZ;obtain⟨R,hr⟩:=uL h.wf;have k:=(iU h.wf hr).1 hg;have hv:(da d' x).1.length=d'.1.length:=by have:=congrArg List.length h.ids;simpa using this
 have he:(da d' x).2.length+1=d'.2.length:=by have h1:=rm h.wf;have h2:=rm h.w;have h3:=h.p.length_eq;simp at h3;omega
 by_cases hc:cq (da d' x) u w
 ·have QU:=h.Fv hu hw hc hr;by_cases ho:NB d' (x,0) (x,1)
  ·have h1:=(h.same ho).1;obtain⟨j,_,h2⟩:=Ex h.w QU;omega
  ·have h1:=h.diff ho;rw[iU h.w QU];omega
 ·obtain⟨R2,QU,hl⟩:=h.V8 hu hw hc hr;have ho:NB d' (x,0) (x,1):=Classical.byContradiction fun ho=>hc (h.Ho hu hw ho);have h1:=(h.same ho).1;rw[iU h.w QU];omega
theorem Jb(a b:List ai):al (a++b)=al a+al b:=List.countP_append
theorem Hw{d:ak}{v:ai}(h:Lone d v):bP d=0↔bP (aM d v.1 zI)=0:=by
 obtain⟨R,hr⟩:=uL h.w;obtain⟨R2,QU,hl⟩:=h.Fv hr;rw[iU h.w hr,iU h.wf QU];obtain⟨a,b,k1,k2,_,_⟩:=h.split;have hf:=h.bV;have e1:d.1.length=(aM d v.1 zI).1.length+1:=by rw[k1,k2];simp;omega
 have e2:(aM d v.1 zI).2.length=d.2.length:=by rw[k2]
 have e3:al d.1=al (aM d v.1 zI).1+1:=by
  rw[k1,k2];show al (a++v::b)=al (a++b)+1;rw[Jb,Jb];have:al (v::b)=al b+1:=by unfold al;rw[List.countP_cons,h.r];rfl
  omega
 have f1:ft d=(bV d).length+al d.1:=rfl;have f2:ft (aM d v.1 zI)=(bV (aM d v.1 zI)).length+al (aM d v.1 zI).1:=rfl;omega
theorem Si{d:ak}(hw:Wf d){x:ID}(hx:aR d.1 x=none)(Ni:Wf (cW (x,([],(e0,0))) d.1,d.2))(hg:bP d=0):bP (cW (x,([],(e0,0))) d.1,d.2)=0:=by
 have hl:Lone (cW (x,([],(e0,0))) d.1,d.2) (x,([],(e0,0))):=⟨Ni,jZ.2 (.inl rfl),rfl⟩;rw[Hw hl];have e:aM (cW (x,([],(e0,0))) d.1,d.2) x zI=d:=by have h1:=D7 (x,([],(e0,0))) (l:=d.1) hx;have h2:=q7 hw.ge;unfold aM;show(cU (cW (x,([],(e0,0))) d.1) x,c9 d.2 zI)=d;rw[h2];exact congrArg (fun l:List ai=>((l,d.2):ak)) h1
 show bP (aM (cW (x,([],(e0,0))) d.1,d.2) x zI)=0;rw[e];exact hg
structure jJ(f:ai→ai)(g:ag→ag):Prop where
 i:∀v,(f v).1=v.1
 r:∀v,(f v).2.1=v.2.1
 e:∀a,(g a).1=a.1
variable {f:ai→ai} {g:ag→ag}
theorem jJ.an(k:jJ f g)(l:List ai):Vs.an (l.map f)=Vs.an l:=by unfold Vs.an;rw[List.flatMap_map];congr 1;funext v;exact k.r v
theorem jJ.at(k:jJ f g)(l:List ai)(x:ab):EY (l.map f) x=EY l x:=by
 unfold EY;rw[List.find?_map];have:((fun v:ai=>decide (x∈v.2.1)) ∘ f)=fun v:ai=>decide (x∈v.2.1):=by funext v;show decide (x∈(f v).2.1)=_;rw[k.r]
 rw[this,Option.map_map];congr 1;funext v;exact k.i v
theorem jJ.find(k:jJ f g)(l:List ai)(x:ID):aR (l.map f) x=(aR l x).map f:=by
 unfold aR;rw[List.find?_map];have:((fun v:ai=>decide (v.1=x)) ∘ f)=fun v:ai=>decide (v.1=x):=by funext v;show decide ((f v).1=x)=_;rw[k.i]
 rw[this]
theorem jJ.al(k:jJ f g)(l:List ai):Vs.al (l.map f)=Vs.al l:=by unfold Vs.al;rw[List.countP_map];congr 1;funext v;show(f v).2.1.isEmpty=_;rw[k.r]
theorem jJ.kj(k:jJ f g)(d:ak)(x:ab):Vs.kj (d.1.map f,d.2.map g) x=Vs.kj d x:=by
 unfold Vs.kj;have h1:cd (d.1.map f,d.2.map g) x=cd d x:=k.at d.1 x;rw[h1]
 cases cd d x with
 |none=>rfl
 |some a =>
  have h2:bH (d.1.map f,d.2.map g) a=bH d a:=by
   unfold bH bp;show((aR (d.1.map f) a).getD zV).2.1=_;rw[k.find]
   cases aR d.1 a with
   |none=>rfl
   |some v=>exact k.r v
  show dB (bH (d.1.map f,d.2.map g) a) x 1=_;rw[h2]
theorem jJ.ph(k:jJ f g)(d:ak)(x:ab):Vs.ph (d.1.map f,d.2.map g) x=Vs.ph d x:=by unfold Vs.ph Jn;have h1:cd (d.1.map f,d.2.map g) x=cd d x:=k.at d.1 x;rw[h1,k.kj]
theorem jJ.YL(k:jJ f g)(d:ak){a b:ID}:A5 (d.1.map f,d.2.map g) a b↔A5 d a b:=by
 unfold A5;have h:∀z,cd (d.1.map f,d.2.map g) z=cd d z:=fun z=>k.at d.1 z;have hd:Vs.an (d.1.map f)=Vs.an d.1:=k.an d.1;constructor
 ·rintro⟨z,h1,h2,h3⟩;exact⟨z,hd▸h1,(h z).symm.trans h2,(h _).symm.trans h3⟩
 ·rintro⟨z,h1,h2,h3⟩;exact⟨z,hd.symm▸h1,(h z).trans h2,(h _).trans h3⟩
theorem jJ.conn(k:jJ f g)(d:ak){a b:ID}:cq (d.1.map f,d.2.map g) a b↔cq d a b:=by
 constructor
 ·intro h
  induction h with
  |refl=>exact .refl _
  |tail _ j ih=>exact ih.tail ((k.YL d).1 j)
 ·intro h
  induction h with
  |refl=>exact .refl _
  |tail _ j ih=>exact ih.tail ((k.YL d).2 j)
theorem jJ.Fv(k:jJ f g){d:ak}{R:List ID}(h:oM d R):oM (d.1.map f,d.2.map g) R:=by
 refine⟨h.n,fun r hr=>?_,fun r hr s hs hc=>h.i r hr s hs ((k.conn d).1 hc),fun v hv=>?_⟩
 ·obtain⟨v,hv,he⟩:=h.v r hr;exact⟨f v,ace.2 ⟨v,hv,rfl⟩,(k.i v).trans he⟩
 ·obtain⟨u,hu,rfl⟩:=ace.1 hv;obtain⟨r,hr,hc⟩:=h.c u hu;exact⟨r,hr,by rw[k.i];exact(k.conn d).2 hc⟩
theorem N1(k:jJ f g){d:ak}(hw:Wf d)(Ni:Wf (d.1.map f,d.2.map g))(hg:bP d=0):bP (d.1.map f,d.2.map g)=0:=by obtain⟨R,hr⟩:=uL hw;have h:=(iU hw hr).1 hg;rw[iU Ni (k.Fv hr)];have hd:Vs.an (d.1.map f)=Vs.an d.1:=k.an d.1;have a:=bQ hw;have b:=bQ Ni;have hc:(bV (d.1.map f,d.2.map g)).length=(bV d).length :=Hh.count (D:=Vs.an (d.1.map f)) Ni.rw.n b ⟨fun c hc=>(a.c c hc).congr fun z hz=>k.ph d z,a.p.trans (List.Perm.of_eq hd.symm)⟩;have f1:ft d=(bV d).length+Vs.al d.1:=rfl;have f2:ft (d.1.map f,d.2.map g)=(bV (d.1.map f,d.2.map g)).length+Vs.al (d.1.map f):=rfl;have hal:Vs.al (d.1.map f)=Vs.al d.1:=k.al d.1;show(d.1.map f).length+_=_+(d.2.map g).length;rw[List.length_map,List.length_map];omega
theorem Sj(o:bq):jJ (iO o) (jY o):=by
 refine⟨fun v=>?_,fun v=>?_,fun a=>?_⟩
 ·unfold iO;split
  ·split<;>rfl
  ·rfl
 ·unfold iO;split
  ·split<;>rfl
  ·rfl
 ·unfold jY;split
  ·split<;>rfl
  ·rfl
end Go.Vs
namespace Go.Vs
open Go.Proofs Go.Cy
def hd(l:List ab):ab:=l.head?.getD zD
theorem Hy{f g:ab→ab}{φ:ab→List ab}(hn:∀z,φ z≠[]):∀{c:List ab} {y:ab},(∀z∈c,Path g (φ z) (hd (φ (f z))))→Path f c y→Path g (c.flatMap φ) (hd (φ y))
 |[],y,_,_=>trivial
 |a::r,y,hp,h=>by
  obtain⟨h1,h2⟩:f a=r.head?.getD y∧Path f r y:=h;have ih:=Hy hn (fun z hz=>hp z (abt _ hz)) h2;rw[List.flatMap_cons];refine Path.app.2 ⟨?_,ih⟩;have:=hp a abV;rw[h1]at this
  cases r with
  |nil=>exact this
  |cons b r =>
   have e:((b::r).flatMap φ).head?.getD (hd (φ y))=hd (φ b):=by
    rw[List.flatMap_cons]
    cases hb:φ b with
    |nil=>exact absurd hb (hn b)
    |cons q s=>rfl
   rw[e];exact this
theorem WM{f g:ab→ab}{φ:ab→List ab}(hn:∀z,φ z≠[]){c:List ab}(hp:∀z∈c,Path g (φ z) (hd (φ (f z))))(h:j7 f c):j7 g (c.flatMap φ):=by
 cases c with
 |nil=>exact h.elim
 |cons x r =>
  have h':Path f (x::r) x:=h;have:=Hy hn hp h';rw[List.flatMap_cons]at this ⊢
  cases hx:φ x with
  |nil=>exact absurd hx (hn x)
  |cons q s =>rw[hx]at this;exact this
structure Sub(s t:ak)(v:ID)(m k:ab)(u w:ID):Prop where
 ws:Wf s
 wt:Wf t
 mm:m∈an s.1
 kn:k∉an s.1
 ok:aj k∉an s.1
 kk:k≠aj k
 k2:k.2=0∨k.2=1
 p:(an t.1).Perm (k::aj k::an s.1)
 pm:∀z∈an s.1,z≠aj m→ph t z=if ph s z=m then aj k else ph s z
 po:ph t (aj m)=k
 pk:ph t k=if ph s (aj m)=m then aj k else ph s (aj m)
 pq:ph t (aj k)=m
 am:cd s m=some u
 ao:cd s (aj m)=some w
 at_:∀z∈an s.1,z≠m→cd t z=cd s z
 tm:cd t m=some v
 tk:cd t k=some v
 tq:cd t (aj k)=some u
 vs:∀r,(∃x∈t.1,x.1=r)↔r=v∨∃x∈s.1,x.1=r
 nv:∀x∈s.1,x.1≠v
 len:t.1.length=s.1.length+1
 al:al t.1=al s.1
variable {s t:ak} {v:ID} {m k:ab} {u w:ID}
def qc(m k:ab)(z:ab):List ab:=if z=m then[aj k,m] else if z=aj m then[aj m,k] else[z]
theorem Zk(m k z:ab):qc m k z≠[]:=by
 unfold qc;by_cases e:z=m
 ·rw[if_pos e];simp
 ·rw[if_neg e];by_cases e2:z=aj m
  ·rw[if_pos e2];simp
  ·rw[if_neg e2];simp
theorem Sub.om(h:Sub s t v m k u w):aj m∈an s.1:=h.ws.other h.mm
theorem qd{m:ab}(h:m.2=0∨m.2=1):aj m≠m:=fun e=>by obtain⟨_,k⟩:=hP h;rw[e]at k;rcases k with⟨a,b⟩|⟨a,b⟩<;>omega
theorem acS(h:Sub s t v m k u w)(y:ab):hd (qc m k y)=if y=m then aj k else y:=by
 unfold qc;by_cases e:y=m
 ·rw[if_pos e,if_pos e];rfl
 ·rw[if_neg e,if_neg e];by_cases e2:y=aj m
  ·rw[if_pos e2,e2];rfl
  ·rw[if_neg e2];rfl
theorem Sub.bV(h:Sub s t v m k u w):(Vs.bV t).length=(Vs.bV s).length:=by
 have a:=bQ h.ws;have b:=bQ h.wt;have Zl:=qd (h.ws.side h.mm);have cyc:∀c∈Vs.bV s,j7 (ph t) (c.flatMap (qc m k)):=fun c hc=>by
  refine WM (Zk m k) (fun z hz=>?_) (a.c c hc);have hz:z∈an s.1:=a.p.mem_iff.1 (adj.2 ⟨c,hc,hz⟩);rw[acS h];unfold qc;by_cases e:z=m
  ·rw[if_pos e,e];exact⟨h.pq,h.pm m h.mm (fun q=>Zl q.symm),trivial⟩
  ·rw[if_neg e];by_cases e2:z=aj m
   ·rw[if_pos e2,e2];exact⟨h.po,h.pk,trivial⟩
   ·rw[if_neg e2];exact⟨h.pm z hz e2,trivial⟩
 have perm:((Vs.bV s).map (·.flatMap (qc m k))).flatten.Perm (an t.1):=by
  have e:((Vs.bV s).map (·.flatMap (qc m k))).flatten=(Vs.bV s).flatten.flatMap (qc m k):=by
   have:∀L:List (List ab),(L.map (·.flatMap (qc m k))).flatten=L.flatten.flatMap (qc m k):=by
    intro L
    induction L with
    |nil=>rfl
    |cons a L ih=>rw[List.map_cons,List.flatten_cons,List.flatten_cons,List.flatMap_append,ih]
   exact this _
  rw[e];refine(a.p.flatMap_right (qc m k)).trans ((?_:((an s.1).flatMap (qc m k)).Perm _).trans h.p.symm);have nd:=h.ws.rw.n;obtain⟨r1,hr1⟩:∃r1,(an s.1).Perm (m::r1):=⟨_,List.perm_cons_erase h.mm⟩;have hm1:aj m∈r1:=(abz.1 (hr1.mem_iff.1 h.om)).resolve_left Zl;obtain⟨r2,QU⟩:∃r2,r1.Perm (aj m::r2):=⟨_,List.perm_cons_erase hm1⟩;have hp:(an s.1).Perm (m::aj m::r2):=hr1.trans (List.Perm.cons _ QU);have nd2:=hp.nodup_iff.1 nd;have bL:r2.flatMap (qc m k)=r2:=by
   have:∀l:List ab,(∀z∈l,z≠m∧z≠aj m)→l.flatMap (qc m k)=l:=by
    intro l
    induction l with
    |nil=>intro _;rfl
    |cons z l ih =>intro hl;obtain⟨h1,h2⟩:=hl z abV;rw[List.flatMap_cons,ih fun y hy=>hl y (List.mem_cons_of_mem _ hy)];unfold qc;rw[if_neg h1,if_neg h2];rfl
   refine this r2 fun z hz=>⟨fun e=>?_,fun e=>?_⟩
   ·subst e;exact(abP.1 nd2).1 (abt _ hz)
   ·subst e;exact(abP.1 (abP.1 nd2).2).1 hz
  refine(hp.flatMap_right (qc m k)).trans ?_;rw[List.flatMap_cons,List.flatMap_cons,bL];have e1:qc m k m=[aj k,m]:=if_pos rfl;have e2:qc m k (aj m)=[aj m,k]:=by unfold qc;rw[if_neg Zl,if_pos rfl]
  rw[e1,e2];refine List.Perm.trans ?_ (List.Perm.cons k (List.Perm.cons (aj k) hp.symm));show(aj k::m::aj m::k::r2).Perm (k::aj k::m::aj m::r2);exact(List.perm_middle (l₁:=[aj k,m,aj m]) (l₂:=r2) (a:=k))
 have:=Hh.count h.wt.rw.n b ⟨fun c hc=>by obtain⟨c0,h1,rfl⟩:=ace.1 hc;exact cyc c0 h1,perm⟩;rw[List.length_map]at this;exact this
theorem Sub.PN(h:Sub s t v m k u w){a b:ID}(c:cq s a b):cq t a b:=by
 have dt:∀z∈an s.1,z∈an t.1:=fun z hz=>h.p.mem_iff.2 (abt _ (abt _ hz));have Zl:=qd (h.ws.side h.mm);have hqt:aj k∈an t.1:=h.p.mem_iff.2 (by simp);have uv:A5 t u v:=⟨aj k,hqt,h.tq,by rw[bX h.k2];exact h.tk⟩;have vw:A5 t v w:=⟨m,dt m h.mm,h.tm,by rw[h.at_ _ h.om Zl];exact h.ao⟩;have uw:cq t u w:=uv.conn.trans vw.conn
 induction c with
 |refl=>exact .refl _
 |tail _ j ih =>
  refine ih.trans ?_;obtain⟨z,hz,h1,h2⟩:=j;by_cases e:z=m
  ·subst e;rw[h.am]at h1;rw[h.ao]at h2
   cases h1;cases h2
   exact uw
  ·by_cases e2:z=aj m
   ·subst e2;rw[h.ao]at h1;rw[bX (h.ws.side h.mm),h.am]at h2
    cases h1;cases h2
    exact uw.symm h.wt
   ·have e3:aj z≠m:=fun q=>e2 (by rw[←q,bX (h.ws.side hz)]);exact A5.conn ⟨z,dt z hz,by rw[h.at_ z hz e];exact h1,by rw[h.at_ _ (h.ws.other hz) e3];exact h2⟩
theorem Sub.Zm(h:Sub s t v m k u w){a b:ID}(c:cq t a b):cq s (if a=v then u else a) (if b=v then u else b):=by
 have Zl:=qd (h.ws.side h.mm);have uw:cq s u w:=A5.conn ⟨m,h.mm,h.am,h.ao⟩;have vof:∀{z x},z∈an s.1→cd s z=some x→x≠v:=fun {z x} hz hx=>by obtain⟨y,hy,_,h2⟩:=tg h.ws hz;rw[h2]at hx;cases hx;exact h.nv y hy
 have hu:=vof h.mm h.am;have hw:=vof h.om h.ao
 induction c with
 |refl=>exact .refl _
 |tail _ j ih =>
  refine ih.trans ?_;obtain⟨z,hz,h1,h2⟩:=j;have Ck:=h.p.mem_iff.1 hz;rcases abz.1 Ck with rfl|Ck
  ·rw[h.tk]at h1;rw[h.tq]at h2
   cases h1;cases h2
   rw[if_pos rfl,if_neg hu];exact .refl _
  ·rcases abz.1 Ck with rfl|Ck
   ·rw[h.tq]at h1;rw[bX h.k2,h.tk]at h2
    cases h1;cases h2
    rw[if_neg hu,if_pos rfl];exact .refl _
   ·by_cases e:z=m
    ·subst e;rw[h.tm]at h1;rw[h.at_ _ h.om Zl,h.ao]at h2
     cases h1;cases h2
     rw[if_pos rfl,if_neg hw];exact uw
    ·by_cases e2:z=aj m
     ·subst e2;rw[h.at_ _ h.om Zl,h.ao]at h1;rw[bX (h.ws.side h.mm),h.tm]at h2
      cases h1;cases h2
      rw[if_neg hw,if_pos rfl];exact uw.symm h.ws
     ·have e3:aj z≠m:=fun q=>e2 (by rw[←q,bX (h.ws.side Ck)]);rw[h.at_ z Ck e]at h1;rw[h.at_ _ (h.ws.other Ck) e3]at h2;rw[if_neg (vof Ck h1),if_neg (vof (h.ws.other Ck) h2)];exact A5.conn ⟨z,Ck,h1,h2⟩
theorem Sub.Fv(h:Sub s t v m k u w){R:List ID}(hr:oM s R):oM t R:=by
 refine⟨hr.n,fun r hrm=>(h.vs r).2 (.inr (hr.v r hrm)),fun r h1 q h2 c=>?_,fun x hx=>?_⟩
 ·obtain⟨x,hx,ZL⟩:=hr.v r h1;obtain⟨y,hy,hyq⟩:=hr.v q h2;have:=h.Zm c;rw[if_neg (by rw[←ZL];exact h.nv x hx),if_neg (by rw[←hyq];exact h.nv y hy)]at this;exact hr.i r h1 q h2 this
 ·rcases (h.vs x.1).1 ⟨x,hx,rfl⟩ with e|⟨y,hy,e⟩
  ·obtain⟨y,hy,_,hyu⟩:=tg h.ws h.mm;rw[h.am]at hyu;obtain⟨r,hrm,hc⟩:=hr.c y hy;refine⟨r,hrm,?_⟩;rw[e];have hqt:aj k∈an t.1:=h.p.mem_iff.2 (by simp);have uv:A5 t u v:=⟨aj k,hqt,h.tq,by rw[bX h.k2];exact h.tk⟩;have e2:u=y.1:=ac7 hyu;exact(uv.symm h.wt).conn.trans (e2▸h.PN hc)
  ·obtain⟨r,hrm,hc⟩:=hr.c y hy;exact⟨r,hrm,e▸h.PN hc⟩
theorem WN(h:Sub s t v m k u w):bP s=0↔bP t=0:=by obtain⟨R,hr⟩:=uL h.ws;rw[iU h.ws hr,iU h.wt (h.Fv hr)];have h1:=rm h.ws;have h2:=rm h.wt;have h3:=h.p.length_eq;have h4:=h.bV;have h5:=h.al;have h6:=h.len;have f1:ft s=(Vs.bV s).length+Vs.al s.1:=rfl;have f2:ft t=(Vs.bV t).length+Vs.al t.1:=rfl;simp at h3;omega
end Go.Vs
namespace Go.Vs
open Go.Proofs Go.Cy
structure Fr(s t:ak)(v:ID)(m k:ab)(uS uT vV:ai):Prop where
 ws:Wf s
 wt:Wf t
 mem:∀y,y∈t.1↔y=vV∨(y∈s.1∧y.1≠uS.1)∨y=uT
 us:uS∈s.1
 ui:uT.1=uS.1
 vi:vV.1=v
 vr:vV.2.1=[m,k]∨vV.2.1=[k,m]
 mm:m∈uS.2.1
 k2:k.2=0∨k.2=1
 kn:k∉an s.1
 ok:aj k∉an s.1
 nx:∀z∈uS.2.1,(if z=m then aj k else z)∈uT.2.1∧dn uT.2.1 (if z=m then aj k else z)=(if dn uS.2.1 z=m then aj k else dn uS.2.1 z)
 p:(an t.1).Perm (k::aj k::an s.1)
 nv:∀x∈s.1,x.1≠v
 len:t.1.length=s.1.length+1
 al:al t.1=al s.1
theorem z7{m k:ab}(h:m≠k):dn [m,k] m=k∧dn [m,k] k=m:=by
 have hn:[m,k].Nodup:=by simp[h]
 have a:=pZ hn (i:=0) (x:=m) rfl;have b:=pZ hn (i:=1) (x:=k) rfl;exact⟨a,by rw[b];simp⟩
variable {s t:ak} {v:ID} {m k:ab} {uS uT vV:ai}
theorem Fr.sub(h:Fr s t v m k uS uT vV):∃w,Sub s t v m k uS.1 w:=by
 have Jm:m∈an s.1:=aU.2 ⟨uS,h.us,h.mm⟩;have hod:aj m∈an s.1:=h.ws.other Jm;have Zl:=qd (h.ws.side Jm);have X9:m≠k:=fun e=>h.kn (e▸Jm);obtain⟨w,hw⟩:=acn.1 (Eo hod);have hvt:vV∈t.1:=(h.mem vV).2 (.inl rfl);have Zn:uT∈t.1:=(h.mem uT).2 (.inr (.inr rfl));have rs:=h.ws.rw;have rt:=h.wt.rw;have Xr:m∈vV.2.1:=by rcases h.vr with e|e<;>rw[e]<;>simp
 have hkv:k∈vV.2.1:=by rcases h.vr with e|e<;>rw[e]<;>simp
 have sm:sg t m=k∧sg t k=m:=by
  rw[j8 rt hvt Xr,j8 rt hvt hkv];rcases h.vr with e|e
  ·rw[e];exact z7 X9
  ·rw[e];exact⟨(z7 (Ne.symm X9)).2,(z7 (Ne.symm X9)).1⟩
 have hqu:aj k∈uT.2.1:=by have:=(h.nx m h.mm).1;rwa [if_pos rfl]at this
 have pl:∀z∈an s.1,(∃y,y∈s.1∧z∈y.2.1∧y∈t.1∧z≠m∧sg s z≠m)∨z∈uS.2.1:=fun z hz=>by
  obtain⟨y,hy,PM⟩:=aU.1 hz;by_cases e:y.1=uS.1
  ·have:=Lx h.ws.sv h.us hy e;subst this;exact .inr PM
  ·refine .inl ⟨y,hy,PM,(h.mem y).2 (.inr (.inl ⟨hy,e⟩)),fun q=>?_,fun q=>?_⟩
   ·subst q;exact e (congrArg Prod.fst (rs.one h.us hy h.mm PM))
   ·rw[j8 rs hy PM]at q;have:=kS (rs.ring hy) PM;rw[q]at this;exact e (congrArg Prod.fst (rs.one h.us hy h.mm this))
 have sgm:∀z∈an s.1,sg t (if z=m then aj k else z)=if sg s z=m then aj k else sg s z:=fun z hz=>by
  rcases pl z hz with⟨y,hy,PM,hyt,h1,h2⟩|IX
  ·rw[if_neg h1,if_neg h2,j8 rt hyt PM,j8 rs hy PM]
  ·obtain⟨n1,n2⟩:=h.nx z IX;rw[j8 rt Zn n1,j8 rs h.us IX];exact n2
 have up:∀z∈an s.1,z∈an t.1:=fun z hz=>h.p.mem_iff.2 (abt _ (abt _ hz));have kt:k∈an t.1:=h.p.mem_iff.2 (by simp);have qt:aj k∈an t.1:=h.p.mem_iff.2 (by simp);refine⟨w,h.ws,h.wt,Jm,h.kn,h.ok,(fun e=>qd h.k2 e.symm),h.k2,h.p,fun z hz hzo=>?_,?_,?_,?_,?_,hw,fun z hz hzm=>?_,?_,?_,?_,fun r=>?_,h.nv,h.len,h.al⟩
 ·rw[jI (up z hz),jI hz];have bz:aj z≠m:=fun e=>hzo (by rw[←e,bX (h.ws.side hz)]);have:=sgm (aj z) (h.ws.other hz)
  rwa [if_neg bz]at this
 ·rw[jI (up _ hod),bX (h.ws.side Jm)];exact sm.1
 ·rw[jI kt,jI hod,bX (h.ws.side Jm)];have:=sgm m Jm
  rwa [if_pos rfl]at this
 ·rw[jI qt,bX h.k2];exact sm.2
 ·exact eZ rs h.us h.mm
 ·rcases pl z hz with⟨y,hy,PM,hyt,_,_⟩|IX
  ·exact(eZ rt hyt PM).trans (eZ rs hy PM).symm
  ·have n1:=(h.nx z IX).1;rw[if_neg hzm]at n1;refine(eZ rt Zn n1).trans ((congrArg some h.ui).trans (eZ rs h.us IX).symm)
 ·exact(eZ rt hvt Xr).trans (congrArg some h.vi)
 ·exact(eZ rt hvt hkv).trans (congrArg some h.vi)
 ·exact(eZ rt Zn hqu).trans (congrArg some h.ui)
 ·constructor
  ·rintro⟨x,hx,rfl⟩;rcases (h.mem x).1 hx with rfl|⟨h1,_⟩|rfl
   ·exact .inl h.vi
   ·exact .inr ⟨x,h1,rfl⟩
   ·exact .inr ⟨uS,h.us,h.ui.symm⟩
  ·rintro(rfl|⟨x,hx,rfl⟩)
   ·exact⟨vV,hvt,h.vi⟩
   ·by_cases e:x.1=uS.1
    ·exact⟨uT,Zn,h.ui.trans e.symm⟩
    ·exact⟨x,(h.mem x).2 (.inr (.inl ⟨hx,e⟩)),rfl⟩
theorem Fr.flat(h:Fr s t v m k uS uT vV):bP s=0↔bP t=0:=by obtain⟨w,hs⟩:=h.sub;exact WN hs
def qj(m q z:ab):ab:=if z=m then q else z
theorem Jc{row:List ab}(hn:row.Nodup){j:Nat}{m:ab}(hj:row[j]? = some m)(q:ab):row.set j q=row.map (qj m q):=by
 apply adn;intro i;rw[List.getElem?_set,List.getElem?_map];by_cases e:j=i
 ·subst e;have:=(abu.1 hj).1;rw[if_pos rfl,if_pos this,hj];simp[qj]
 ·rw[if_neg e]
  cases hi:row[i]? with
  |none=>rfl
  |some x =>
   have:x≠m:=fun k=>by subst k;exact e (zP hn hj hi)
   simp[qj,this]
theorem LY{f g:ab→ab}{r:ab→ab}:∀{c:List ab} {y:ab},(∀z∈c,g (r z)=r (f z))→Path f c y→Path g (c.map r) (r y)
 |[],_,_,_=>trivial
 |a::c,y,h,p=>by
  obtain⟨h1,h2⟩:f a=c.head?.getD y∧Path f c y:=p;refine⟨?_,LY (fun z hz=>h z (abt _ hz)) h2⟩;rw[h a List.mem_cons_self,h1]
  cases c<;>rfl
theorem Zo{f g:ab→ab}{r:ab→ab}{c:List ab}(h:∀z∈c,g (r z)=r (f z))(hc:j7 f c):j7 g (c.map r):=by
 cases c with
 |nil=>exact hc.elim
 |cons x c=>exact LY (y:=x) h hc
theorem rp{row:List ab}(hn:row.Nodup){m q:ab}(hm:m∈row)(hq:q∉row){z:ab}(hz:z∈row):qj m q z∈fF row m q∧dn (fF row m q) (qj m q z)=qj m q (dn row z):=by
 obtain⟨j,h1,h2,_⟩:=eR hm;have e:fF row m q=cp (row.map (qj m q)):=by unfold fF;rw[if_pos ⟨hm,hq⟩,h1,Int.toNat_natCast,Jc hn h2]
 have jo:qj m q z∈row.map (qj m q):=ace.2 ⟨z,hz,rfl⟩;have nd:(row.map (qj m q)).Nodup:=by rw[←Jc hn h2];exact RR hn h2 hq
 rw[e];refine⟨pQ.2 jo,?_⟩;have nd2:(cp (row.map (qj m q))).Nodup:=(kL _).nodup_iff.2 nd;have c1:j7 (dn (cp (row.map (qj m q)))) (row.map (qj m q)):=by obtain⟨i,hi,he⟩:=A3 (row.map (qj m q));have:=te nd2 (adC (pQ.2 jo));rw[he]at this ⊢;exact LA this
 have back:∀y∈row,qj q m (qj m q y)=y:=fun y hy=>by
  unfold qj;by_cases a:y=m
  ·rw[if_pos a,if_pos rfl,a]
  ·rw[if_neg a,if_neg (fun kk:y=q=>hq (kk▸hy))]
 have c2:j7 (fun y=>qj m q (dn row (qj q m y))) (row.map (qj m q)):=by refine Zo (fun y hy=>?_) (te hn (adC hz));show qj m q (dn row (qj q m (qj m q y)))=_;rw[back y hy]
 have:=Hk c1 c2 _ jo;rw[this];show qj m q (dn row (qj q m (qj m q z)))=_;rw[back z hz]
end Go.Vs
namespace Go.Vs
open Go.Proofs Go.Cy
theorem PO(v:ai):∀l:List ai,al (cW v l)=al (v::l)
 |[]=>rfl
 |w::r=>by
  have ih:=PO v r;unfold cW
  split
  ·rfl
  ·unfold al at ih ⊢;rw[List.countP_cons,ih,List.countP_cons,List.countP_cons,List.countP_cons];omega
theorem z8(a b:List ai)(v:ai):al (a++v::b)=al a+(if v.2.1.isEmpty then 1 else 0)+al b:=by
 rw[Jb];have:al (v::b)=al b+if v.2.1.isEmpty then 1 else 0:=by unfold al;rw[List.countP_cons]
 omega
theorem Aa{l:List ab}{x:ab}(h:x∈l):l.isEmpty=false:=by cases l with
 |nil=>cases h
 |cons _ _=>rfl
theorem Sk{row:List ab}(hn:row.Nodup){m q:ab}(hm:m∈row)(hq:q∉row){z:ab}(hz:z∈fF row m q):∃y∈row,z=qj m q y:=by obtain⟨j,h1,h2,_⟩:=eR hm;unfold fF at hz;rw[if_pos ⟨hm,hq⟩,h1,Int.toNat_natCast,Jc hn h2]at hz;obtain⟨y,hy,e⟩:=ace.1 (pQ.1 hz);exact⟨y,hy,e.symm⟩
theorem WO{d:ak}(h:Wf d){m k:ab}{v:ID}(Tx:m.2=0∨m.2=1)(qh:k.2=0∨k.2=1)(hm:(aZ d.2 m.1).isSome=true)(My:aR d.1 v=none)(hnk:aZ d.2 k.1=none) (ht:Wf (cW (v,(cp [m,k],(e0,0))) (aE d m (aj k)).1,dH (k.1,(e0,0)) (aE d m (aj k)).2)) :
  ∃uS uT vV,Fr d (cW (v,(cp [m,k],(e0,0))) (aE d m (aj k)).1,dH (k.1,(e0,0)) (aE d m (aj k)).2) v m k uS uT vV:=by
 have Jm:m∈an d.1:=h.kR hm Tx;have Jl:aj k∉an d.1:=h.uH hnk _;have hkn:k∉an d.1:=h.uH hnk _;obtain⟨p1,q1⟩:=j6 h.rw Jm Jl;obtain⟨uS,hu,hmu⟩:=aU.1 Jm;have hqu:aj k∉uS.2.1:=fun e=>Jl (aU.2 ⟨uS,hu,e⟩);obtain⟨a,b,e1,e2,_,e4⟩:=nC h.sv hu;obtain⟨uT,Zn⟩:∃uT:ai,uT=(uS.1,(fF uS.2.1 m (aj k),uS.2.2)):=⟨_,rfl⟩;have es:(aE d m (aj k)).1=a++uT::b:=by rw[qZ h.rw _ hu hmu,Zn];exact e4 _
 have nd:=h.rw.ring hu;have hmT:aj k∈uT.2.1:=by
  have:=(rp nd hmu hqu hmu).1;rw[Zn];unfold qj at this
  rwa [if_pos rfl]at this
 refine⟨uS,uT,(v,(cp [m,k],(e0,0))),h,ht,fun y=>?_,hu,by rw[Zn],rfl,VR m k,hmu,qh,hkn,Jl,fun z hz=>?_,?_,fun x hx e=>?_,?_,?_⟩
 ·show y∈cW _ (aE d m (aj k)).1↔_;rw[jZ,es,e1];constructor
  ·rintro(k1|k1)
   ·exact .inl k1
   ·rcases abX.1 k1 with k1|k1
    ·exact .inr (.inl ⟨abG _ k1,e2 y (abG _ k1)⟩)
    ·rcases abz.1 k1 with k1|k1
     ·exact .inr (.inr k1)
     ·exact .inr (.inl ⟨abA _ (abt _ k1),e2 y (abA _ k1)⟩)
  ·rintro(k1|⟨k1,k2⟩|k1)
   ·exact .inl k1
   ·refine .inr ?_;rcases abX.1 k1 with k1|k1
    ·exact abG _ k1
    ·rcases abz.1 k1 with k1|k1
     ·subst k1;exact absurd rfl k2
     ·exact abA _ (abt _ k1)
   ·rw[k1];exact .inr (abA _ abV)
 ·rw[Zn];exact rp nd hmu hqu hz
 ·show(an (cW _ (aE d m (aj k)).1)).Perm _;refine(wo _ _).trans ((adm _ (kL [m,k])).trans ?_);show(m::k::an (aE d m (aj k)).1).Perm _;exact(List.Perm.swap k m _).trans (List.Perm.cons k p1.symm)
 ·have:=j5 h.sv hx;rw[e,My]at this;cases this
 ·show(cW _ (aE d m (aj k)).1).length=_;rw[fH,es,e1];simp
 ·show al (cW _ (aE d m (aj k)).1)=_;rw[PO,es,e1];have z1:al ((v,(cp [m,k],((e0,0):ByteArray×Int)))::(a++uT::b))=al (a++uT::b):=by have:=z8 [] (a++uT::b) (v,(cp [m,k],(e0,0)));rw[List.nil_append]at this;rw[this,if_neg (by rw[Aa (x:=m) (pQ.2 (by simp))];simp)];show al []+0+_=_;have:al []=0:=rfl;omega
  rw[z1,z8,z8,Aa hmT,Aa hmu]
theorem Sn{d:ak}(h:Wf d){vV:ai}{a b:ab}(hv:vV∈d.1)(hr:vV.2.1=[a,b]∨vV.2.1=[b,a])(AW:a.1≠b.1)(hs:Wf (aM (aE (aM d vV.1 zI) (aj b) a) zI b.1)) :
  ∃uS uT,Fr (aM (aE (aM d vV.1 zI) (aj b) a) zI b.1) d vV.1 a b uS uT vV:=by
 have hrp:vV.2.1.Perm [a,b]:=by
  rcases hr with e|e
  ·rw[e]
  ·rw[e];exact List.Perm.swap _ _ _
 obtain⟨p,q,h1,bz,h2,_⟩:=nC h.sv hv;have pd:(an d.1).Perm (a::b::an (p++q)):=by have:=(jH p q vV).trans (adm _ hrp);rw[←h1]at this;exact this
 have RP:aM d vV.1 zI=(p++q,d.2):=by unfold aM;rw[h2,q7 h.ge]
 have E9:=pd.nodup_iff.1 h.rw.n;have hbd:b∈an d.1:=pd.mem_iff.2 (by simp);have E5:=h.side hbd;have RQ:aj b∈an (p++q):=by
  have h3:=h.other hbd;rcases abz.1 (pd.mem_iff.1 h3) with k|k
  ·exact absurd (congrArg Prod.fst k) (fun k=>AW k.symm)
  rcases abz.1 k with k|k
  ·exact absurd k (qd E5)
  ·exact k
 have IV:Rw (p++q):=⟨by rw[←h2];exact nu h.sv,(abP.1 (abP.1 E9).2).2⟩;have ha:a∉an (p++q):=fun k=>(abP.1 E9).1 (abt _ k);rw[RP]at hs ⊢;obtain⟨p1,q1⟩:=j6 (d:=(p++q,d.2)) IV RQ ha;have RO:∀w∈(aE (p++q,d.2) (aj b) a).1,GV w:=by
  refine q6 (d:=(p++q,d.2)) (fun w hw=>h.gv w ?_) _ _;rw[h1];rcases abX.1 hw with k|k
  ·exact abG _ k
  ·exact abA _ (abt _ k)
 have SK:(aM (aE (p++q,d.2) (aj b) a) zI b.1).1=(aE (p++q,d.2) (aj b) a).1:=uD RO;obtain⟨uT,hu,hbu⟩:=aU.1 RQ;have hau:a∉uT.2.1:=fun e=>ha (aU.2 ⟨uT,hu,e⟩);obtain⟨l,r,e1,e2,_,e4⟩:=nC IV.s hu;obtain⟨uS,Mg⟩:∃uS:ai,uS=(uT.1,(fF uT.2.1 (aj b) a,uT.2.2)):=⟨_,rfl⟩;have es:(aE (p++q,d.2) (aj b) a).1=l++uS::r:=by rw[qZ (d:=(p++q,d.2)) IV _ hu hbu,Mg];exact e4 _
 have nd:=IV.ring hu;have hmS:a∈uS.2.1:=by
  have:=(rp nd hbu hau hbu).1;rw[Mg];unfold qj at this
  rwa [if_pos rfl]at this
 have back:∀y∈uT.2.1,qj a (aj b) (qj (aj b) a y)=y:=fun y hy=>by
  unfold qj;by_cases c:y=aj b
  ·rw[if_pos c,if_pos rfl,c]
  ·rw[if_neg c,if_neg (fun kk:y=a=>hau (kk▸hy))]
 have hp:(an d.1).Perm (b::aj b::an (aM (aE (p++q,d.2) (aj b) a) zI b.1).1):=by rw[SK];exact pd.trans ((List.Perm.swap b a _).trans (List.Perm.cons b p1))
 have ahp:=hp.nodup_iff.1 h.rw.n;have acT:∀y,y∈(aM (aE (p++q,d.2) (aj b) a) zI b.1).1↔y∈l++uS::r:=fun y=>by rw[SK,es]
 refine⟨uS,uT,hs,h,fun y=>?_,(acT uS).2 (abA _ abV),by rw[Mg],rfl,hr,hmS,E5,fun e=>?_,fun e=>?_,fun z hz=>?_,hp,fun x hx=>?_,?_,?_⟩
 ·rw[h1,acT];have HR:y∈p++vV::q↔y=vV∨y∈p++q:=by
   simp only[List.mem_append,List.mem_cons];constructor
   ·rintro(c|c|c)
    ·exact .inr (.inl c)
    ·exact .inl c
    ·exact .inr (.inr c)
   ·rintro(c|c|c)
    ·exact .inr (.inl c)
    ·exact .inl c
    ·exact .inr (.inr c)
  rw[HR,e1];have Zi:uS.1=uT.1:=by rw[Mg]
  constructor
  ·rintro(c|c)
   ·exact .inl c
   ·rcases abX.1 c with c|c
    ·exact .inr (.inl ⟨abG _ c,by rw[Zi];exact e2 y (abG _ c)⟩)
    ·rcases abz.1 c with c|c
     ·exact .inr (.inr c)
     ·exact .inr (.inl ⟨abA _ (abt _ c),by rw[Zi];exact e2 y (abA _ c)⟩)
  ·rintro(c|⟨c,c2⟩|c)
   ·exact .inl c
   ·refine .inr ?_;rcases abX.1 c with c|c
    ·exact abG _ c
    ·rcases abz.1 c with c|c
     ·subst c;exact absurd rfl c2
     ·exact abA _ (abt _ c)
   ·rw[c];exact .inr (abA _ abV)
 ·exact(abP.1 ahp).1 (abt _ e)
 ·exact(abP.1 (abP.1 ahp).2).1 e
 ·rw[Mg]at hz;obtain⟨y,hy,rfl⟩:=Sk nd hbu hau hz;have n1:=(rp nd hbu hau hy).2;have n2:dn uS.2.1 (qj (aj b) a y)=qj (aj b) a (dn uT.2.1 y):=by rw[Mg];exact n1
  have b1:=back y hy;have b2:=back _ (kS nd hy);show qj a (aj b) (qj (aj b) a y)∈uT.2.1∧dn uT.2.1 (qj a (aj b) (qj (aj b) a y))=qj a (aj b) (dn uS.2.1 (qj (aj b) a y));rw[b1,n2,b2];exact⟨hy,rfl⟩
 ·have hx:=(acT x).1 hx;have:∃y∈p++q,y.1=x.1:=by
   rw[e1];rcases abX.1 hx with c|c
   ·exact⟨x,abG _ c,rfl⟩
   ·rcases abz.1 c with c|c
    ·exact⟨uT,abA _ abV,by rw[c,Mg]⟩
    ·exact⟨x,abA _ (abt _ c),rfl⟩
  obtain⟨y,hy,e⟩:=this;rw[←e];exact bz y hy
 ·rw[SK,es,h1];have:=congrArg List.length e1;simp at this ⊢;omega
 ·rw[SK,es,h1];have z1:=z8 p q vV;have z2:=z8 l r uS;have z3:=z8 l r uT;have z4:=Jb p q;rw[e1]at z4;rw[Aa (hrp.mem_iff.2 (by simp):a∈vV.2.1)]at z1;rw[Aa hmS]at z2;rw[Aa hbu]at z3;simp at z1 z2 z3;omega
theorem bR:bP zS.1=0:=by have hr:oM zS.1 []:=⟨List.nodup_nil,fun r h=>(by cases h),fun r h=>(by cases h),fun v h=>(by cases h)⟩;rw[iU Wf.zero hr];rfl
theorem WQ{s:StateT}(h:eI s)(hg:bP s.1=0)(o:bq):bP (ke s o).1.1=0:=by
 have hw:=(h.one o).d;unfold ke at hw ⊢
 split
 ·exact bR
 rename_i hm;rw[if_neg hm]at hw;have hm:cC o=0:=Classical.byContradiction fun k=>hm k
 split
 ·rename_i h1;rw[if_pos h1]at hw;unfold ov at hw ⊢
  split
  ·exact bR
  rename_i k1;rw[if_neg k1]at hw
  split
  ·exact bR
  rename_i k2;rw[if_neg k2]at hw;exact Si h.d (by simpa[bp] using k1) hw hg
 rename_i h1;rw[if_neg h1]at hw
 split
 ·unfold vq
  cases hv:bp s.1 (ba o) with
  |none=>exact bR
  |some v =>
   simp only
   split
   ·exact bR
   ·rename_i hr;have hl:Lone s.1 v:=⟨h.d,eO hv,by simpa using hr⟩;have:=(Hw hl).1 hg;rw[iP hv]at this;exact this
 rename_i h2;rw[if_neg h2]at hw
 split
 ·unfold ou
  split;· exact bR
  split;· exact bR
  split;· exact bR
  split;· exact bR
  split;· exact bR
  rename_i k;exact Classical.byContradiction fun q=>k q
 rename_i h3;rw[if_neg h3]at hw
 split
 ·unfold D4
  split;· exact bR
  rename_i k1;exact WL (x:=ba o) ⟨h.d,pY k1⟩ hg
 rename_i h4;rw[if_neg h4]at hw
 split
 ·rename_i hk;rw[if_pos hk]at hw;unfold kJ at hw ⊢
  split;· exact bR
  rename_i k1;rw[if_neg k1]at hw
  split;· exact bR
  rename_i k2;rw[if_neg k2]at hw
  split;· exact bR
  rename_i k3;rw[if_neg k3]at hw
  split;· exact bR
  rename_i k4;rw[if_neg k4]at hw
  split;· exact bR
  rename_i k5;rw[if_neg k5]at hw;obtain⟨m1,m2,m3,m4⟩:=zN hm hk;obtain⟨s1,s2⟩:=Ei m3 m4;obtain⟨uS,uT,vV,fr⟩:=WO (d:=s.1) (m:=Li o) (k:=G1 o) (v:=fC o) h.d s1 s2 (pY k1) (by simpa[bp] using k2) (by simpa[hM,G1] using k3) hw;exact fr.flat.1 hg
 rename_i h5;rw[if_neg h5]at hw
 split
 ·rename_i h6;rw[if_pos h6]at hw;unfold j0 at hw ⊢
  split
  ·exact bR
  ·rename_i v hv;rw[hv]at hw;have XH:=eO hv;have hvi:=iP hv;simp only at hw
   split
   ·rename_i r0 r1 hr;rw[hr]at hw;simp only at hw;have key:∀a b:ab,(v.2.1=[a,b]∨v.2.1=[b,a])→a.1≠b.1→Wf (Jp s o a b)→bP (Jp s o a b)=0:=fun a b hp AW Tz=>by unfold Jp at Tz ⊢;rw[←hvi]at Tz ⊢;obtain⟨uS,uT,fr⟩:=Sn h.d XH hp AW Tz;exact fr.flat.2 hg
    unfold je at hw ⊢
    split;· exact bR
    rename_i bz;rw[if_neg bz]at hw
    split
    ·rename_i c;rw[if_pos c]at hw;exact key r1 r0 (.inr hr) (fun k=>bz k.symm) hw
    rename_i c;rw[if_neg c]at hw
    split
    ·rename_i c2;rw[if_pos c2]at hw;exact key r0 r1 (.inl hr) bz hw
    ·exact bR
   ·exact bR
 rename_i h6;rw[if_neg h6]at hw;unfold wg at hw ⊢
 split
 ·rename_i c;rw[if_pos c]at hw;exact N1 (Sj o) h.d hw hg
 ·exact bR
theorem PQ:∀(l:List bq) {s:StateT},eI s→bP s.1=0→bP (D5 l s).1.1=0
 |[],s,h,hg=>hg
 |o::r,s,h,hg=>by
  unfold D5
  split
  ·exact bR
  ·exact PQ r (h.one o) (WQ h hg o)
theorem N2{s:StateT}(h:eI s)(hg:bP s.1=0)(l:List bq):bP (cV s l).1.1=0:=by
 unfold cV
 split
 ·exact bR
 ·exact PQ l h hg
theorem WR{s:StateT}(h:eI s)(hg:bP s.1=0)(l:List bq):bP (il s l).1=0:=by
 unfold il
 split
 ·exact hg
 ·exact N2 h hg l
end Go.Vs
