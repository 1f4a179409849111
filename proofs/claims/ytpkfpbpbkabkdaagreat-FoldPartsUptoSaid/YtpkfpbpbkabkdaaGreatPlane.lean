/- Whatever is done -/
import Derived.Test.YtpkfpbpbkabkdaaGreatEuler
set_option linter.unusedVariables false
set_option linter.unusedSimpArgs false
namespace Go.Vs
open Go.Proofs Go.Cy
variable {G:(f:FuncId)→(g:aO)→Option (g.A→Option g.B)}
structure Lone(d:ak)(v:ai):Prop where
 w:Wf d
 m:v∈d.1
 r:v.2.1=[]
theorem Lone.split{d:ak}{v:ai}(h:Lone d v):∃a b,d.1=a++v::b∧(aI d v.1 zI)=(a++b,d.2)∧aj (a++b) ⊆ aj d.1∧(aj d.1).Perm (aj (a++b)):=by
 obtain⟨a,b,h1,_,h2,_⟩:=mK h.w.sv h.m;have p:(aj d.1).Perm (aj (a++b)):=by have:=gM a b v;rw[←h1,h.r,List.nil_append]at this;exact this
 exact⟨a,b,h1,by unfold aI;rw[h2,qb h.w.ge],fun x hx=>p.mem_iff.2 hx,p⟩
theorem Lone.wf{d:ak}{v:ai}(h:Lone d v):Wf (aI d v.1 zI):=h.w.RS h.m h.r
theorem Lone.mem{d:ak}{v:ai}(h:Lone d v){u:ai}:u∈(aI d v.1 zI).1↔u∈d.1∧u.1≠v.1:=by show u∈dv d.1 v.1↔_;unfold dv;rw[List.mem_filter];simp
theorem Lone.SP{d:ak}{v:ai}(h:Lone d v):(aj (aI d v.1 zI).1).Perm (aj d.1):=by obtain⟨a,b,_,h2,_,h3⟩:=h.split;rw[h2];exact h3.symm
theorem Lone.SQ{d:ak}{v:ai}(h:Lone d v){u:ai}{z:ab}(hu:u∈d.1)(hz:z∈u.2.1):u∈(aI d v.1 zI).1:=by refine h.mem.2 ⟨hu,fun k=>?_⟩;rw[IV h.w.sv h.m hu k,h.r]at hz;simp at hz
theorem Lone.at{d:ak}{v:ai}(h:Lone d v){z:ab}(hz:z∈aj d.1):ed (aI d v.1 zI) z=ed d z:=by obtain⟨u,hu,Du⟩:=aT.1 hz;show Gc (aI d v.1 zI).1 z=Gc d.1 z;rw[dS h.w.rw hu Du,dS h.wf.rw (h.SQ hu Du) Du]
theorem Lone.U8{d:ak}{v:ai}(h:Lone d v){a b:ID}:y0 (aI d v.1 zI) a b↔y0 d a b:=by
 constructor
 ·rintro⟨z,hz,h1,h2⟩;have hz:=h.SP.mem_iff.1 hz;exact⟨z,hz,by rw[←h.at hz];exact h1,by rw[←h.at (h.w.other hz)];exact h2⟩
 ·rintro⟨z,hz,h1,h2⟩;exact⟨z,h.SP.mem_iff.2 hz,by rw[h.at hz];exact h1,by rw[h.at (h.w.other hz)];exact h2⟩
theorem Lone.conn{d:ak}{v:ai}(h:Lone d v){a b:ID}:cg (aI d v.1 zI) a b↔cg d a b:=by
 constructor
 ·intro k
  induction k with
  |refl=>exact .refl _
  |tail _ j ih=>exact ih.tail (h.U8.1 j)
 ·intro k
  induction k with
  |refl=>exact .refl _
  |tail _ j ih=>exact ih.tail (h.U8.2 j)
theorem Lone.alone{d:ak}{v:ai}(h:Lone d v){b:ID}(k:cg d v.1 b):b=v.1:=by
 have key:∀{a b:ID},cg d a b→a=v.1→b=v.1:=fun {a b} k ha=>by
  induction k with
  |refl=>exact ha
  |tail _ j ih =>obtain⟨z,hz,h1,_⟩:=j;obtain⟨u,hu,Du,yx⟩:=rM h.w hz;rw[yx,ih]at h1;have:=ab5 h1;rw[IV h.w.sv h.m hu this,h.r]at Du;simp at Du
 exact key k rfl
theorem Lone.Dv{d:ak}{v:ai}(h:Lone d v){R:List ID}(hr:nT d R):∃R2,nT (aI d v.1 zI) R2∧R2.length+1=R.length:=by
 obtain⟨r,I3,hvr⟩:=hr.c v h.m;have hv:v.1∈R:=by rw[←h.alone hvr];exact I3
 refine⟨R.erase v.1,⟨hr.n.erase _,fun s hs=>?_,fun s hs t ht k=>hr.i s (aea hs) t (aea ht) (h.conn.1 k),fun u hu=>?_⟩,?_⟩
 ·obtain⟨u,hu,he⟩:=hr.v s (aea hs);refine⟨u,h.mem.2 ⟨hu,fun k=>?_⟩,he⟩;have:s=v.1:=he.symm.trans k;subst this;exact absurd hs (List.Nodup.not_mem_erase hr.n)
 ·obtain⟨hu1,hu2⟩:=h.mem.1 hu;obtain⟨s,hs,Hd⟩:=hr.c u hu1;refine⟨s,(aec fun k=>?_).2 hs,h.conn.2 Hd⟩;subst k;exact hu2 (h.alone (Hd.symm h.w))
 ·rw[List.length_erase_of_mem hv];have:=adZ hv;omega
theorem Lone.ph{d:ak}{v:ai}(h:Lone d v){z:ab}(hz:z∈aj d.1):ph (aI d v.1 zI) z=ph d z:=by rw[ji hz,ji (h.SP.mem_iff.2 hz)];obtain⟨u,hu,Du⟩:=aT.1 (h.w.other hz);rw[jh h.w.rw hu Du,jh h.wf.rw (h.SQ hu Du) Du]
theorem Lone.bR{d:ak}{v:ai}(h:Lone d v):(Vs.bR (aI d v.1 zI)).length=(Vs.bR d).length:=by have a:=bH h.wf;have b:=bH h.w;refine EV.count h.w.rw.n ⟨fun c hc=>?_,a.p.trans h.SP⟩ b;refine(a.c c hc).congr fun z hz=>?_;have:z∈aj (aI d v.1 zI).1:=a.p.mem_iff.1 (adN.2 ⟨c,hc,hz⟩);exact(h.ph (h.SP.mem_iff.1 this)).symm
theorem CW{d:ak}(hw:Wf d){R:List ID}(hr:nT d R):gX d=(R.length:Int):=by rw[tc hw,(kX hw (ep hw)).len hw hr]
structure wD(d:ak)(v:ai)(y:ab):Prop where
 w:Wf d
 m:v∈d.1
 r:v.2.1=[y]
theorem wD.mem{d:ak}{v:ai}{y:ab}(h:wD d v y):y∈aj d.1:=aT.2 ⟨v,h.m,by rw[h.r];simp⟩
theorem wD.cut{d:ak}{v:ai}{y:ab}(h:wD d v y):bN d y.1:=by obtain⟨e,he,h1,_⟩:=eP.1 (h.w.pd.mem_iff.1 h.mem);exact⟨h.w,by unfold aV;rw[List.find?_isSome];exact⟨e,he,by simpa using h1⟩⟩
theorem wD.lone{d:ak}{v:ai}{y:ab}(h:wD d v y):∃u,Lone (cO d y.1) u∧u.1=v.1:=by
 obtain⟨u,hu,br⟩:=h.cut.La.2 ⟨v,h.m,rfl⟩;refine⟨u,⟨h.cut.w,hu,?_⟩,br⟩
 cases hq:u.2.1 with
 |nil=>rfl
 |cons z r =>
  exfalso;have hz:z∈u.2.1:=by rw[hq];simp
  have hzd:z∈aj (cO d y.1).1:=aT.2 ⟨u,hu,hz⟩;have h1:ed (cO d y.1) z=some u.1:=dS h.cut.w.rw hu hz;rw[h.cut.at hzd,br]at h1;obtain⟨w,hw,GO,yx⟩:=rM h.w (h.cut.sub hzd);rw[yx]at h1;have hwv:=IV h.w.sv h.m hw (ab5 h1);rw[hwv,h.r]at GO;have MV:z=y:=by simpa using GO
  have nd:=h.cut.p.nodup_iff.1 h.w.rw.n;have e:y=(y.1,y.2):=rfl;rcases h.w.side h.mem with k|k
  ·rw[k]at e;exact(ab6.1 nd).1 (abq _ (e▸MV▸hzd))
  ·rw[k]at e;exact(ab6.1 (ab6.1 nd).2).1 (e▸MV▸hzd)
theorem wD.back{d:ak}{v:ai}{y:ab}(h:wD d v y):ph d (ag y)=y:=by
 rw[ji (h.w.other h.mem),bP (h.w.side h.mem)];have hy:y∈v.2.1:=by rw[h.r];simp
 rw[jh h.w.rw h.m hy];exact(E0 (h.w.rw.ring h.m) hy).2 (by rw[h.r];rfl)
theorem wD.one{d:ak}{v:ai}{y:ab}(h:wD d v y):K9 d (y.1,0) (y.1,1):=by
 have hm:ag y∈(bR d).flatten:=(bH h.w).p.mem_iff.2 (h.w.other h.mem);obtain⟨c,hc,h1⟩:=adN.1 hm;have h2:=((bH h.w).c c hc).step h1;rw[h.back]at h2;have e:y=(y.1,y.2):=rfl;have eo:ag y=(y.1,(ag y).2):=rfl;obtain⟨_,k⟩:=gN (h.w.side h.mem);rcases k with⟨k1,k2⟩|⟨k1,k2⟩
 ·rw[k1]at e;rw[k2]at eo;exact⟨c,hc,e▸h2,eo▸h1⟩
 ·rw[k1]at e;rw[k2]at eo;exact⟨c,hc,eo▸h1,e▸h2⟩
theorem wD.bR{d:ak}{v:ai}{y:ab}(h:wD d v y):(Vs.bR (cO d y.1)).length≤(Vs.bR d).length:=by
 have h1:=(h.cut.same h.one).2;have hb:=h.back;have e:y=(y.1,y.2):=rfl;have eo:ag y=(y.1,(ag y).2):=rfl;obtain⟨_,k⟩:=gN (h.w.side h.mem);rcases k with⟨k1,k2⟩|⟨k1,k2⟩
 ·rw[k1]at e;rw[k2]at eo;have:ph d (y.1,1)=(y.1,0):=by rw[←eo,hb];exact e
  rw[if_pos this]at h1
  split at h1<;>omega
 ·rw[k1]at e;rw[k2]at eo;have:ph d (y.1,0)=(y.1,1):=by rw[←eo,hb];exact e
  rw[if_pos this]at h1
  split at h1<;>omega
theorem wD.parts{d:ak}{v:ai}{y:ab}(h:wD d v y){u:ai}(hu:Lone (cO d y.1) u)(br:u.1=v.1):gX (aI (cO d y.1) v.1 zI)=gX d:=by
 obtain⟨a,b,ha,hb,_,_⟩:=h.cut.Gp;have hr:=kX h.w (ep h.w);have TP:ed d y=some v.1:=dS h.w.rw h.m (by rw[h.r];simp);have TJ:ed d (ag y)≠some v.1:=fun k=>by
  obtain⟨w,hw,GO,yx⟩:=rM h.w (h.w.other h.mem);rw[yx]at k;rw[IV h.w.sv h.m hw (Option.some.inj k),h.r]at GO;have GO:ag y=y:=by simpa using GO
  obtain⟨_,m⟩:=gN (h.w.side h.mem);rw[GO]at m;omega
 have aW:a≠b∧(a=v.1∨b=v.1):=by
  have e:y=(y.1,y.2):=rfl;have eo:ag y=(y.1,(ag y).2):=rfl;obtain⟨_,k⟩:=gN (h.w.side h.mem);rcases k with⟨k1,k2⟩|⟨k1,k2⟩
  ·rw[k1]at e;rw[k2]at eo;rw[e,ha]at TP;rw[eo,hb]at TJ;have:=ab5 TP;exact⟨fun k=>TJ (by rw[←k,this]),.inl this⟩
  ·rw[k1]at e;rw[k2]at eo;rw[e,hb]at TP;rw[eo,ha]at TJ;have:=ab5 TP;exact⟨fun k=>TJ (by rw[k,this]),.inr this⟩
 have yk:¬cg (cO d y.1) a b:=fun k=>by
  rcases aW.2 with m|m
  ·rw[m,←br]at k;exact aW.1 (m.trans (br▸hu.alone k).symm)
  ·rw[m,←br]at k;exact aW.1 ((br▸hu.alone (k.symm h.cut.w):a=v.1).trans m.symm)
 obtain⟨R2,h2,h3⟩:=h.cut.Sc ha hb yk hr;obtain⟨R3,h4,h5⟩:=hu.Dv h2;rw[br]at h4;have hwf:=hu.wf;rw[br]at hwf;rw[CW hwf h4,CW h.w hr];omega
end Go.Vs
namespace Go.Vs
open Go.Proofs Go.Cy
theorem tf{d:ak}(hw:Wf d):∃R,nT d R:=⟨_,kX hw (ep hw)⟩
theorem iC{d:ak}(hw:Wf d){R:List ID}(hr:nT d R):bK d=0↔d.1.length+ft d=2*R.length+d.2.length:=by
 obtain⟨k,h1,h2⟩:=CF hw hr;rw[h1];constructor
 ·intro h;omega
 ·intro h;omega
theorem qi{d:ak}(hw:Wf d):(aj d.1).length=2*d.2.length:=by have:=hw.pd.length_eq;rw[yZ]at this;omega
theorem SR{d':ak}{x:ID}(h:bN d' x)(hg:bK d'=0):bK (cO d' x)=0:=by
 obtain⟨u,w,hu,hw,_,_⟩:=h.Gp;obtain⟨R,hr⟩:=tf h.wf;have k:=(iC h.wf hr).1 hg;have hv:(cO d' x).1.length=d'.1.length:=by have:=congrArg List.length h.ids;simpa using this
 have he:(cO d' x).2.length+1=d'.2.length:=by have h1:=qi h.wf;have h2:=qi h.w;have h3:=h.p.length_eq;simp at h3;omega
 by_cases hc:cg (cO d' x) u w
 ·have JJ:=h.Dv hu hw hc hr;by_cases ho:K9 d' (x,0) (x,1)
  ·have h1:=(h.same ho).1;obtain⟨j,_,h2⟩:=CF h.w JJ;omega
  ·have h1:=h.diff ho;rw[iC h.w JJ];omega
 ·obtain⟨R2,JJ,hl⟩:=h.Sc hu hw hc hr;have ho:K9 d' (x,0) (x,1):=Classical.byContradiction fun ho=>hc (h.E1 hu hw ho);have h1:=(h.same ho).1;rw[iC h.w JJ];omega
theorem GC(a b:List ai):al (a++b)=al a+al b:=List.countP_append
theorem E9{d:ak}{v:ai}(h:Lone d v):bK d=0↔bK (aI d v.1 zI)=0:=by
 obtain⟨R,hr⟩:=tf h.w;obtain⟨R2,JJ,hl⟩:=h.Dv hr;rw[iC h.w hr,iC h.wf JJ];obtain⟨a,b,k1,k2,_,_⟩:=h.split;have hf:=h.bR;have e1:d.1.length=(aI d v.1 zI).1.length+1:=by rw[k1,k2];simp;omega
 have e2:(aI d v.1 zI).2.length=d.2.length:=by rw[k2]
 have e3:al d.1=al (aI d v.1 zI).1+1:=by
  rw[k1,k2];show al (a++v::b)=al (a++b)+1;rw[GC,GC];have:al (v::b)=al b+1:=by unfold al;rw[List.countP_cons,h.r];rfl
  omega
 have f1:ft d=(bR d).length+al d.1:=rfl;have f2:ft (aI d v.1 zI)=(bR (aI d v.1 zI)).length+al (aI d v.1 zI).1:=rfl;omega
theorem Pd{d:ak}(hw:Wf d){x:ID}(hx:aL d.1 x=none)(KH:Wf (cW (x,([],(e0,0))) d.1,d.2))(hg:bK d=0):bK (cW (x,([],(e0,0))) d.1,d.2)=0:=by
 have hl:Lone (cW (x,([],(e0,0))) d.1,d.2) (x,([],(e0,0))):=⟨KH,jG.2 (.inl rfl),rfl⟩;rw[E9 hl];have e:aI (cW (x,([],(e0,0))) d.1,d.2) x zI=d:=by have h1:=Cg (x,([],(e0,0))) (l:=d.1) hx;have h2:=qb hw.ge;unfold aI;show(dv (cW (x,([],(e0,0))) d.1) x,dX d.2 zI)=d;rw[h2];exact congrArg (fun l:List ai=>((l,d.2):ak)) h1
 show bK (aI (cW (x,([],(e0,0))) d.1,d.2) x zI)=0;rw[e];exact hg
structure jk(f:ai→ai)(g:aq→aq):Prop where
 i:∀v,(f v).1=v.1
 r:∀v,(f v).2.1=v.2.1
 e:∀a,(g a).1=a.1
variable {f:ai→ai} {g:aq→aq}
theorem jk.aj(k:jk f g)(l:List ai):Vs.aj (l.map f)=Vs.aj l:=by unfold Vs.aj;rw[List.flatMap_map];congr 1;funext v;exact k.r v
theorem jk.at(k:jk f g)(l:List ai)(x:ab):Gc (l.map f) x=Gc l x:=by
 unfold Gc;rw[List.find?_map];have:((fun v:ai=>decide (x∈v.2.1)) ∘ f)=fun v:ai=>decide (x∈v.2.1):=by funext v;show decide (x∈(f v).2.1)=_;rw[k.r]
 rw[this,Option.map_map];congr 1;funext v;exact k.i v
theorem jk.find(k:jk f g)(l:List ai)(x:ID):aL (l.map f) x=(aL l x).map f:=by
 unfold aL;rw[List.find?_map];have:((fun v:ai=>decide (v.1=x)) ∘ f)=fun v:ai=>decide (v.1=x):=by funext v;show decide ((f v).1=x)=_;rw[k.i]
 rw[this]
theorem jk.al(k:jk f g)(l:List ai):Vs.al (l.map f)=Vs.al l:=by unfold Vs.al;rw[List.countP_map];congr 1;funext v;show(f v).2.1.isEmpty=_;rw[k.r]
theorem jk.ln(k:jk f g)(d:ak)(x:ab):Vs.ln (d.1.map f,d.2.map g) x=Vs.ln d x:=by
 unfold Vs.ln;have h1:ed (d.1.map f,d.2.map g) x=ed d x:=k.at d.1 x;rw[h1]
 cases ed d x with
 |none=>rfl
 |some a =>
  have h2:cM (d.1.map f,d.2.map g) a=cM d a:=by
   unfold cM cd;show((aL (d.1.map f) a).getD zV).2.1=_;rw[k.find]
   cases aL d.1 a with
   |none=>rfl
   |some v=>exact k.r v
  show jc (cM (d.1.map f,d.2.map g) a) x 1=_;rw[h2]
theorem jk.ph(k:jk f g)(d:ak)(x:ab):Vs.ph (d.1.map f,d.2.map g) x=Vs.ph d x:=by unfold Vs.ph Pw;have h1:ed (d.1.map f,d.2.map g) x=ed d x:=k.at d.1 x;rw[h1,k.ln]
theorem jk.U8(k:jk f g)(d:ak){a b:ID}:y0 (d.1.map f,d.2.map g) a b↔y0 d a b:=by
 unfold y0;have h:∀z,ed (d.1.map f,d.2.map g) z=ed d z:=fun z=>k.at d.1 z;have hd:Vs.aj (d.1.map f)=Vs.aj d.1:=k.aj d.1;constructor
 ·rintro⟨z,h1,h2,h3⟩;exact⟨z,hd▸h1,(h z).symm.trans h2,(h _).symm.trans h3⟩
 ·rintro⟨z,h1,h2,h3⟩;exact⟨z,hd.symm▸h1,(h z).trans h2,(h _).trans h3⟩
theorem jk.conn(k:jk f g)(d:ak){a b:ID}:cg (d.1.map f,d.2.map g) a b↔cg d a b:=by
 constructor
 ·intro h
  induction h with
  |refl=>exact .refl _
  |tail _ j ih=>exact ih.tail ((k.U8 d).1 j)
 ·intro h
  induction h with
  |refl=>exact .refl _
  |tail _ j ih=>exact ih.tail ((k.U8 d).2 j)
theorem jk.Dv(k:jk f g){d:ak}{R:List ID}(h:nT d R):nT (d.1.map f,d.2.map g) R:=by
 refine⟨h.n,fun r hr=>?_,fun r hr s hs hc=>h.i r hr s hs ((k.conn d).1 hc),fun v hv=>?_⟩
 ·obtain⟨v,hv,he⟩:=h.v r hr;exact⟨f v,acx.2 ⟨v,hv,rfl⟩,(k.i v).trans he⟩
 ·obtain⟨u,hu,rfl⟩:=acx.1 hv;obtain⟨r,hr,hc⟩:=h.c u hu;exact⟨r,hr,by rw[k.i];exact(k.conn d).2 hc⟩
theorem LC(k:jk f g){d:ak}(hw:Wf d)(KH:Wf (d.1.map f,d.2.map g))(hg:bK d=0):bK (d.1.map f,d.2.map g)=0:=by obtain⟨R,hr⟩:=tf hw;have h:=(iC hw hr).1 hg;rw[iC KH (k.Dv hr)];have hd:Vs.aj (d.1.map f)=Vs.aj d.1:=k.aj d.1;have a:=bH hw;have b:=bH KH;have hc:(bR (d.1.map f,d.2.map g)).length=(bR d).length :=EV.count (D:=Vs.aj (d.1.map f)) KH.rw.n b ⟨fun c hc=>(a.c c hc).congr fun z hz=>k.ph d z,a.p.trans (List.Perm.of_eq hd.symm)⟩;have f1:ft d=(bR d).length+Vs.al d.1:=rfl;have f2:ft (d.1.map f,d.2.map g)=(bR (d.1.map f,d.2.map g)).length+Vs.al (d.1.map f):=rfl;have hal:Vs.al (d.1.map f)=Vs.al d.1:=k.al d.1;show(d.1.map f).length+_=_+(d.2.map g).length;rw[List.length_map,List.length_map];omega
theorem Pe(o:aY):jk (mU o) (rG o):=by
 refine⟨fun v=>?_,fun v=>?_,fun a=>?_⟩
 ·unfold mU;split
  ·split<;>rfl
  ·rfl
 ·unfold mU;split
  ·split<;>rfl
  ·rfl
 ·unfold rG;split
  ·split<;>rfl
  ·rfl
end Go.Vs
namespace Go.Vs
open Go.Proofs Go.Cy
def hd(l:List ab):ab:=l.head?.getD zD
theorem Fa{f g:ab→ab}{φ:ab→List ab}(hn:∀z,φ z≠[]):∀{c:List ab} {y:ab},(∀z∈c,Path g (φ z) (hd (φ (f z))))→Path f c y→Path g (c.flatMap φ) (hd (φ y))
 |[],y,_,_=>trivial
 |a::r,y,hp,h=>by
  obtain⟨h1,h2⟩:f a=r.head?.getD y∧Path f r y:=h;have ih:=Fa hn (fun z hz=>hp z (abq _ hz)) h2;rw[List.flatMap_cons];refine Path.app.2 ⟨?_,ih⟩;have:=hp a abZ;rw[h1]at this
  cases r with
  |nil=>exact this
  |cons b r =>
   have e:((b::r).flatMap φ).head?.getD (hd (φ y))=hd (φ b):=by
    rw[List.flatMap_cons]
    cases hb:φ b with
    |nil=>exact absurd hb (hn b)
    |cons q s=>rfl
   rw[e];exact this
theorem SS{f g:ab→ab}{φ:ab→List ab}(hn:∀z,φ z≠[]){c:List ab}(hp:∀z∈c,Path g (φ z) (hd (φ (f z))))(h:jL f c):jL g (c.flatMap φ):=by
 cases c with
 |nil=>exact h.elim
 |cons x r =>
  have h':Path f (x::r) x:=h;have:=Fa hn hp h';rw[List.flatMap_cons]at this ⊢
  cases hx:φ x with
  |nil=>exact absurd hx (hn x)
  |cons q s =>rw[hx]at this;exact this
structure Sub(s t:ak)(v:ID)(m k:ab)(u w:ID):Prop where
 ws:Wf s
 wt:Wf t
 mm:m∈aj s.1
 kn:k∉aj s.1
 ok:ag k∉aj s.1
 kk:k≠ag k
 k2:k.2=0∨k.2=1
 p:(aj t.1).Perm (k::ag k::aj s.1)
 pm:∀z∈aj s.1,z≠ag m→ph t z=if ph s z=m then ag k else ph s z
 po:ph t (ag m)=k
 pk:ph t k=if ph s (ag m)=m then ag k else ph s (ag m)
 pq:ph t (ag k)=m
 am:ed s m=some u
 ao:ed s (ag m)=some w
 at_:∀z∈aj s.1,z≠m→ed t z=ed s z
 tm:ed t m=some v
 tk:ed t k=some v
 tq:ed t (ag k)=some u
 vs:∀r,(∃x∈t.1,x.1=r)↔r=v∨∃x∈s.1,x.1=r
 nv:∀x∈s.1,x.1≠v
 len:t.1.length=s.1.length+1
 al:al t.1=al s.1
variable {s t:ak} {v:ID} {m k:ab} {u w:ID}
def oZ(m k:ab)(z:ab):List ab:=if z=m then[ag k,m] else if z=ag m then[ag m,k] else[z]
theorem VD(m k z:ab):oZ m k z≠[]:=by
 unfold oZ;by_cases e:z=m
 ·rw[if_pos e];simp
 ·rw[if_neg e];by_cases e2:z=ag m
  ·rw[if_pos e2];simp
  ·rw[if_neg e2];simp
theorem Sub.om(h:Sub s t v m k u w):ag m∈aj s.1:=h.ws.other h.mm
theorem o4{m:ab}(h:m.2=0∨m.2=1):ag m≠m:=fun e=>by obtain⟨_,k⟩:=gN h;rw[e]at k;rcases k with⟨a,b⟩|⟨a,b⟩<;>omega
theorem YW(h:Sub s t v m k u w)(y:ab):hd (oZ m k y)=if y=m then ag k else y:=by
 unfold oZ;by_cases e:y=m
 ·rw[if_pos e,if_pos e];rfl
 ·rw[if_neg e,if_neg e];by_cases e2:y=ag m
  ·rw[if_pos e2,e2];rfl
  ·rw[if_neg e2];rfl
theorem Sub.bR(h:Sub s t v m k u w):(Vs.bR t).length=(Vs.bR s).length:=by
 have a:=bH h.ws;have b:=bH h.wt;have VF:=o4 (h.ws.side h.mm);have cyc:∀c∈Vs.bR s,jL (ph t) (c.flatMap (oZ m k)):=fun c hc=>by
  refine SS (VD m k) (fun z hz=>?_) (a.c c hc);have hz:z∈aj s.1:=a.p.mem_iff.1 (adN.2 ⟨c,hc,hz⟩);rw[YW h];unfold oZ;by_cases e:z=m
  ·rw[if_pos e,e];exact⟨h.pq,h.pm m h.mm (fun q=>VF q.symm),trivial⟩
  ·rw[if_neg e];by_cases e2:z=ag m
   ·rw[if_pos e2,e2];exact⟨h.po,h.pk,trivial⟩
   ·rw[if_neg e2];exact⟨h.pm z hz e2,trivial⟩
 have perm:((Vs.bR s).map (·.flatMap (oZ m k))).flatten.Perm (aj t.1):=by
  have e:((Vs.bR s).map (·.flatMap (oZ m k))).flatten=(Vs.bR s).flatten.flatMap (oZ m k):=by
   have:∀L:List (List ab),(L.map (·.flatMap (oZ m k))).flatten=L.flatten.flatMap (oZ m k):=by
    intro L
    induction L with
    |nil=>rfl
    |cons a L ih=>rw[List.map_cons,List.flatten_cons,List.flatten_cons,List.flatMap_append,ih]
   exact this _
  rw[e];refine(a.p.flatMap_right (oZ m k)).trans ((?_:((aj s.1).flatMap (oZ m k)).Perm _).trans h.p.symm);have nd:=h.ws.rw.n;obtain⟨r1,Zk⟩:∃r1,(aj s.1).Perm (m::r1):=⟨_,List.perm_cons_erase h.mm⟩;have hm1:ag m∈r1:=(abw.1 (Zk.mem_iff.1 h.om)).resolve_left VF;obtain⟨r2,JJ⟩:∃r2,r1.Perm (ag m::r2):=⟨_,List.perm_cons_erase hm1⟩;have hp:(aj s.1).Perm (m::ag m::r2):=Zk.trans (List.Perm.cons _ JJ);have nd2:=hp.nodup_iff.1 nd;have br:r2.flatMap (oZ m k)=r2:=by
   have:∀l:List ab,(∀z∈l,z≠m∧z≠ag m)→l.flatMap (oZ m k)=l:=by
    intro l
    induction l with
    |nil=>intro _;rfl
    |cons z l ih =>intro hl;obtain⟨h1,h2⟩:=hl z abZ;rw[List.flatMap_cons,ih fun y hy=>hl y (List.mem_cons_of_mem _ hy)];unfold oZ;rw[if_neg h1,if_neg h2];rfl
   refine this r2 fun z hz=>⟨fun e=>?_,fun e=>?_⟩
   ·subst e;exact(ab6.1 nd2).1 (abq _ hz)
   ·subst e;exact(ab6.1 (ab6.1 nd2).2).1 hz
  refine(hp.flatMap_right (oZ m k)).trans ?_;rw[List.flatMap_cons,List.flatMap_cons,br];have e1:oZ m k m=[ag k,m]:=if_pos rfl;have e2:oZ m k (ag m)=[ag m,k]:=by unfold oZ;rw[if_neg VF,if_pos rfl]
  rw[e1,e2];refine List.Perm.trans ?_ (List.Perm.cons k (List.Perm.cons (ag k) hp.symm));show(ag k::m::ag m::k::r2).Perm (k::ag k::m::ag m::r2);exact(adR (l₁:=[ag k,m,ag m]) (l₂:=r2) (a:=k))
 have:=EV.count h.wt.rw.n b ⟨fun c hc=>by obtain⟨c0,h1,rfl⟩:=acx.1 hc;exact cyc c0 h1,perm⟩;rw[List.length_map]at this;exact this
theorem Sub.MW(h:Sub s t v m k u w){a b:ID}(c:cg s a b):cg t a b:=by
 have dt:∀z∈aj s.1,z∈aj t.1:=fun z hz=>h.p.mem_iff.2 (abq _ (abq _ hz));have VF:=o4 (h.ws.side h.mm);have hqt:ag k∈aj t.1:=h.p.mem_iff.2 (by simp);have uv:y0 t u v:=⟨ag k,hqt,h.tq,by rw[bP h.k2];exact h.tk⟩;have vw:y0 t v w:=⟨m,dt m h.mm,h.tm,by rw[h.at_ _ h.om VF];exact h.ao⟩;have uw:cg t u w:=uv.conn.trans vw.conn
 induction c with
 |refl=>exact .refl _
 |tail _ j ih =>
  refine ih.trans ?_;obtain⟨z,hz,h1,h2⟩:=j;by_cases e:z=m
  ·subst e;rw[h.am]at h1;rw[h.ao]at h2
   cases h1;cases h2
   exact uw
  ·by_cases e2:z=ag m
   ·subst e2;rw[h.ao]at h1;rw[bP (h.ws.side h.mm),h.am]at h2
    cases h1;cases h2
    exact uw.symm h.wt
   ·have e3:ag z≠m:=fun q=>e2 (by rw[←q,bP (h.ws.side hz)]);exact y0.conn ⟨z,dt z hz,by rw[h.at_ z hz e];exact h1,by rw[h.at_ _ (h.ws.other hz) e3];exact h2⟩
theorem Sub.VG(h:Sub s t v m k u w){a b:ID}(c:cg t a b):cg s (if a=v then u else a) (if b=v then u else b):=by
 have VF:=o4 (h.ws.side h.mm);have uw:cg s u w:=y0.conn ⟨m,h.mm,h.am,h.ao⟩;have vof:∀{z x},z∈aj s.1→ed s z=some x→x≠v:=fun {z x} hz hx=>by obtain⟨y,hy,_,h2⟩:=rM h.ws hz;rw[h2]at hx;cases hx;exact h.nv y hy
 have hu:=vof h.mm h.am;have hw:=vof h.om h.ao
 induction c with
 |refl=>exact .refl _
 |tail _ j ih =>
  refine ih.trans ?_;obtain⟨z,hz,h1,h2⟩:=j;have AE:=h.p.mem_iff.1 hz;rcases abw.1 AE with rfl|AE
  ·rw[h.tk]at h1;rw[h.tq]at h2
   cases h1;cases h2
   rw[if_pos rfl,if_neg hu];exact .refl _
  ·rcases abw.1 AE with rfl|AE
   ·rw[h.tq]at h1;rw[bP h.k2,h.tk]at h2
    cases h1;cases h2
    rw[if_neg hu,if_pos rfl];exact .refl _
   ·by_cases e:z=m
    ·subst e;rw[h.tm]at h1;rw[h.at_ _ h.om VF,h.ao]at h2
     cases h1;cases h2
     rw[if_pos rfl,if_neg hw];exact uw
    ·by_cases e2:z=ag m
     ·subst e2;rw[h.at_ _ h.om VF,h.ao]at h1;rw[bP (h.ws.side h.mm),h.tm]at h2
      cases h1;cases h2
      rw[if_neg hw,if_pos rfl];exact uw.symm h.ws
     ·have e3:ag z≠m:=fun q=>e2 (by rw[←q,bP (h.ws.side AE)]);rw[h.at_ z AE e]at h1;rw[h.at_ _ (h.ws.other AE) e3]at h2;rw[if_neg (vof AE h1),if_neg (vof (h.ws.other AE) h2)];exact y0.conn ⟨z,AE,h1,h2⟩
theorem Sub.Dv(h:Sub s t v m k u w){R:List ID}(hr:nT s R):nT t R:=by
 refine⟨hr.n,fun r hrm=>(h.vs r).2 (.inr (hr.v r hrm)),fun r h1 q h2 c=>?_,fun x hx=>?_⟩
 ·obtain⟨x,hx,V8⟩:=hr.v r h1;obtain⟨y,hy,hyq⟩:=hr.v q h2;have:=h.VG c;rw[if_neg (by rw[←V8];exact h.nv x hx),if_neg (by rw[←hyq];exact h.nv y hy)]at this;exact hr.i r h1 q h2 this
 ·rcases (h.vs x.1).1 ⟨x,hx,rfl⟩ with e|⟨y,hy,e⟩
  ·obtain⟨y,hy,_,hyu⟩:=rM h.ws h.mm;rw[h.am]at hyu;obtain⟨r,hrm,hc⟩:=hr.c y hy;refine⟨r,hrm,?_⟩;rw[e];have hqt:ag k∈aj t.1:=h.p.mem_iff.2 (by simp);have uv:y0 t u v:=⟨ag k,hqt,h.tq,by rw[bP h.k2];exact h.tk⟩;have e2:u=y.1:=ab5 hyu;exact(uv.symm h.wt).conn.trans (e2▸h.MW hc)
  ·obtain⟨r,hrm,hc⟩:=hr.c y hy;exact⟨r,hrm,e▸h.MW hc⟩
theorem SU(h:Sub s t v m k u w):bK s=0↔bK t=0:=by obtain⟨R,hr⟩:=tf h.ws;rw[iC h.ws hr,iC h.wt (h.Dv hr)];have h1:=qi h.ws;have h2:=qi h.wt;have h3:=h.p.length_eq;have h4:=h.bR;have h5:=h.al;have h6:=h.len;have f1:ft s=(Vs.bR s).length+Vs.al s.1:=rfl;have f2:ft t=(Vs.bR t).length+Vs.al t.1:=rfl;simp at h3;omega
end Go.Vs
namespace Go.Vs
open Go.Proofs Go.Cy
structure Fr(s t:ak)(v:ID)(m k:ab)(uS uT vV:ai):Prop where
 ws:Wf s
 wt:Wf t
 mem:∀y,y∈t.1↔y=vV∨(y∈s.1∧y.1≠uS.1)∨y=uT
 us:uS∈s.1
 ui:uT.1=uS.1
 vi:vV.1=v
 vr:vV.2.1=[m,k]∨vV.2.1=[k,m]
 mm:m∈uS.2.1
 k2:k.2=0∨k.2=1
 kn:k∉aj s.1
 ok:ag k∉aj s.1
 nx:∀z∈uS.2.1,(if z=m then ag k else z)∈uT.2.1∧c6 uT.2.1 (if z=m then ag k else z)=(if c6 uS.2.1 z=m then ag k else c6 uS.2.1 z)
 p:(aj t.1).Perm (k::ag k::aj s.1)
 nv:∀x∈s.1,x.1≠v
 len:t.1.length=s.1.length+1
 al:al t.1=al s.1
theorem xZ{m k:ab}(h:m≠k):c6 [m,k] m=k∧c6 [m,k] k=m:=by
 have hn:[m,k].Nodup:=by simp[h]
 have a:=oU hn (i:=0) (x:=m) rfl;have b:=oU hn (i:=1) (x:=k) rfl;exact⟨a,by rw[b];simp⟩
variable {s t:ak} {v:ID} {m k:ab} {uS uT vV:ai}
theorem Fr.sub(h:Fr s t v m k uS uT vV):∃w,Sub s t v m k uS.1 w:=by
 have K2:m∈aj s.1:=aT.2 ⟨uS,h.us,h.mm⟩;have hod:ag m∈aj s.1:=h.ws.other K2;have VF:=o4 (h.ws.side K2);have Ko:m≠k:=fun e=>h.kn (e▸K2);obtain⟨w,hw⟩:=acv.1 (Cx hod);have hvt:vV∈t.1:=(h.mem vV).2 (.inl rfl);have VH:uT∈t.1:=(h.mem uT).2 (.inr (.inr rfl));have rs:=h.ws.rw;have rt:=h.wt.rw;have TA:m∈vV.2.1:=by rcases h.vr with e|e<;>rw[e]<;>simp
 have Zv:k∈vV.2.1:=by rcases h.vr with e|e<;>rw[e]<;>simp
 have sm:sg t m=k∧sg t k=m:=by
  rw[jh rt hvt TA,jh rt hvt Zv];rcases h.vr with e|e
  ·rw[e];exact xZ Ko
  ·rw[e];exact⟨(xZ (Ne.symm Ko)).2,(xZ (Ne.symm Ko)).1⟩
 have hqu:ag k∈uT.2.1:=by have:=(h.nx m h.mm).1;rwa [if_pos rfl]at this
 have pl:∀z∈aj s.1,(∃y,y∈s.1∧z∈y.2.1∧y∈t.1∧z≠m∧sg s z≠m)∨z∈uS.2.1:=fun z hz=>by
  obtain⟨y,hy,MV⟩:=aT.1 hz;by_cases e:y.1=uS.1
  ·have:=IV h.ws.sv h.us hy e;subst this;exact .inr MV
  ·refine .inl ⟨y,hy,MV,(h.mem y).2 (.inr (.inl ⟨hy,e⟩)),fun q=>?_,fun q=>?_⟩
   ·subst q;exact e (congrArg Prod.fst (rs.one h.us hy h.mm MV))
   ·rw[jh rs hy MV]at q;have:=kd (rs.ring hy) MV;rw[q]at this;exact e (congrArg Prod.fst (rs.one h.us hy h.mm this))
 have sgm:∀z∈aj s.1,sg t (if z=m then ag k else z)=if sg s z=m then ag k else sg s z:=fun z hz=>by
  rcases pl z hz with⟨y,hy,MV,hyt,h1,h2⟩|Du
  ·rw[if_neg h1,if_neg h2,jh rt hyt MV,jh rs hy MV]
  ·obtain⟨n1,n2⟩:=h.nx z Du;rw[jh rt VH n1,jh rs h.us Du];exact n2
 have up:∀z∈aj s.1,z∈aj t.1:=fun z hz=>h.p.mem_iff.2 (abq _ (abq _ hz));have kt:k∈aj t.1:=h.p.mem_iff.2 (by simp);have qt:ag k∈aj t.1:=h.p.mem_iff.2 (by simp);refine⟨w,h.ws,h.wt,K2,h.kn,h.ok,(fun e=>o4 h.k2 e.symm),h.k2,h.p,fun z hz hzo=>?_,?_,?_,?_,?_,hw,fun z hz hzm=>?_,?_,?_,?_,fun r=>?_,h.nv,h.len,h.al⟩
 ·rw[ji (up z hz),ji hz];have aW:ag z≠m:=fun e=>hzo (by rw[←e,bP (h.ws.side hz)]);have:=sgm (ag z) (h.ws.other hz)
  rwa [if_neg aW]at this
 ·rw[ji (up _ hod),bP (h.ws.side K2)];exact sm.1
 ·rw[ji kt,ji hod,bP (h.ws.side K2)];have:=sgm m K2
  rwa [if_pos rfl]at this
 ·rw[ji qt,bP h.k2];exact sm.2
 ·exact dS rs h.us h.mm
 ·rcases pl z hz with⟨y,hy,MV,hyt,_,_⟩|Du
  ·exact(dS rt hyt MV).trans (dS rs hy MV).symm
  ·have n1:=(h.nx z Du).1;rw[if_neg hzm]at n1;refine(dS rt VH n1).trans ((congrArg some h.ui).trans (dS rs h.us Du).symm)
 ·exact(dS rt hvt TA).trans (congrArg some h.vi)
 ·exact(dS rt hvt Zv).trans (congrArg some h.vi)
 ·exact(dS rt VH hqu).trans (congrArg some h.ui)
 ·constructor
  ·rintro⟨x,hx,rfl⟩;rcases (h.mem x).1 hx with rfl|⟨h1,_⟩|rfl
   ·exact .inl h.vi
   ·exact .inr ⟨x,h1,rfl⟩
   ·exact .inr ⟨uS,h.us,h.ui.symm⟩
  ·rintro(rfl|⟨x,hx,rfl⟩)
   ·exact⟨vV,hvt,h.vi⟩
   ·by_cases e:x.1=uS.1
    ·exact⟨uT,VH,h.ui.trans e.symm⟩
    ·exact⟨x,(h.mem x).2 (.inr (.inl ⟨hx,e⟩)),rfl⟩
theorem Fr.flat(h:Fr s t v m k uS uT vV):bK s=0↔bK t=0:=by obtain⟨w,hs⟩:=h.sub;exact SU hs
def o6(m q z:ab):ab:=if z=m then q else z
theorem GD{row:List ab}(hn:row.Nodup){j:Nat}{m:ab}(hj:row[j]? = some m)(q:ab):row.set j q=row.map (o6 m q):=by
 apply adQ;intro i;rw[List.getElem?_set,List.getElem?_map];by_cases e:j=i
 ·subst e;have:=(abr.1 hj).1;rw[if_pos rfl,if_pos this,hj];simp[o6]
 ·rw[if_neg e]
  cases hi:row[i]? with
  |none=>rfl
  |some x =>
   have:x≠m:=fun k=>by subst k;exact e (xN hn hj hi)
   simp[o6,this]
theorem Jn{f g:ab→ab}{r:ab→ab}:∀{c:List ab} {y:ab},(∀z∈c,g (r z)=r (f z))→Path f c y→Path g (c.map r) (r y)
 |[],_,_,_=>trivial
 |a::c,y,h,p=>by
  obtain⟨h1,h2⟩:f a=c.head?.getD y∧Path f c y:=p;refine⟨?_,Jn (fun z hz=>h z (abq _ hz)) h2⟩;rw[h a List.mem_cons_self,h1]
  cases c<;>rfl
theorem VI{f g:ab→ab}{r:ab→ab}{c:List ab}(h:∀z∈c,g (r z)=r (f z))(hc:jL f c):jL g (c.map r):=by
 cases c with
 |nil=>exact hc.elim
 |cons x c=>exact Jn (y:=x) h hc
theorem qj{row:List ab}(hn:row.Nodup){m q:ab}(hm:m∈row)(hq:q∉row){z:ab}(hz:z∈row):o6 m q z∈gx row m q∧c6 (gx row m q) (o6 m q z)=o6 m q (c6 row z):=by
 obtain⟨j,h1,h2,_⟩:=jE hm;have e:gx row m q=cq (row.map (o6 m q)):=by unfold gx;rw[if_pos ⟨hm,hq⟩,h1,Int.toNat_natCast,GD hn h2]
 have gW:o6 m q z∈row.map (o6 m q):=acx.2 ⟨z,hz,rfl⟩;have nd:(row.map (o6 m q)).Nodup:=by rw[←GD hn h2];exact OO hn h2 hq
 rw[e];refine⟨oL.2 gW,?_⟩;have nd2:(cq (row.map (o6 m q))).Nodup:=(j7 _).nodup_iff.2 nd;have c1:jL (c6 (cq (row.map (o6 m q)))) (row.map (o6 m q)):=by obtain⟨i,hi,he⟩:=yY (row.map (o6 m q));have:=rK nd2 (ad6 (oL.2 gW));rw[he]at this ⊢;exact IX this
 have back:∀y∈row,o6 q m (o6 m q y)=y:=fun y hy=>by
  unfold o6;by_cases a:y=m
  ·rw[if_pos a,if_pos rfl,a]
  ·rw[if_neg a,if_neg (fun kk:y=q=>hq (kk▸hy))]
 have c2:jL (fun y=>o6 m q (c6 row (o6 q m y))) (row.map (o6 m q)):=by refine VI (fun y hy=>?_) (rK hn (ad6 hz));show o6 m q (c6 row (o6 q m (o6 m q y)))=_;rw[back y hy]
 have:=EY c1 c2 _ gW;rw[this];show o6 m q (c6 row (o6 q m (o6 m q z)))=_;rw[back z hz]
end Go.Vs
namespace Go.Vs
open Go.Proofs Go.Cy
theorem MX(v:ai):∀l:List ai,al (cW v l)=al (v::l)
 |[]=>rfl
 |w::r=>by
  have ih:=MX v r;unfold cW
  split
  ·rfl
  ·unfold al at ih ⊢;rw[List.countP_cons,ih,List.countP_cons,List.countP_cons,List.countP_cons];omega
theorem ya(a b:List ai)(v:ai):al (a++v::b)=al a+(if v.2.1.isEmpty then 1 else 0)+al b:=by
 rw[GC];have:al (v::b)=al b+if v.2.1.isEmpty then 1 else 0:=by unfold al;rw[List.countP_cons]
 omega
theorem yc{l:List ab}{x:ab}(h:x∈l):l.isEmpty=false:=by cases l with
 |nil=>cases h
 |cons _ _=>rfl
theorem Pf{row:List ab}(hn:row.Nodup){m q:ab}(hm:m∈row)(hq:q∉row){z:ab}(hz:z∈gx row m q):∃y∈row,z=o6 m q y:=by obtain⟨j,h1,h2,_⟩:=jE hm;unfold gx at hz;rw[if_pos ⟨hm,hq⟩,h1,Int.toNat_natCast,GD hn h2]at hz;obtain⟨y,hy,e⟩:=acx.1 (oL.1 hz);exact⟨y,hy,e.symm⟩
theorem SV{d:ak}(h:Wf d){m k:ab}{v:ID}(Um:m.2=0∨m.2=1)(mY:k.2=0∨k.2=1)(hm:(aV d.2 m.1).isSome=true)(JZ:aL d.1 v=none)(Ye:aV d.2 k.1=none) (ht:Wf (cW (v,(cq [m,k],(e0,0))) (aw d m (ag k)).1,fg (k.1,(e0,0)) (aw d m (ag k)).2)) :
  ∃uS uT vV,Fr d (cW (v,(cq [m,k],(e0,0))) (aw d m (ag k)).1,fg (k.1,(e0,0)) (aw d m (ag k)).2) v m k uS uT vV:=by
 have K2:m∈aj d.1:=h.mL hm Um;have Eg:ag k∉aj d.1:=h.ta Ye _;have hkn:k∉aj d.1:=h.ta Ye _;obtain⟨p1,q1⟩:=jK h.rw K2 Eg;obtain⟨uS,hu,Xu⟩:=aT.1 K2;have hqu:ag k∉uS.2.1:=fun e=>Eg (aT.2 ⟨uS,hu,e⟩);obtain⟨a,b,e1,e2,_,e4⟩:=mK h.sv hu;obtain⟨uT,VH⟩:∃uT:ai,uT=(uS.1,(gx uS.2.1 m (ag k),uS.2.2)):=⟨_,rfl⟩;have es:(aw d m (ag k)).1=a++uT::b:=by rw[p7 h.rw _ hu Xu,VH];exact e4 _
 have nd:=h.rw.ring hu;have hmT:ag k∈uT.2.1:=by
  have:=(qj nd Xu hqu Xu).1;rw[VH];unfold o6 at this
  rwa [if_pos rfl]at this
 refine⟨uS,uT,(v,(cq [m,k],(e0,0))),h,ht,fun y=>?_,hu,by rw[VH],rfl,RX m k,Xu,mY,hkn,Eg,fun z hz=>?_,?_,fun x hx e=>?_,?_,?_⟩
 ·show y∈cW _ (aw d m (ag k)).1↔_;rw[jG,es,e1];constructor
  ·rintro(k1|k1)
   ·exact .inl k1
   ·rcases ab0.1 k1 with k1|k1
    ·exact .inr (.inl ⟨abK _ k1,e2 y (abK _ k1)⟩)
    ·rcases abw.1 k1 with k1|k1
     ·exact .inr (.inr k1)
     ·exact .inr (.inl ⟨abx _ (abq _ k1),e2 y (abx _ k1)⟩)
  ·rintro(k1|⟨k1,k2⟩|k1)
   ·exact .inl k1
   ·refine .inr ?_;rcases ab0.1 k1 with k1|k1
    ·exact abK _ k1
    ·rcases abw.1 k1 with k1|k1
     ·subst k1;exact absurd rfl k2
     ·exact abx _ (abq _ k1)
   ·rw[k1];exact .inr (abx _ abZ)
 ·rw[VH];exact qj nd Xu hqu hz
 ·show(aj (cW _ (aw d m (ag k)).1)).Perm _;refine(uJ _ _).trans ((ada _ (j7 [m,k])).trans ?_);show(m::k::aj (aw d m (ag k)).1).Perm _;exact(List.Perm.swap k m _).trans (List.Perm.cons k p1.symm)
 ·have:=jJ h.sv hx;rw[e,JZ]at this;cases this
 ·show(cW _ (aw d m (ag k)).1).length=_;rw[eW,es,e1];simp
 ·show al (cW _ (aw d m (ag k)).1)=_;rw[MX,es,e1];have z1:al ((v,(cq [m,k],((e0,0):ByteArray×Int)))::(a++uT::b))=al (a++uT::b):=by have:=ya [] (a++uT::b) (v,(cq [m,k],(e0,0)));rw[List.nil_append]at this;rw[this,if_neg (by rw[yc (x:=m) (oL.2 (by simp))];simp)];show al []+0+_=_;have:al []=0:=rfl;omega
  rw[z1,ya,ya,yc hmT,yc Xu]
theorem Pg{d:ak}(h:Wf d){vV:ai}{a b:ab}(hv:vV∈d.1)(hr:vV.2.1=[a,b]∨vV.2.1=[b,a])(yS:a.1≠b.1)(hs:Wf (aI (aw (aI d vV.1 zI) (ag b) a) zI b.1)) :
  ∃uS uT,Fr (aI (aw (aI d vV.1 zI) (ag b) a) zI b.1) d vV.1 a b uS uT vV:=by
 have hrp:vV.2.1.Perm [a,b]:=by
  rcases hr with e|e
  ·rw[e]
  ·rw[e];exact List.Perm.swap _ _ _
 obtain⟨p,q,h1,aW,h2,_⟩:=mK h.sv hv;have pd:(aj d.1).Perm (a::b::aj (p++q)):=by have:=(gM p q vV).trans (ada _ hrp);rw[←h1]at this;exact this
 have K3:aI d vV.1 zI=(p++q,d.2):=by unfold aI;rw[h2,qb h.ge]
 have zQ:=pd.nodup_iff.1 h.rw.n;have hbd:b∈aj d.1:=pd.mem_iff.2 (by simp);have zK:=h.side hbd;have OM:ag b∈aj (p++q):=by
  have h3:=h.other hbd;rcases abw.1 (pd.mem_iff.1 h3) with k|k
  ·exact absurd (congrArg Prod.fst k) (fun k=>yS k.symm)
  rcases abw.1 k with k|k
  ·exact absurd k (o4 zK)
  ·exact k
 have Gl:Rw (p++q):=⟨by rw[←h2];exact mI h.sv,(ab6.1 (ab6.1 zQ).2).2⟩;have ha:a∉aj (p++q):=fun k=>(ab6.1 zQ).1 (abq _ k);rw[K3]at hs ⊢;obtain⟨p1,q1⟩:=jK (d:=(p++q,d.2)) Gl OM ha;have Mx:∀w∈(aw (p++q,d.2) (ag b) a).1,GV w:=by
  refine qa (d:=(p++q,d.2)) (fun w hw=>h.gv w ?_) _ _;rw[h1];rcases ab0.1 hw with k|k
  ·exact abK _ k
  ·exact abx _ (abq _ k)
 have My:(aI (aw (p++q,d.2) (ag b) a) zI b.1).1=(aw (p++q,d.2) (ag b) a).1:=sY Mx;obtain⟨uT,hu,Zw⟩:=aT.1 OM;have hau:a∉uT.2.1:=fun e=>ha (aT.2 ⟨uT,hu,e⟩);obtain⟨l,r,e1,e2,_,e4⟩:=mK Gl.s hu;obtain⟨uS,Hd⟩:∃uS:ai,uS=(uT.1,(gx uT.2.1 (ag b) a,uT.2.2)):=⟨_,rfl⟩;have es:(aw (p++q,d.2) (ag b) a).1=l++uS::r:=by rw[p7 (d:=(p++q,d.2)) Gl _ hu Zw,Hd];exact e4 _
 have nd:=Gl.ring hu;have hmS:a∈uS.2.1:=by
  have:=(qj nd Zw hau Zw).1;rw[Hd];unfold o6 at this
  rwa [if_pos rfl]at this
 have back:∀y∈uT.2.1,o6 a (ag b) (o6 (ag b) a y)=y:=fun y hy=>by
  unfold o6;by_cases c:y=ag b
  ·rw[if_pos c,if_pos rfl,c]
  ·rw[if_neg c,if_neg (fun kk:y=a=>hau (kk▸hy))]
 have hp:(aj d.1).Perm (b::ag b::aj (aI (aw (p++q,d.2) (ag b) a) zI b.1).1):=by rw[My];exact pd.trans ((List.Perm.swap b a _).trans (List.Perm.cons b p1))
 have ac8:=hp.nodup_iff.1 h.rw.n;have YX:∀y,y∈(aI (aw (p++q,d.2) (ag b) a) zI b.1).1↔y∈l++uS::r:=fun y=>by rw[My,es]
 refine⟨uS,uT,hs,h,fun y=>?_,(YX uS).2 (abx _ abZ),by rw[Hd],rfl,hr,hmS,zK,fun e=>?_,fun e=>?_,fun z hz=>?_,hp,fun x hx=>?_,?_,?_⟩
 ·rw[h1,YX];have zo:y∈p++vV::q↔y=vV∨y∈p++q:=by
   simp only[List.mem_append,List.mem_cons];constructor
   ·rintro(c|c|c)
    ·exact .inr (.inl c)
    ·exact .inl c
    ·exact .inr (.inr c)
   ·rintro(c|c|c)
    ·exact .inr (.inl c)
    ·exact .inl c
    ·exact .inr (.inr c)
  rw[zo,e1];have VB:uS.1=uT.1:=by rw[Hd]
  constructor
  ·rintro(c|c)
   ·exact .inl c
   ·rcases ab0.1 c with c|c
    ·exact .inr (.inl ⟨abK _ c,by rw[VB];exact e2 y (abK _ c)⟩)
    ·rcases abw.1 c with c|c
     ·exact .inr (.inr c)
     ·exact .inr (.inl ⟨abx _ (abq _ c),by rw[VB];exact e2 y (abx _ c)⟩)
  ·rintro(c|⟨c,c2⟩|c)
   ·exact .inl c
   ·refine .inr ?_;rcases ab0.1 c with c|c
    ·exact abK _ c
    ·rcases abw.1 c with c|c
     ·subst c;exact absurd rfl c2
     ·exact abx _ (abq _ c)
   ·rw[c];exact .inr (abx _ abZ)
 ·exact(ab6.1 ac8).1 (abq _ e)
 ·exact(ab6.1 (ab6.1 ac8).2).1 e
 ·rw[Hd]at hz;obtain⟨y,hy,rfl⟩:=Pf nd Zw hau hz;have n1:=(qj nd Zw hau hy).2;have n2:c6 uS.2.1 (o6 (ag b) a y)=o6 (ag b) a (c6 uT.2.1 y):=by rw[Hd];exact n1
  have b1:=back y hy;have b2:=back _ (kd nd hy);show o6 a (ag b) (o6 (ag b) a y)∈uT.2.1∧c6 uT.2.1 (o6 a (ag b) (o6 (ag b) a y))=o6 a (ag b) (c6 uS.2.1 (o6 (ag b) a y));rw[b1,n2,b2];exact⟨hy,rfl⟩
 ·have hx:=(YX x).1 hx;have:∃y∈p++q,y.1=x.1:=by
   rw[e1];rcases ab0.1 hx with c|c
   ·exact⟨x,abK _ c,rfl⟩
   ·rcases abw.1 c with c|c
    ·exact⟨uT,abx _ abZ,by rw[c,Hd]⟩
    ·exact⟨x,abx _ (abq _ c),rfl⟩
  obtain⟨y,hy,e⟩:=this;rw[←e];exact aW y hy
 ·rw[My,es,h1];have:=congrArg List.length e1;simp at this ⊢;omega
 ·rw[My,es,h1];have z1:=ya p q vV;have z2:=ya l r uS;have z3:=ya l r uT;have z4:=GC p q;rw[e1]at z4;rw[yc (hrp.mem_iff.2 (by simp):a∈vV.2.1)]at z1;rw[yc hmS]at z2;rw[yc Zw]at z3;simp at z1 z2 z3;omega
theorem bI:bK zS.1=0:=by have hr:nT zS.1 []:=⟨List.nodup_nil,fun r h=>(by cases h),fun r h=>(by cases h),fun v h=>(by cases h)⟩;rw[iC Wf.zero hr];rfl
theorem SW{s:StateT}(h:dM s)(hg:bK s.1=0)(o:aY):bK (oQ s o).1.1=0:=by
 have hw:=(h.one o).d;unfold oQ at hw ⊢
 split
 ·exact bI
 rename_i hm;rw[if_neg hm]at hw;have hm:cX o=0:=Classical.byContradiction fun k=>hm k
 split
 ·rename_i h1;rw[if_pos h1]at hw;unfold qy at hw ⊢
  split
  ·exact bI
  rename_i k1;rw[if_neg k1]at hw
  split
  ·exact bI
  rename_i k2;rw[if_neg k2]at hw;exact Pd h.d (by simpa[cd] using k1) hw hg
 rename_i h1;rw[if_neg h1]at hw
 split
 ·unfold yV
  cases hv:cd s.1 (bu o) with
  |none=>exact bI
  |some v =>
   simp only
   split
   ·exact bI
   ·rename_i hr;have hl:Lone s.1 v:=⟨h.d,eO hv,by simpa using hr⟩;have:=(E9 hl).1 hg;rw[iz hv]at this;exact this
 rename_i h2;rw[if_neg h2]at hw
 split
 ·unfold rH
  split;· exact bI
  split;· exact bI
  split;· exact bI
  split;· exact bI
  split;· exact bI
  rename_i k;exact Classical.byContradiction fun q=>k q
 rename_i h3;rw[if_neg h3]at hw
 split
 ·unfold IG
  split;· exact bI
  rename_i k1;exact SR (x:=bu o) ⟨h.d,s8 k1⟩ hg
 rename_i h4;rw[if_neg h4]at hw
 split
 ·rename_i hk;rw[if_pos hk]at hw;unfold nS at hw ⊢
  split;· exact bI
  rename_i k1;rw[if_neg k1]at hw
  split;· exact bI
  rename_i k2;rw[if_neg k2]at hw
  split;· exact bI
  rename_i k3;rw[if_neg k3]at hw
  split;· exact bI
  rename_i k4;rw[if_neg k4]at hw
  split;· exact bI
  rename_i k5;rw[if_neg k5]at hw;obtain⟨m1,m2,m3,m4⟩:=xL hm hk;obtain⟨s1,s2⟩:=Cs m3 m4;obtain⟨uS,uT,vV,fr⟩:=SV (d:=s.1) (m:=TO o) (k:=Px o) (v:=fQ o) h.d s1 s2 (s8 k1) (by simpa[cd] using k2) (by simpa[nR,Px] using k3) hw;exact fr.flat.1 hg
 rename_i h5;rw[if_neg h5]at hw
 split
 ·rename_i h6;rw[if_pos h6]at hw;unfold nu at hw ⊢
  split
  ·exact bI
  ·rename_i v hv;rw[hv]at hw;have Yc:=eO hv;have Yd:=iz hv;simp only at hw
   split
   ·rename_i r0 r1 hr;rw[hr]at hw;simp only at hw;have key:∀a b:ab,(v.2.1=[a,b]∨v.2.1=[b,a])→a.1≠b.1→Wf (JN s o a b)→bK (JN s o a b)=0:=fun a b hp yS Qc=>by unfold JN at Qc ⊢;rw[←Yd]at Qc ⊢;obtain⟨uS,uT,fr⟩:=Pg h.d Yc hp yS Qc;exact fr.flat.2 hg
    unfold lC at hw ⊢
    split;· exact bI
    rename_i aW;rw[if_neg aW]at hw
    split
    ·rename_i c;rw[if_pos c]at hw;exact key r1 r0 (.inr hr) (fun k=>aW k.symm) hw
    rename_i c;rw[if_neg c]at hw
    split
    ·rename_i c2;rw[if_pos c2]at hw;exact key r0 r1 (.inl hr) aW hw
    ·exact bI
   ·exact bI
 rename_i h6;rw[if_neg h6]at hw;unfold xy at hw ⊢
 split
 ·rename_i c;rw[if_pos c]at hw;exact LC (Pe o) h.d hw hg
 ·exact bI
theorem MY:∀(l:List aY) {s:StateT},dM s→bK s.1=0→bK (Gf l s).1.1=0
 |[],s,h,hg=>hg
 |o::r,s,h,hg=>by
  unfold Gf
  split
  ·exact bI
  ·exact MY r (h.one o) (SW h hg o)
theorem LD{s:StateT}(h:dM s)(hg:bK s.1=0)(l:List aY):bK (ct s l).1.1=0:=by
 unfold ct
 split
 ·exact bI
 ·exact MY l h hg
theorem SX{s:StateT}(h:dM s)(hg:bK s.1=0)(l:List aY):bK (iy s l).1=0:=by
 unfold iy
 split
 ·exact hg
 ·exact LD h hg l
end Go.Vs
