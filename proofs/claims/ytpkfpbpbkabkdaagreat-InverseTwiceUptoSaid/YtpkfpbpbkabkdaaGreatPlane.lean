/- Whatever is done -/
import Derived.Test.YtpkfpbpbkabkdaaGreatEuler
set_option linter.unusedVariables false
set_option linter.unusedSimpArgs false
namespace Go.Vs
open Go.Proofs Go.Cy
variable {G:(f:FuncId)→(g:aX)→Option (g.A→Option g.B)}
structure Lone(d:ak)(v:ai):Prop where
 w:Wf d
 m:v∈d.1
 r:v.2.1=[]
theorem Lone.split{d:ak}{v:ai}(h:Lone d v):∃a b,d.1=a++v::b∧(aF d v.1 zI)=(a++b,d.2)∧aq (a++b) ⊆ aq d.1∧(aq d.1).Perm (aq (a++b)):=by
 obtain⟨a,b,h1,_,h2,_⟩:=mw h.w.sv h.m;have p:(aq d.1).Perm (aq (a++b)):=by have:=gY a b v;rw[←h1,h.r,List.nil_append]at this;exact this
 exact⟨a,b,h1,by unfold aF;rw[h2,kz h.w.ge],fun x hx=>p.mem_iff.2 hx,p⟩
theorem Lone.wf{d:ak}{v:ai}(h:Lone d v):Wf (aF d v.1 zI):=h.w.V8 h.m h.r
theorem Lone.mem{d:ak}{v:ai}(h:Lone d v){u:ai}:u∈(aF d v.1 zI).1↔u∈d.1∧u.1≠v.1:=by show u∈bE d.1 v.1↔_;unfold bE;rw[List.mem_filter];simp
theorem Lone.Xc{d:ak}{v:ai}(h:Lone d v):(aq (aF d v.1 zI).1).Perm (aq d.1):=by obtain⟨a,b,_,h2,_,h3⟩:=h.split;rw[h2];exact h3.symm
theorem Lone.Xd{d:ak}{v:ai}(h:Lone d v){u:ai}{z:ae}(hu:u∈d.1)(hz:z∈u.2.1):u∈(aF d v.1 zI).1:=by refine h.mem.2 ⟨hu,fun k=>?_⟩;rw[vJ h.w.sv h.m hu k,h.r]at hz;simp at hz
theorem Lone.at{d:ak}{v:ai}(h:Lone d v){z:ae}(hz:z∈aq d.1):bJ (aF d v.1 zI) z=bJ d z:=by obtain⟨u,hu,GA⟩:=aM.1 hz;show EU (aF d v.1 zI).1 z=EU d.1 z;rw[dq h.w.rw hu GA,dq h.wf.rw (h.Xd hu GA) GA]
theorem Lone.Y2{d:ak}{v:ai}(h:Lone d v){a b:ID}:BO (aF d v.1 zI) a b↔BO d a b:=by
 constructor
 ·rintro⟨z,hz,h1,h2⟩;have hz:=h.Xc.mem_iff.1 hz;exact⟨z,hz,by rw[←h.at hz];exact h1,by rw[←h.at (h.w.other hz)];exact h2⟩
 ·rintro⟨z,hz,h1,h2⟩;exact⟨z,h.Xc.mem_iff.2 hz,by rw[h.at hz];exact h1,by rw[h.at (h.w.other hz)];exact h2⟩
theorem Lone.conn{d:ak}{v:ai}(h:Lone d v){a b:ID}:cI (aF d v.1 zI) a b↔cI d a b:=by
 constructor
 ·intro k
  induction k with
  |refl=>exact .refl _
  |tail _ j ih=>exact ih.tail (h.Y2.1 j)
 ·intro k
  induction k with
  |refl=>exact .refl _
  |tail _ j ih=>exact ih.tail (h.Y2.2 j)
theorem Lone.alone{d:ak}{v:ai}(h:Lone d v){b:ID}(k:cI d v.1 b):b=v.1:=by
 have key:∀{a b:ID},cI d a b→a=v.1→b=v.1:=fun {a b} k ha=>by
  induction k with
  |refl=>exact ha
  |tail _ j ih =>obtain⟨z,hz,h1,_⟩:=j;obtain⟨u,hu,GA,Bi⟩:=tR h.w hz;rw[Bi,ih]at h1;have:=aby h1;rw[vJ h.w.sv h.m hu this,h.r]at GA;simp at GA
 exact key k rfl
theorem Lone.Cc{d:ak}{v:ai}(h:Lone d v){R:List ID}(hr:pT d R):∃R2,pT (aF d v.1 zI) R2∧R2.length+1=R.length:=by
 obtain⟨r,Cb,hvr⟩:=hr.c v h.m;have hv:v.1∈R:=by rw[←h.alone hvr];exact Cb
 refine⟨R.erase v.1,⟨hr.n.erase _,fun s hs=>?_,fun s hs t ht k=>hr.i s (adV hs) t (adV ht) (h.conn.1 k),fun u hu=>?_⟩,?_⟩
 ·obtain⟨u,hu,he⟩:=hr.v s (adV hs);refine⟨u,h.mem.2 ⟨hu,fun k=>?_⟩,he⟩;have:s=v.1:=he.symm.trans k;subst this;exact absurd hs (List.Nodup.not_mem_erase hr.n)
 ·obtain⟨hu1,hu2⟩:=h.mem.1 hu;obtain⟨s,hs,Km⟩:=hr.c u hu1;refine⟨s,(ad3 fun k=>?_).2 hs,h.conn.2 Km⟩;subst k;exact hu2 (h.alone (Km.symm h.w))
 ·rw[List.length_erase_of_mem hv];have:=adn hv;omega
theorem Lone.ph{d:ak}{v:ai}(h:Lone d v){z:ae}(hz:z∈aq d.1):ph (aF d v.1 zI) z=ph d z:=by rw[iO hz,iO (h.Xc.mem_iff.2 hz)];obtain⟨u,hu,GA⟩:=aM.1 (h.w.other hz);rw[jn h.w.rw hu GA,jn h.wf.rw (h.Xd hu GA) GA]
theorem Lone.b5{d:ak}{v:ai}(h:Lone d v):(Vs.b5 (aF d v.1 zI)).length=(Vs.b5 d).length:=by have a:=bL h.wf;have b:=bL h.w;refine HK.count h.w.rw.n ⟨fun c hc=>?_,a.p.trans h.Xc⟩ b;refine(a.c c hc).congr fun z hz=>?_;have:z∈aq (aF d v.1 zI).1:=a.p.mem_iff.1 (ade.2 ⟨c,hc,hz⟩);exact(h.ph (h.Xc.mem_iff.1 this)).symm
theorem FI{d:ak}(hw:Wf d){R:List ID}(hr:pT d R):gh d=(R.length:Int):=by rw[uU hw,(mg hw (fL hw)).len hw hr]
structure yT(d:ak)(v:ai)(y:ae):Prop where
 w:Wf d
 m:v∈d.1
 r:v.2.1=[y]
theorem yT.mem{d:ak}{v:ai}{y:ae}(h:yT d v y):y∈aq d.1:=aM.2 ⟨v,h.m,by rw[h.r];simp⟩
theorem yT.cut{d:ak}{v:ai}{y:ae}(h:yT d v y):cf d y.1:=by obtain⟨e,he,h1,_⟩:=cO.1 (h.w.pd.mem_iff.1 h.mem);exact⟨h.w,by unfold aL;rw[List.find?_isSome];exact⟨e,he,by simpa using h1⟩⟩
theorem yT.lone{d:ak}{v:ai}{y:ae}(h:yT d v y):∃u,Lone (cj d y.1) u∧u.1=v.1:=by
 obtain⟨u,hu,bR⟩:=h.cut.Oh.2 ⟨v,h.m,rfl⟩;refine⟨u,⟨h.cut.w,hu,?_⟩,bR⟩
 cases hq:u.2.1 with
 |nil=>rfl
 |cons z r =>
  exfalso;have hz:z∈u.2.1:=by rw[hq];simp
  have hzd:z∈aq (cj d y.1).1:=aM.2 ⟨u,hu,hz⟩;have h1:bJ (cj d y.1) z=some u.1:=dq h.cut.w.rw hu hz;rw[h.cut.at hzd,bR]at h1;obtain⟨w,hw,J4,Bi⟩:=tR h.w (h.cut.sub hzd);rw[Bi]at h1;have hwv:=vJ h.w.sv h.m hw (aby h1);rw[hwv,h.r]at J4;have Qp:z=y:=by simpa using J4
  have nd:=h.cut.p.nodup_iff.1 h.w.rw.n;have e:y=(y.1,y.2):=rfl;rcases h.w.side h.mem with k|k
  ·rw[k]at e;exact(abv.1 nd).1 (aa1 _ (e▸Qp▸hzd))
  ·rw[k]at e;exact(abv.1 (abv.1 nd).2).1 (e▸Qp▸hzd)
theorem yT.back{d:ak}{v:ai}{y:ae}(h:yT d v y):ph d (ah y)=y:=by
 rw[iO (h.w.other h.mem),bU (h.w.side h.mem)];have hy:y∈v.2.1:=by rw[h.r];simp
 rw[jn h.w.rw h.m hy];exact(HO (h.w.rw.ring h.m) hy).2 (by rw[h.r];rfl)
theorem yT.one{d:ak}{v:ai}{y:ae}(h:yT d v y):Jy d (y.1,0) (y.1,1):=by
 have hm:ah y∈(b5 d).flatten:=(bL h.w).p.mem_iff.2 (h.w.other h.mem);obtain⟨c,hc,h1⟩:=ade.1 hm;have h2:=((bL h.w).c c hc).step h1;rw[h.back]at h2;have e:y=(y.1,y.2):=rfl;have eo:ah y=(y.1,(ah y).2):=rfl;obtain⟨_,k⟩:=iJ (h.w.side h.mem);rcases k with⟨k1,k2⟩|⟨k1,k2⟩
 ·rw[k1]at e;rw[k2]at eo;exact⟨c,hc,e▸h2,eo▸h1⟩
 ·rw[k1]at e;rw[k2]at eo;exact⟨c,hc,eo▸h1,e▸h2⟩
theorem yT.b5{d:ak}{v:ai}{y:ae}(h:yT d v y):(Vs.b5 (cj d y.1)).length≤(Vs.b5 d).length:=by
 have h1:=(h.cut.same h.one).2;have hb:=h.back;have e:y=(y.1,y.2):=rfl;have eo:ah y=(y.1,(ah y).2):=rfl;obtain⟨_,k⟩:=iJ (h.w.side h.mem);rcases k with⟨k1,k2⟩|⟨k1,k2⟩
 ·rw[k1]at e;rw[k2]at eo;have:ph d (y.1,1)=(y.1,0):=by rw[←eo,hb];exact e
  rw[if_pos this]at h1
  split at h1<;>omega
 ·rw[k1]at e;rw[k2]at eo;have:ph d (y.1,0)=(y.1,1):=by rw[←eo,hb];exact e
  rw[if_pos this]at h1
  split at h1<;>omega
theorem yT.parts{d:ak}{v:ai}{y:ae}(h:yT d v y){u:ai}(hu:Lone (cj d y.1) u)(bR:u.1=v.1):gh (aF (cj d y.1) v.1 zI)=gh d:=by
 obtain⟨a,b,ha,hb,_,_⟩:=h.cut.JA;have hr:=mg h.w (fL h.w);have XS:bJ d y=some v.1:=dq h.w.rw h.m (by rw[h.r];simp);have XN:bJ d (ah y)≠some v.1:=fun k=>by
  obtain⟨w,hw,J4,Bi⟩:=tR h.w (h.w.other h.mem);rw[Bi]at k;rw[vJ h.w.sv h.m hw (Option.some.inj k),h.r]at J4;have J4:ah y=y:=by simpa using J4
  obtain⟨_,m⟩:=iJ (h.w.side h.mem);rw[J4]at m;omega
 have bq:a≠b∧(a=v.1∨b=v.1):=by
  have e:y=(y.1,y.2):=rfl;have eo:ah y=(y.1,(ah y).2):=rfl;obtain⟨_,k⟩:=iJ (h.w.side h.mem);rcases k with⟨k1,k2⟩|⟨k1,k2⟩
  ·rw[k1]at e;rw[k2]at eo;rw[e,ha]at XS;rw[eo,hb]at XN;have:=aby XS;exact⟨fun k=>XN (by rw[←k,this]),.inl this⟩
  ·rw[k1]at e;rw[k2]at eo;rw[e,hb]at XS;rw[eo,ha]at XN;have:=aby XS;exact⟨fun k=>XN (by rw[k,this]),.inr this⟩
 have A6:¬cI (cj d y.1) a b:=fun k=>by
  rcases bq.2 with m|m
  ·rw[m,←bR]at k;exact bq.1 (m.trans (bR▸hu.alone k).symm)
  ·rw[m,←bR]at k;exact bq.1 ((bR▸hu.alone (k.symm h.cut.w):a=v.1).trans m.symm)
 obtain⟨R2,h2,h3⟩:=h.cut.P3 ha hb A6 hr;obtain⟨R3,h4,h5⟩:=hu.Cc h2;rw[bR]at h4;have hwf:=hu.wf;rw[bR]at hwf;rw[FI hwf h4,FI h.w hr];omega
theorem uX{k:Int}{x:ID}(hk:k=1∨k=2∨k=4)(hx:cz x=true):bm (vG k x)=0:=by
 unfold bm;have e:sD (kr (vG k x)) F2=true:=by rcases hk with rfl|rfl|rfl<;>exact(ku _ _).2 rfl
 have h1:(vG k x).1=k:=rfl;rw[if_neg (by rw[h1];omega),if_neg (by rw[h1];omega),if_neg (by simp[vG,hx]),if_neg (by rw[e];simp),if_neg (by rw[h1];omega),if_neg (by rw[h1];omega),if_neg (by rw[h1];omega),if_neg (by rw[h1];omega),if_neg (by rw[h1];omega)]
end Go.Vs
namespace Go.Vs
open Go.Proofs Go.Cy
theorem qN{d:ak}(hw:Wf d):∃R,pT d R:=⟨_,mg hw (fL hw)⟩
theorem fD{d:ak}(hw:Wf d){R:List ID}(hr:pT d R):bK d=0↔d.1.length+ft d=2*R.length+d.2.length:=by
 obtain⟨k,h1,h2⟩:=Ft hw hr;rw[h1];constructor
 ·intro h;omega
 ·intro h;omega
theorem ll{d:ak}(hw:Wf d):(aq d.1).length=2*d.2.length:=by have:=hw.pd.length_eq;rw[BN]at this;omega
theorem Xe{d':ak}{x:ID}(h:cf d' x)(hg:bK d'=0):bK (cj d' x)=0:=by
 obtain⟨u,w,hu,hw,_,_⟩:=h.JA;obtain⟨R,hr⟩:=qN h.wf;have k:=(fD h.wf hr).1 hg;have hv:(cj d' x).1.length=d'.1.length:=by have:=congrArg List.length h.ids;simpa using this
 have he:(cj d' x).2.length+1=d'.2.length:=by have h1:=ll h.wf;have h2:=ll h.w;have h3:=h.p.length_eq;simp at h3;omega
 by_cases hc:cI (cj d' x) u w
 ·have DQ:=h.Cc hu hw hc hr;by_cases ho:Jy d' (x,0) (x,1)
  ·have h1:=(h.same ho).1;obtain⟨j,_,h2⟩:=Ft h.w DQ;omega
  ·have h1:=h.diff ho;rw[fD h.w DQ];omega
 ·obtain⟨R2,DQ,hl⟩:=h.P3 hu hw hc hr;have ho:Jy d' (x,0) (x,1):=Classical.byContradiction fun ho=>hc (h.AD hu hw ho);have h1:=(h.same ho).1;rw[fD h.w DQ];omega
theorem JN(a b:List ai):al (a++b)=al a+al b:=List.countP_append
theorem HW{d:ak}{v:ai}(h:Lone d v):bK d=0↔bK (aF d v.1 zI)=0:=by
 obtain⟨R,hr⟩:=qN h.w;obtain⟨R2,DQ,hl⟩:=h.Cc hr;rw[fD h.w hr,fD h.wf DQ];obtain⟨a,b,k1,k2,_,_⟩:=h.split;have hf:=h.b5;have e1:d.1.length=(aF d v.1 zI).1.length+1:=by rw[k1,k2];simp;omega
 have e2:(aF d v.1 zI).2.length=d.2.length:=by rw[k2]
 have e3:al d.1=al (aF d v.1 zI).1+1:=by
  rw[k1,k2];show al (a++v::b)=al (a++b)+1;rw[JN,JN];have:al (v::b)=al b+1:=by unfold al;rw[List.countP_cons,h.r];rfl
  omega
 have f1:ft d=(b5 d).length+al d.1:=rfl;have f2:ft (aF d v.1 zI)=(b5 (aF d v.1 zI)).length+al (aF d v.1 zI).1:=rfl;omega
theorem SB{d:ak}(hw:Wf d){x:ID}(hx:aN d.1 x=none)(Lu:Wf (ct (x,([],(e0,0))) d.1,d.2))(hg:bK d=0):bK (ct (x,([],(e0,0))) d.1,d.2)=0:=by
 have hl:Lone (ct (x,([],(e0,0))) d.1,d.2) (x,([],(e0,0))):=⟨Lu,kx.2 (.inl rfl),rfl⟩;rw[HW hl];have e:aF (ct (x,([],(e0,0))) d.1,d.2) x zI=d:=by have h1:=rJ (x,([],(e0,0))) (l:=d.1) hx;have h2:=kz hw.ge;unfold aF;show(bE (ct (x,([],(e0,0))) d.1) x,bF d.2 zI)=d;rw[h2];exact congrArg (fun l:List ai=>((l,d.2):ak)) h1
 show bK (aF (ct (x,([],(e0,0))) d.1,d.2) x zI)=0;rw[e];exact hg
structure jr(f:ai→ai)(g:an→an):Prop where
 i:∀v,(f v).1=v.1
 r:∀v,(f v).2.1=v.2.1
 e:∀a,(g a).1=a.1
variable {f:ai→ai} {g:an→an}
theorem jr.aq(k:jr f g)(l:List ai):Vs.aq (l.map f)=Vs.aq l:=by unfold Vs.aq;rw[List.flatMap_map];congr 1;funext v;exact k.r v
theorem jr.at(k:jr f g)(l:List ai)(x:ae):EU (l.map f) x=EU l x:=by
 unfold EU;rw[List.find?_map];have:((fun v:ai=>decide (x∈v.2.1)) ∘ f)=fun v:ai=>decide (x∈v.2.1):=by funext v;show decide (x∈(f v).2.1)=_;rw[k.r]
 rw[this,Option.map_map];congr 1;funext v;exact k.i v
theorem jr.find(k:jr f g)(l:List ai)(x:ID):aN (l.map f) x=(aN l x).map f:=by
 unfold aN;rw[List.find?_map];have:((fun v:ai=>decide (v.1=x)) ∘ f)=fun v:ai=>decide (v.1=x):=by funext v;show decide ((f v).1=x)=_;rw[k.i]
 rw[this]
theorem jr.al(k:jr f g)(l:List ai):Vs.al (l.map f)=Vs.al l:=by unfold Vs.al;rw[List.countP_map];congr 1;funext v;show(f v).2.1.isEmpty=_;rw[k.r]
theorem jr.kI(k:jr f g)(d:ak)(x:ae):Vs.kI (d.1.map f,d.2.map g) x=Vs.kI d x:=by
 unfold Vs.kI;have h1:bJ (d.1.map f,d.2.map g) x=bJ d x:=k.at d.1 x;rw[h1]
 cases bJ d x with
 |none=>rfl
 |some a =>
  have h2:aV (d.1.map f,d.2.map g) a=aV d a:=by
   unfold aV aO;show((aN (d.1.map f) a).getD zV).2.1=_;rw[k.find]
   cases aN d.1 a with
   |none=>rfl
   |some v=>exact k.r v
  show cT (aV (d.1.map f,d.2.map g) a) x 1=_;rw[h2]
theorem jr.ph(k:jr f g)(d:ak)(x:ae):Vs.ph (d.1.map f,d.2.map g) x=Vs.ph d x:=by unfold Vs.ph J2;have h1:bJ (d.1.map f,d.2.map g) x=bJ d x:=k.at d.1 x;rw[h1,k.kI]
theorem jr.Y2(k:jr f g)(d:ak){a b:ID}:BO (d.1.map f,d.2.map g) a b↔BO d a b:=by
 unfold BO;have h:∀z,bJ (d.1.map f,d.2.map g) z=bJ d z:=fun z=>k.at d.1 z;have hd:Vs.aq (d.1.map f)=Vs.aq d.1:=k.aq d.1;constructor
 ·rintro⟨z,h1,h2,h3⟩;exact⟨z,hd▸h1,(h z).symm.trans h2,(h _).symm.trans h3⟩
 ·rintro⟨z,h1,h2,h3⟩;exact⟨z,hd.symm▸h1,(h z).trans h2,(h _).trans h3⟩
theorem jr.conn(k:jr f g)(d:ak){a b:ID}:cI (d.1.map f,d.2.map g) a b↔cI d a b:=by
 constructor
 ·intro h
  induction h with
  |refl=>exact .refl _
  |tail _ j ih=>exact ih.tail ((k.Y2 d).1 j)
 ·intro h
  induction h with
  |refl=>exact .refl _
  |tail _ j ih=>exact ih.tail ((k.Y2 d).2 j)
theorem jr.Cc(k:jr f g){d:ak}{R:List ID}(h:pT d R):pT (d.1.map f,d.2.map g) R:=by
 refine⟨h.n,fun r hr=>?_,fun r hr s hs hc=>h.i r hr s hs ((k.conn d).1 hc),fun v hv=>?_⟩
 ·obtain⟨v,hv,he⟩:=h.v r hr;exact⟨f v,aca.2 ⟨v,hv,rfl⟩,(k.i v).trans he⟩
 ·obtain⟨u,hu,rfl⟩:=aca.1 hv;obtain⟨r,hr,hc⟩:=h.c u hu;exact⟨r,hr,by rw[k.i];exact(k.conn d).2 hc⟩
theorem FJ(k:jr f g){d:ak}(hw:Wf d)(Lu:Wf (d.1.map f,d.2.map g))(hg:bK d=0):bK (d.1.map f,d.2.map g)=0:=by obtain⟨R,hr⟩:=qN hw;have h:=(fD hw hr).1 hg;rw[fD Lu (k.Cc hr)];have hd:Vs.aq (d.1.map f)=Vs.aq d.1:=k.aq d.1;have a:=bL hw;have b:=bL Lu;have hc:(b5 (d.1.map f,d.2.map g)).length=(b5 d).length :=HK.count (D:=Vs.aq (d.1.map f)) Lu.rw.n b ⟨fun c hc=>(a.c c hc).congr fun z hz=>k.ph d z,a.p.trans (List.Perm.of_eq hd.symm)⟩;have f1:ft d=(b5 d).length+Vs.al d.1:=rfl;have f2:ft (d.1.map f,d.2.map g)=(b5 (d.1.map f,d.2.map g)).length+Vs.al (d.1.map f):=rfl;have hal:Vs.al (d.1.map f)=Vs.al d.1:=k.al d.1;show(d.1.map f).length+_=_+(d.2.map g).length;rw[List.length_map,List.length_map];omega
theorem HX(o:aW):jr (fJ o) (gL o):=by
 refine⟨fun v=>?_,fun v=>?_,fun a=>?_⟩
 ·unfold fJ;split
  ·split<;>rfl
  ·rfl
 ·unfold fJ;split
  ·split<;>rfl
  ·rfl
 ·unfold gL;split
  ·split<;>rfl
  ·rfl
end Go.Vs
namespace Go.Vs
open Go.Proofs Go.Cy
def hd(l:List ae):ae:=l.head?.getD zD
theorem HY{f g:ae→ae}{φ:ae→List ae}(hn:∀z,φ z≠[]):∀{c:List ae} {y:ae},(∀z∈c,Path g (φ z) (hd (φ (f z))))→Path f c y→Path g (c.flatMap φ) (hd (φ y))
 |[],y,_,_=>trivial
 |a::r,y,hp,h=>by
  obtain⟨h1,h2⟩:f a=r.head?.getD y∧Path f r y:=h;have ih:=HY hn (fun z hz=>hp z (aa1 _ hz)) h2;rw[List.flatMap_cons];refine Path.app.2 ⟨?_,ih⟩;have:=hp a abp;rw[h1]at this
  cases r with
  |nil=>exact this
  |cons b r =>
   have e:((b::r).flatMap φ).head?.getD (hd (φ y))=hd (φ b):=by
    rw[List.flatMap_cons]
    cases hb:φ b with
    |nil=>exact absurd hb (hn b)
    |cons q s=>rfl
   rw[e];exact this
theorem Xf{f g:ae→ae}{φ:ae→List ae}(hn:∀z,φ z≠[]){c:List ae}(hp:∀z∈c,Path g (φ z) (hd (φ (f z))))(h:jv f c):jv g (c.flatMap φ):=by
 cases c with
 |nil=>exact h.elim
 |cons x r =>
  have h':Path f (x::r) x:=h;have:=HY hn hp h';rw[List.flatMap_cons]at this ⊢
  cases hx:φ x with
  |nil=>exact absurd hx (hn x)
  |cons q s =>rw[hx]at this;exact this
structure Sub(s t:ak)(v:ID)(m k:ae)(u w:ID):Prop where
 ws:Wf s
 wt:Wf t
 mm:m∈aq s.1
 kn:k∉aq s.1
 ok:ah k∉aq s.1
 kk:k≠ah k
 k2:k.2=0∨k.2=1
 p:(aq t.1).Perm (k::ah k::aq s.1)
 pm:∀z∈aq s.1,z≠ah m→ph t z=if ph s z=m then ah k else ph s z
 po:ph t (ah m)=k
 pk:ph t k=if ph s (ah m)=m then ah k else ph s (ah m)
 pq:ph t (ah k)=m
 am:bJ s m=some u
 ao:bJ s (ah m)=some w
 at_:∀z∈aq s.1,z≠m→bJ t z=bJ s z
 tm:bJ t m=some v
 tk:bJ t k=some v
 tq:bJ t (ah k)=some u
 vs:∀r,(∃x∈t.1,x.1=r)↔r=v∨∃x∈s.1,x.1=r
 nv:∀x∈s.1,x.1≠v
 len:t.1.length=s.1.length+1
 al:al t.1=al s.1
variable {s t:ak} {v:ID} {m k:ae} {u w:ID}
def qO(m k:ae)(z:ae):List ae:=if z=m then[ah k,m] else if z=ah m then[ah m,k] else[z]
theorem Zz(m k z:ae):qO m k z≠[]:=by
 unfold qO;by_cases e:z=m
 ·rw[if_pos e];simp
 ·rw[if_neg e];by_cases e2:z=ah m
  ·rw[if_pos e2];simp
  ·rw[if_neg e2];simp
theorem Sub.om(h:Sub s t v m k u w):ah m∈aq s.1:=h.ws.other h.mm
theorem ow{m:ae}(h:m.2=0∨m.2=1):ah m≠m:=fun e=>by obtain⟨_,k⟩:=iJ h;rw[e]at k;rcases k with⟨a,b⟩|⟨a,b⟩<;>omega
theorem acP(h:Sub s t v m k u w)(y:ae):hd (qO m k y)=if y=m then ah k else y:=by
 unfold qO;by_cases e:y=m
 ·rw[if_pos e,if_pos e];rfl
 ·rw[if_neg e,if_neg e];by_cases e2:y=ah m
  ·rw[if_pos e2,e2];rfl
  ·rw[if_neg e2];rfl
theorem Sub.b5(h:Sub s t v m k u w):(Vs.b5 t).length=(Vs.b5 s).length:=by
 have a:=bL h.ws;have b:=bL h.wt;have ZA:=ow (h.ws.side h.mm);have cyc:∀c∈Vs.b5 s,jv (ph t) (c.flatMap (qO m k)):=fun c hc=>by
  refine Xf (Zz m k) (fun z hz=>?_) (a.c c hc);have hz:z∈aq s.1:=a.p.mem_iff.1 (ade.2 ⟨c,hc,hz⟩);rw[acP h];unfold qO;by_cases e:z=m
  ·rw[if_pos e,e];exact⟨h.pq,h.pm m h.mm (fun q=>ZA q.symm),trivial⟩
  ·rw[if_neg e];by_cases e2:z=ah m
   ·rw[if_pos e2,e2];exact⟨h.po,h.pk,trivial⟩
   ·rw[if_neg e2];exact⟨h.pm z hz e2,trivial⟩
 have perm:((Vs.b5 s).map (·.flatMap (qO m k))).flatten.Perm (aq t.1):=by
  have e:((Vs.b5 s).map (·.flatMap (qO m k))).flatten=(Vs.b5 s).flatten.flatMap (qO m k):=by
   have:∀L:List (List ae),(L.map (·.flatMap (qO m k))).flatten=L.flatten.flatMap (qO m k):=by
    intro L
    induction L with
    |nil=>rfl
    |cons a L ih=>rw[List.map_cons,List.flatten_cons,List.flatten_cons,List.flatMap_append,ih]
   exact this _
  rw[e];refine(a.p.flatMap_right (qO m k)).trans ((?_:((aq s.1).flatMap (qO m k)).Perm _).trans h.p.symm);have nd:=h.ws.rw.n;obtain⟨r1,hr1⟩:∃r1,(aq s.1).Perm (m::r1):=⟨_,List.perm_cons_erase h.mm⟩;have hm1:ah m∈r1:=(abd.1 (hr1.mem_iff.1 h.om)).resolve_left ZA;obtain⟨r2,DQ⟩:∃r2,r1.Perm (ah m::r2):=⟨_,List.perm_cons_erase hm1⟩;have hp:(aq s.1).Perm (m::ah m::r2):=hr1.trans (List.Perm.cons _ DQ);have nd2:=hp.nodup_iff.1 nd;have bR:r2.flatMap (qO m k)=r2:=by
   have:∀l:List ae,(∀z∈l,z≠m∧z≠ah m)→l.flatMap (qO m k)=l:=by
    intro l
    induction l with
    |nil=>intro _;rfl
    |cons z l ih =>intro hl;obtain⟨h1,h2⟩:=hl z abp;rw[List.flatMap_cons,ih fun y hy=>hl y (List.mem_cons_of_mem _ hy)];unfold qO;rw[if_neg h1,if_neg h2];rfl
   refine this r2 fun z hz=>⟨fun e=>?_,fun e=>?_⟩
   ·subst e;exact(abv.1 nd2).1 (aa1 _ hz)
   ·subst e;exact(abv.1 (abv.1 nd2).2).1 hz
  refine(hp.flatMap_right (qO m k)).trans ?_;rw[List.flatMap_cons,List.flatMap_cons,bR];have e1:qO m k m=[ah k,m]:=if_pos rfl;have e2:qO m k (ah m)=[ah m,k]:=by unfold qO;rw[if_neg ZA,if_pos rfl]
  rw[e1,e2];refine List.Perm.trans ?_ (List.Perm.cons k (List.Perm.cons (ah k) hp.symm));show(ah k::m::ah m::k::r2).Perm (k::ah k::m::ah m::r2);exact(adj (l₁:=[ah k,m,ah m]) (l₂:=r2) (a:=k))
 have:=HK.count h.wt.rw.n b ⟨fun c hc=>by obtain⟨c0,h1,rfl⟩:=aca.1 hc;exact cyc c0 h1,perm⟩;rw[List.length_map]at this;exact this
theorem Sub.Qq(h:Sub s t v m k u w){a b:ID}(c:cI s a b):cI t a b:=by
 have dt:∀z∈aq s.1,z∈aq t.1:=fun z hz=>h.p.mem_iff.2 (aa1 _ (aa1 _ hz));have ZA:=ow (h.ws.side h.mm);have hqt:ah k∈aq t.1:=h.p.mem_iff.2 (by simp);have uv:BO t u v:=⟨ah k,hqt,h.tq,by rw[bU h.k2];exact h.tk⟩;have vw:BO t v w:=⟨m,dt m h.mm,h.tm,by rw[h.at_ _ h.om ZA];exact h.ao⟩;have uw:cI t u w:=uv.conn.trans vw.conn
 induction c with
 |refl=>exact .refl _
 |tail _ j ih =>
  refine ih.trans ?_;obtain⟨z,hz,h1,h2⟩:=j;by_cases e:z=m
  ·subst e;rw[h.am]at h1;rw[h.ao]at h2
   cases h1;cases h2
   exact uw
  ·by_cases e2:z=ah m
   ·subst e2;rw[h.ao]at h1;rw[bU (h.ws.side h.mm),h.am]at h2
    cases h1;cases h2
    exact uw.symm h.wt
   ·have e3:ah z≠m:=fun q=>e2 (by rw[←q,bU (h.ws.side hz)]);exact BO.conn ⟨z,dt z hz,by rw[h.at_ z hz e];exact h1,by rw[h.at_ _ (h.ws.other hz) e3];exact h2⟩
theorem Sub.ZB(h:Sub s t v m k u w){a b:ID}(c:cI t a b):cI s (if a=v then u else a) (if b=v then u else b):=by
 have ZA:=ow (h.ws.side h.mm);have uw:cI s u w:=BO.conn ⟨m,h.mm,h.am,h.ao⟩;have vof:∀{z x},z∈aq s.1→bJ s z=some x→x≠v:=fun {z x} hz hx=>by obtain⟨y,hy,_,h2⟩:=tR h.ws hz;rw[h2]at hx;cases hx;exact h.nv y hy
 have hu:=vof h.mm h.am;have hw:=vof h.om h.ao
 induction c with
 |refl=>exact .refl _
 |tail _ j ih =>
  refine ih.trans ?_;obtain⟨z,hz,h1,h2⟩:=j;have C9:=h.p.mem_iff.1 hz;rcases abd.1 C9 with rfl|C9
  ·rw[h.tk]at h1;rw[h.tq]at h2
   cases h1;cases h2
   rw[if_pos rfl,if_neg hu];exact .refl _
  ·rcases abd.1 C9 with rfl|C9
   ·rw[h.tq]at h1;rw[bU h.k2,h.tk]at h2
    cases h1;cases h2
    rw[if_neg hu,if_pos rfl];exact .refl _
   ·by_cases e:z=m
    ·subst e;rw[h.tm]at h1;rw[h.at_ _ h.om ZA,h.ao]at h2
     cases h1;cases h2
     rw[if_pos rfl,if_neg hw];exact uw
    ·by_cases e2:z=ah m
     ·subst e2;rw[h.at_ _ h.om ZA,h.ao]at h1;rw[bU (h.ws.side h.mm),h.tm]at h2
      cases h1;cases h2
      rw[if_neg hw,if_pos rfl];exact uw.symm h.ws
     ·have e3:ah z≠m:=fun q=>e2 (by rw[←q,bU (h.ws.side C9)]);rw[h.at_ z C9 e]at h1;rw[h.at_ _ (h.ws.other C9) e3]at h2;rw[if_neg (vof C9 h1),if_neg (vof (h.ws.other C9) h2)];exact BO.conn ⟨z,C9,h1,h2⟩
theorem Sub.Cc(h:Sub s t v m k u w){R:List ID}(hr:pT s R):pT t R:=by
 refine⟨hr.n,fun r hrm=>(h.vs r).2 (.inr (hr.v r hrm)),fun r h1 q h2 c=>?_,fun x hx=>?_⟩
 ·obtain⟨x,hx,hxr⟩:=hr.v r h1;obtain⟨y,hy,hyq⟩:=hr.v q h2;have:=h.ZB c;rw[if_neg (by rw[←hxr];exact h.nv x hx),if_neg (by rw[←hyq];exact h.nv y hy)]at this;exact hr.i r h1 q h2 this
 ·rcases (h.vs x.1).1 ⟨x,hx,rfl⟩ with e|⟨y,hy,e⟩
  ·obtain⟨y,hy,_,hyu⟩:=tR h.ws h.mm;rw[h.am]at hyu;obtain⟨r,hrm,hc⟩:=hr.c y hy;refine⟨r,hrm,?_⟩;rw[e];have hqt:ah k∈aq t.1:=h.p.mem_iff.2 (by simp);have uv:BO t u v:=⟨ah k,hqt,h.tq,by rw[bU h.k2];exact h.tk⟩;have e2:u=y.1:=aby hyu;exact(uv.symm h.wt).conn.trans (e2▸h.Qq hc)
  ·obtain⟨r,hrm,hc⟩:=hr.c y hy;exact⟨r,hrm,e▸h.Qq hc⟩
theorem Xg(h:Sub s t v m k u w):bK s=0↔bK t=0:=by obtain⟨R,hr⟩:=qN h.ws;rw[fD h.ws hr,fD h.wt (h.Cc hr)];have h1:=ll h.ws;have h2:=ll h.wt;have h3:=h.p.length_eq;have h4:=h.b5;have h5:=h.al;have h6:=h.len;have f1:ft s=(Vs.b5 s).length+Vs.al s.1:=rfl;have f2:ft t=(Vs.b5 t).length+Vs.al t.1:=rfl;simp at h3;omega
end Go.Vs
namespace Go.Vs
open Go.Proofs Go.Cy
structure Fr(s t:ak)(v:ID)(m k:ae)(uS uT vV:ai):Prop where
 ws:Wf s
 wt:Wf t
 mem:∀y,y∈t.1↔y=vV∨(y∈s.1∧y.1≠uS.1)∨y=uT
 us:uS∈s.1
 ui:uT.1=uS.1
 vi:vV.1=v
 vr:vV.2.1=[m,k]∨vV.2.1=[k,m]
 mm:m∈uS.2.1
 k2:k.2=0∨k.2=1
 kn:k∉aq s.1
 ok:ah k∉aq s.1
 nx:∀z∈uS.2.1,(if z=m then ah k else z)∈uT.2.1∧dL uT.2.1 (if z=m then ah k else z)=(if dL uS.2.1 z=m then ah k else dL uS.2.1 z)
 p:(aq t.1).Perm (k::ah k::aq s.1)
 nv:∀x∈s.1,x.1≠v
 len:t.1.length=s.1.length+1
 al:al t.1=al s.1
theorem AO{m k:ae}(h:m≠k):dL [m,k] m=k∧dL [m,k] k=m:=by
 have hn:[m,k].Nodup:=by simp[h]
 have a:=qI hn (i:=0) (x:=m) rfl;have b:=qI hn (i:=1) (x:=k) rfl;exact⟨a,by rw[b];simp⟩
variable {s t:ak} {v:ID} {m k:ae} {uS uT vV:ai}
theorem Fr.sub(h:Fr s t v m k uS uT vV):∃w,Sub s t v m k uS.1 w:=by
 have LS:m∈aq s.1:=aM.2 ⟨uS,h.us,h.mm⟩;have hod:ah m∈aq s.1:=h.ws.other LS;have ZA:=ow (h.ws.side LS);have IF:m≠k:=fun e=>h.kn (e▸LS);obtain⟨w,hw⟩:=abC.1 (Fk hod);have hvt:vV∈t.1:=(h.mem vV).2 (.inl rfl);have ZC:uT∈t.1:=(h.mem uT).2 (.inr (.inr rfl));have rs:=h.ws.rw;have rt:=h.wt.rw;have XE:m∈vV.2.1:=by rcases h.vr with e|e<;>rw[e]<;>simp
 have hkv:k∈vV.2.1:=by rcases h.vr with e|e<;>rw[e]<;>simp
 have sm:sg t m=k∧sg t k=m:=by
  rw[jn rt hvt XE,jn rt hvt hkv];rcases h.vr with e|e
  ·rw[e];exact AO IF
  ·rw[e];exact⟨(AO (Ne.symm IF)).2,(AO (Ne.symm IF)).1⟩
 have hqu:ah k∈uT.2.1:=by have:=(h.nx m h.mm).1;rwa [if_pos rfl]at this
 have pl:∀z∈aq s.1,(∃y,y∈s.1∧z∈y.2.1∧y∈t.1∧z≠m∧sg s z≠m)∨z∈uS.2.1:=fun z hz=>by
  obtain⟨y,hy,Qp⟩:=aM.1 hz;by_cases e:y.1=uS.1
  ·have:=vJ h.ws.sv h.us hy e;subst this;exact .inr Qp
  ·refine .inl ⟨y,hy,Qp,(h.mem y).2 (.inr (.inl ⟨hy,e⟩)),fun q=>?_,fun q=>?_⟩
   ·subst q;exact e (congrArg Prod.fst (rs.one h.us hy h.mm Qp))
   ·rw[jn rs hy Qp]at q;have:=jT (rs.ring hy) Qp;rw[q]at this;exact e (congrArg Prod.fst (rs.one h.us hy h.mm this))
 have sgm:∀z∈aq s.1,sg t (if z=m then ah k else z)=if sg s z=m then ah k else sg s z:=fun z hz=>by
  rcases pl z hz with⟨y,hy,Qp,hyt,h1,h2⟩|GA
  ·rw[if_neg h1,if_neg h2,jn rt hyt Qp,jn rs hy Qp]
  ·obtain⟨n1,n2⟩:=h.nx z GA;rw[jn rt ZC n1,jn rs h.us GA];exact n2
 have up:∀z∈aq s.1,z∈aq t.1:=fun z hz=>h.p.mem_iff.2 (aa1 _ (aa1 _ hz));have kt:k∈aq t.1:=h.p.mem_iff.2 (by simp);have qt:ah k∈aq t.1:=h.p.mem_iff.2 (by simp);refine⟨w,h.ws,h.wt,LS,h.kn,h.ok,(fun e=>ow h.k2 e.symm),h.k2,h.p,fun z hz hzo=>?_,?_,?_,?_,?_,hw,fun z hz hzm=>?_,?_,?_,?_,fun r=>?_,h.nv,h.len,h.al⟩
 ·rw[iO (up z hz),iO hz];have bq:ah z≠m:=fun e=>hzo (by rw[←e,bU (h.ws.side hz)]);have:=sgm (ah z) (h.ws.other hz)
  rwa [if_neg bq]at this
 ·rw[iO (up _ hod),bU (h.ws.side LS)];exact sm.1
 ·rw[iO kt,iO hod,bU (h.ws.side LS)];have:=sgm m LS
  rwa [if_pos rfl]at this
 ·rw[iO qt,bU h.k2];exact sm.2
 ·exact dq rs h.us h.mm
 ·rcases pl z hz with⟨y,hy,Qp,hyt,_,_⟩|GA
  ·exact(dq rt hyt Qp).trans (dq rs hy Qp).symm
  ·have n1:=(h.nx z GA).1;rw[if_neg hzm]at n1;refine(dq rt ZC n1).trans ((congrArg some h.ui).trans (dq rs h.us GA).symm)
 ·exact(dq rt hvt XE).trans (congrArg some h.vi)
 ·exact(dq rt hvt hkv).trans (congrArg some h.vi)
 ·exact(dq rt ZC hqu).trans (congrArg some h.ui)
 ·constructor
  ·rintro⟨x,hx,rfl⟩;rcases (h.mem x).1 hx with rfl|⟨h1,_⟩|rfl
   ·exact .inl h.vi
   ·exact .inr ⟨x,h1,rfl⟩
   ·exact .inr ⟨uS,h.us,h.ui.symm⟩
  ·rintro(rfl|⟨x,hx,rfl⟩)
   ·exact⟨vV,hvt,h.vi⟩
   ·by_cases e:x.1=uS.1
    ·exact⟨uT,ZC,h.ui.trans e.symm⟩
    ·exact⟨x,(h.mem x).2 (.inr (.inl ⟨hx,e⟩)),rfl⟩
theorem Fr.flat(h:Fr s t v m k uS uT vV):bK s=0↔bK t=0:=by obtain⟨w,hs⟩:=h.sub;exact Xg hs
def qT(m q z:ae):ae:=if z=m then q else z
theorem JO{row:List ae}(hn:row.Nodup){j:Nat}{m:ae}(hj:row[j]? = some m)(q:ae):row.set j q=row.map (qT m q):=by
 apply adl;intro i;rw[List.getElem?_set,List.getElem?_map];by_cases e:j=i
 ·subst e;have:=(aa2.1 hj).1;rw[if_pos rfl,if_pos this,hj];simp[qT]
 ·rw[if_neg e]
  cases hi:row[i]? with
  |none=>rfl
  |some x =>
   have:x≠m:=fun k=>by subst k;exact e (nh hn hj hi)
   simp[qT,this]
theorem Mu{f g:ae→ae}{r:ae→ae}:∀{c:List ae} {y:ae},(∀z∈c,g (r z)=r (f z))→Path f c y→Path g (c.map r) (r y)
 |[],_,_,_=>trivial
 |a::c,y,h,p=>by
  obtain⟨h1,h2⟩:f a=c.head?.getD y∧Path f c y:=p;refine⟨?_,Mu (fun z hz=>h z (aa1 _ hz)) h2⟩;rw[h a List.mem_cons_self,h1]
  cases c<;>rfl
theorem ZD{f g:ae→ae}{r:ae→ae}{c:List ae}(h:∀z∈c,g (r z)=r (f z))(hc:jv f c):jv g (c.map r):=by
 cases c with
 |nil=>exact hc.elim
 |cons x c=>exact Mu (y:=x) h hc
theorem rS{row:List ae}(hn:row.Nodup){m q:ae}(hm:m∈row)(hq:q∉row){z:ae}(hz:z∈row):qT m q z∈dJ row m q∧dL (dJ row m q) (qT m q z)=qT m q (dL row z):=by
 obtain⟨j,h1,h2,_⟩:=eU hm;have e:dJ row m q=bB (row.map (qT m q)):=by unfold dJ;rw[if_pos ⟨hm,hq⟩,h1,Int.toNat_natCast,JO hn h2]
 have gI:qT m q z∈row.map (qT m q):=aca.2 ⟨z,hz,rfl⟩;have nd:(row.map (qT m q)).Nodup:=by rw[←JO hn h2];exact HI hn h2 hq
 rw[e];refine⟨kq.2 gI,?_⟩;have nd2:(bB (row.map (qT m q))).Nodup:=(fw _).nodup_iff.2 nd;have c1:jv (dL (bB (row.map (qT m q)))) (row.map (qT m q)):=by obtain⟨i,hi,he⟩:=mb (row.map (qT m q));have:=tN nd2 (adH (kq.2 gI));rw[he]at this ⊢;exact L5 this
 have back:∀y∈row,qT q m (qT m q y)=y:=fun y hy=>by
  unfold qT;by_cases a:y=m
  ·rw[if_pos a,if_pos rfl,a]
  ·rw[if_neg a,if_neg (fun kk:y=q=>hq (kk▸hy))]
 have c2:jv (fun y=>qT m q (dL row (qT q m y))) (row.map (qT m q)):=by refine ZD (fun y hy=>?_) (tN hn (adH hz));show qT m q (dL row (qT q m (qT m q y)))=_;rw[back y hy]
 have:=HN c1 c2 _ gI;rw[this];show qT m q (dL row (qT q m (qT m q z)))=_;rw[back z hz]
end Go.Vs
namespace Go.Vs
open Go.Proofs Go.Cy
theorem Qr(v:ai):∀l:List ai,al (ct v l)=al (v::l)
 |[]=>rfl
 |w::r=>by
  have ih:=Qr v r;unfold ct
  split
  ·rfl
  ·unfold al at ih ⊢;rw[List.countP_cons,ih,List.countP_cons,List.countP_cons,List.countP_cons];omega
theorem AP(a b:List ai)(v:ai):al (a++v::b)=al a+(if v.2.1.isEmpty then 1 else 0)+al b:=by
 rw[JN];have:al (v::b)=al b+if v.2.1.isEmpty then 1 else 0:=by unfold al;rw[List.countP_cons]
 omega
theorem AQ{l:List ae}{x:ae}(h:x∈l):l.isEmpty=false:=by cases l with
 |nil=>cases h
 |cons _ _=>rfl
theorem SC{row:List ae}(hn:row.Nodup){m q:ae}(hm:m∈row)(hq:q∉row){z:ae}(hz:z∈dJ row m q):∃y∈row,z=qT m q y:=by obtain⟨j,h1,h2,_⟩:=eU hm;unfold dJ at hz;rw[if_pos ⟨hm,hq⟩,h1,Int.toNat_natCast,JO hn h2]at hz;obtain⟨y,hy,e⟩:=aca.1 (kq.1 hz);exact⟨y,hy,e.symm⟩
theorem Xh{d:ak}(h:Wf d){m k:ae}{v:ID}(zH:m.2=0∨m.2=1)(pJ:k.2=0∨k.2=1)(hm:(aL d.2 m.1).isSome=true)(QH:aN d.1 v=none)(hnk:aL d.2 k.1=none) (ht:Wf (ct (v,(bB [m,k],(e0,0))) (az d m (ah k)).1,bS (k.1,(e0,0)) (az d m (ah k)).2)) :
  ∃uS uT vV,Fr d (ct (v,(bB [m,k],(e0,0))) (az d m (ah k)).1,bS (k.1,(e0,0)) (az d m (ah k)).2) v m k uS uT vV:=by
 have LS:m∈aq d.1:=h.g9 hm zH;have G1:ah k∉aq d.1:=h.mP hnk _;have hkn:k∉aq d.1:=h.mP hnk _;obtain⟨p1,q1⟩:=iI h.rw LS G1;obtain⟨uS,hu,SR⟩:=aM.1 LS;have hqu:ah k∉uS.2.1:=fun e=>G1 (aM.2 ⟨uS,hu,e⟩);obtain⟨a,b,e1,e2,_,e4⟩:=mw h.sv hu;obtain⟨uT,ZC⟩:∃uT:ai,uT=(uS.1,(dJ uS.2.1 m (ah k),uS.2.2)):=⟨_,rfl⟩;have es:(az d m (ah k)).1=a++uT::b:=by rw[lf h.rw _ hu SR,ZC];exact e4 _
 have nd:=h.rw.ring hu;have hmT:ah k∈uT.2.1:=by
  have:=(rS nd SR hqu SR).1;rw[ZC];unfold qT at this
  rwa [if_pos rfl]at this
 refine⟨uS,uT,(v,(bB [m,k],(e0,0))),h,ht,fun y=>?_,hu,by rw[ZC],rfl,Fe m k,SR,pJ,hkn,G1,fun z hz=>?_,?_,fun x hx e=>?_,?_,?_⟩
 ·show y∈ct _ (az d m (ah k)).1↔_;rw[kx,es,e1];constructor
  ·rintro(k1|k1)
   ·exact .inl k1
   ·rcases abw.1 k1 with k1|k1
    ·exact .inr (.inl ⟨abi _ k1,e2 y (abi _ k1)⟩)
    ·rcases abd.1 k1 with k1|k1
     ·exact .inr (.inr k1)
     ·exact .inr (.inl ⟨abg _ (aa1 _ k1),e2 y (abg _ k1)⟩)
  ·rintro(k1|⟨k1,k2⟩|k1)
   ·exact .inl k1
   ·refine .inr ?_;rcases abw.1 k1 with k1|k1
    ·exact abi _ k1
    ·rcases abd.1 k1 with k1|k1
     ·subst k1;exact absurd rfl k2
     ·exact abg _ (aa1 _ k1)
   ·rw[k1];exact .inr (abg _ abp)
 ·rw[ZC];exact rS nd SR hqu hz
 ·show(aq (ct _ (az d m (ah k)).1)).Perm _;refine(wR _ _).trans ((ac7 _ (fw [m,k])).trans ?_);show(m::k::aq (az d m (ah k)).1).Perm _;exact(List.Perm.swap k m _).trans (List.Perm.cons k p1.symm)
 ·have:=eW h.sv hx;rw[e,QH]at this;cases this
 ·show(ct _ (az d m (ah k)).1).length=_;rw[gu,es,e1];simp
 ·show al (ct _ (az d m (ah k)).1)=_;rw[Qr,es,e1];have z1:al ((v,(bB [m,k],((e0,0):ByteArray×Int)))::(a++uT::b))=al (a++uT::b):=by have:=AP [] (a++uT::b) (v,(bB [m,k],(e0,0)));rw[List.nil_append]at this;rw[this,if_neg (by rw[AQ (x:=m) (kq.2 (by simp))];simp)];show al []+0+_=_;have:al []=0:=rfl;omega
  rw[z1,AP,AP,AQ hmT,AQ SR]
theorem SD{d:ak}(h:Wf d){vV:ai}{a b:ae}(hv:vV∈d.1)(hr:vV.2.1=[a,b]∨vV.2.1=[b,a])(mI:a.1≠b.1)(hs:Wf (aF (az (aF d vV.1 zI) (ah b) a) zI b.1)) :
  ∃uS uT,Fr (aF (az (aF d vV.1 zI) (ah b) a) zI b.1) d vV.1 a b uS uT vV:=by
 have hrp:vV.2.1.Perm [a,b]:=by
  rcases hr with e|e
  ·rw[e]
  ·rw[e];exact List.Perm.swap _ _ _
 obtain⟨p,q,h1,bq,h2,_⟩:=mw h.sv hv;have pd:(aq d.1).Perm (a::b::aq (p++q)):=by have:=(gY p q vV).trans (ac7 _ hrp);rw[←h1]at this;exact this
 have N7:aF d vV.1 zI=(p++q,d.2):=by unfold aF;rw[h2,kz h.ge]
 have Cq:=pd.nodup_iff.1 h.rw.n;have hbd:b∈aq d.1:=pd.mem_iff.2 (by simp);have zt:=h.side hbd;have R9:ah b∈aq (p++q):=by
  have h3:=h.other hbd;rcases abd.1 (pd.mem_iff.1 h3) with k|k
  ·exact absurd (congrArg Prod.fst k) (fun k=>mI k.symm)
  rcases abd.1 k with k|k
  ·exact absurd k (ow zt)
  ·exact k
 have Jw:Rw (p++q):=⟨by rw[←h2];exact kY h.sv,(abv.1 (abv.1 Cq).2).2⟩;have ha:a∉aq (p++q):=fun k=>(abv.1 Cq).1 (aa1 _ k);rw[N7]at hs ⊢;obtain⟨p1,q1⟩:=iI (d:=(p++q,d.2)) Jw R9 ha;have PV:∀w∈(az (p++q,d.2) (ah b) a).1,GV w:=by
  refine oo (d:=(p++q,d.2)) (fun w hw=>h.gv w ?_) _ _;rw[h1];rcases abw.1 hw with k|k
  ·exact abi _ k
  ·exact abg _ (aa1 _ k)
 have PW:(aF (az (p++q,d.2) (ah b) a) zI b.1).1=(az (p++q,d.2) (ah b) a).1:=lE PV;obtain⟨uT,hu,hbu⟩:=aM.1 R9;have hau:a∉uT.2.1:=fun e=>ha (aM.2 ⟨uT,hu,e⟩);obtain⟨l,r,e1,e2,_,e4⟩:=mw Jw.s hu;obtain⟨uS,Km⟩:∃uS:ai,uS=(uT.1,(dJ uT.2.1 (ah b) a,uT.2.2)):=⟨_,rfl⟩;have es:(az (p++q,d.2) (ah b) a).1=l++uS::r:=by rw[lf (d:=(p++q,d.2)) Jw _ hu hbu,Km];exact e4 _
 have nd:=Jw.ring hu;have hmS:a∈uS.2.1:=by
  have:=(rS nd hbu hau hbu).1;rw[Km];unfold qT at this
  rwa [if_pos rfl]at this
 have back:∀y∈uT.2.1,qT a (ah b) (qT (ah b) a y)=y:=fun y hy=>by
  unfold qT;by_cases c:y=ah b
  ·rw[if_pos c,if_pos rfl,c]
  ·rw[if_neg c,if_neg (fun kk:y=a=>hau (kk▸hy))]
 have hp:(aq d.1).Perm (b::ah b::aq (aF (az (p++q,d.2) (ah b) a) zI b.1).1):=by rw[PW];exact pd.trans ((List.Perm.swap b a _).trans (List.Perm.cons b p1))
 have aho:=hp.nodup_iff.1 h.rw.n;have acQ:∀y,y∈(aF (az (p++q,d.2) (ah b) a) zI b.1).1↔y∈l++uS::r:=fun y=>by rw[PW,es]
 refine⟨uS,uT,hs,h,fun y=>?_,(acQ uS).2 (abg _ abp),by rw[Km],rfl,hr,hmS,zt,fun e=>?_,fun e=>?_,fun z hz=>?_,hp,fun x hx=>?_,?_,?_⟩
 ·rw[h1,acQ];have w8:y∈p++vV::q↔y=vV∨y∈p++q:=by
   simp only[List.mem_append,List.mem_cons];constructor
   ·rintro(c|c|c)
    ·exact .inr (.inl c)
    ·exact .inl c
    ·exact .inr (.inr c)
   ·rintro(c|c|c)
    ·exact .inr (.inl c)
    ·exact .inl c
    ·exact .inr (.inr c)
  rw[w8,e1];have Zx:uS.1=uT.1:=by rw[Km]
  constructor
  ·rintro(c|c)
   ·exact .inl c
   ·rcases abw.1 c with c|c
    ·exact .inr (.inl ⟨abi _ c,by rw[Zx];exact e2 y (abi _ c)⟩)
    ·rcases abd.1 c with c|c
     ·exact .inr (.inr c)
     ·exact .inr (.inl ⟨abg _ (aa1 _ c),by rw[Zx];exact e2 y (abg _ c)⟩)
  ·rintro(c|⟨c,c2⟩|c)
   ·exact .inl c
   ·refine .inr ?_;rcases abw.1 c with c|c
    ·exact abi _ c
    ·rcases abd.1 c with c|c
     ·subst c;exact absurd rfl c2
     ·exact abg _ (aa1 _ c)
   ·rw[c];exact .inr (abg _ abp)
 ·exact(abv.1 aho).1 (aa1 _ e)
 ·exact(abv.1 (abv.1 aho).2).1 e
 ·rw[Km]at hz;obtain⟨y,hy,rfl⟩:=SC nd hbu hau hz;have n1:=(rS nd hbu hau hy).2;have n2:dL uS.2.1 (qT (ah b) a y)=qT (ah b) a (dL uT.2.1 y):=by rw[Km];exact n1
  have b1:=back y hy;have b2:=back _ (jT nd hy);show qT a (ah b) (qT (ah b) a y)∈uT.2.1∧dL uT.2.1 (qT a (ah b) (qT (ah b) a y))=qT a (ah b) (dL uS.2.1 (qT (ah b) a y));rw[b1,n2,b2];exact⟨hy,rfl⟩
 ·have hx:=(acQ x).1 hx;have:∃y∈p++q,y.1=x.1:=by
   rw[e1];rcases abw.1 hx with c|c
   ·exact⟨x,abi _ c,rfl⟩
   ·rcases abd.1 c with c|c
    ·exact⟨uT,abg _ abp,by rw[c,Km]⟩
    ·exact⟨x,abg _ (aa1 _ c),rfl⟩
  obtain⟨y,hy,e⟩:=this;rw[←e];exact bq y hy
 ·rw[PW,es,h1];have:=congrArg List.length e1;simp at this ⊢;omega
 ·rw[PW,es,h1];have z1:=AP p q vV;have z2:=AP l r uS;have z3:=AP l r uT;have z4:=JN p q;rw[e1]at z4;rw[AQ (hrp.mem_iff.2 (by simp):a∈vV.2.1)]at z1;rw[AQ hmS]at z2;rw[AQ hbu]at z3;simp at z1 z2 z3;omega
theorem cg:bK zS.1=0:=by have hr:pT zS.1 []:=⟨List.nodup_nil,fun r h=>(by cases h),fun r h=>(by cases h),fun v h=>(by cases h)⟩;rw[fD Wf.zero hr];rfl
theorem Mv{s:StateT}(h:dN s)(hg:bK s.1=0)(o:aW):bK (bT s o).1.1=0:=by
 have hw:=(h.one o).d;unfold bT at hw ⊢
 split
 ·exact cg
 rename_i hm;rw[if_neg hm]at hw;have hm:bm o=0:=Classical.byContradiction fun k=>hm k
 split
 ·rename_i h1;rw[if_pos h1]at hw;unfold l8 at hw ⊢
  split
  ·exact cg
  rename_i k1;rw[if_neg k1]at hw
  split
  ·exact cg
  rename_i k2;rw[if_neg k2]at hw;exact SB h.d (by simpa[aO] using k1) hw hg
 rename_i h1;rw[if_neg h1]at hw
 split
 ·unfold qD
  cases hv:aO s.1 (au o) with
  |none=>exact cg
  |some v =>
   simp only
   split
   ·exact cg
   ·rename_i hr;have hl:Lone s.1 v:=⟨h.d,du hv,by simpa using hr⟩;have:=(HW hl).1 hg;rw[gj hv]at this;exact this
 rename_i h2;rw[if_neg h2]at hw
 split
 ·unfold kK
  split;· exact cg
  split;· exact cg
  split;· exact cg
  split;· exact cg
  split;· exact cg
  rename_i k;exact Classical.byContradiction fun q=>k q
 rename_i h3;rw[if_neg h3]at hw
 split
 ·unfold wM
  split;· exact cg
  rename_i k1;exact Xe (x:=au o) ⟨h.d,ng k1⟩ hg
 rename_i h4;rw[if_neg h4]at hw
 split
 ·rename_i hk;rw[if_pos hk]at hw;unfold iS at hw ⊢
  split;· exact cg
  rename_i k1;rw[if_neg k1]at hw
  split;· exact cg
  rename_i k2;rw[if_neg k2]at hw
  split;· exact cg
  rename_i k3;rw[if_neg k3]at hw
  split;· exact cg
  rename_i k4;rw[if_neg k4]at hw
  split;· exact cg
  rename_i k5;rw[if_neg k5]at hw;obtain⟨m1,m2,m3,m4⟩:=nc hm hk;obtain⟨s1,s2⟩:=yG m3 m4;obtain⟨uS,uT,vV,fr⟩:=Xh (d:=s.1) (m:=Jn o) (k:=F3 o) (v:=b6 o) h.d s1 s2 (ng k1) (by simpa[aO] using k2) (by simpa[cH,F3] using k3) hw;exact fr.flat.1 hg
 rename_i h5;rw[if_neg h5]at hw
 split
 ·rename_i h6;rw[if_pos h6]at hw;unfold fU at hw ⊢
  split
  ·exact cg
  ·rename_i v hv;rw[hv]at hw;have E6:=du hv;have LP:=gj hv;simp only at hw
   split
   ·rename_i r0 r1 hr;rw[hr]at hw;simp only at hw;have key:∀a b:ae,(v.2.1=[a,b]∨v.2.1=[b,a])→a.1≠b.1→Wf (Gz s o a b)→bK (Gz s o a b)=0:=fun a b hp mI TP=>by unfold Gz at TP ⊢;rw[←LP]at TP ⊢;obtain⟨uS,uT,fr⟩:=SD h.d E6 hp mI TP;exact fr.flat.2 hg
    unfold dG at hw ⊢
    split;· exact cg
    rename_i bq;rw[if_neg bq]at hw
    split
    ·rename_i c;rw[if_pos c]at hw;exact key r1 r0 (.inr hr) (fun k=>bq k.symm) hw
    rename_i c;rw[if_neg c]at hw
    split
    ·rename_i c2;rw[if_pos c2]at hw;exact key r0 r1 (.inl hr) bq hw
    ·exact cg
   ·exact cg
 rename_i h6;rw[if_neg h6]at hw;unfold qC at hw ⊢
 split
 ·rename_i c;rw[if_pos c]at hw;exact FJ (HX o) h.d hw hg
 ·exact cg
theorem Qs:∀(l:List aW) {s:StateT},dN s→bK s.1=0→bK (j5 l s).1.1=0
 |[],s,h,hg=>hg
 |o::r,s,h,hg=>by
  unfold j5
  split
  ·exact cg
  ·exact Qs r (h.one o) (Mv h hg o)
theorem OT{s:StateT}(h:dN s)(hg:bK s.1=0)(l:List aW):bK (cX s l).1.1=0:=by
 unfold cX
 split
 ·exact cg
 ·exact Qs l h hg
end Go.Vs
