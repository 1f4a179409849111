/- Whatever is done -/
import Derived.Test.YtpkfpbpbkabkdaaGreatEuler
set_option linter.unusedVariables false
set_option linter.unusedSimpArgs false
namespace Go.Vs
open Go.Proofs Go.Cy
variable {G:(f:FuncId)→(g:aX)→Option (g.A→Option g.B)}
structure Lone(d:ak)(v:ai):Prop where
 w:Wf d
 m:v∈d.1
 r:v.2.1=[]
theorem Lone.split{d:ak}{v:ai}(h:Lone d v):∃a b,d.1=a++v::b∧(aF d v.1 zI)=(a++b,d.2)∧aq (a++b) ⊆ aq d.1∧(aq d.1).Perm (aq (a++b)):=by
 obtain⟨a,b,h1,_,h2,_⟩:=mu h.w.sv h.m;have p:(aq d.1).Perm (aq (a++b)):=by have:=gY a b v;rw[←h1,h.r,List.nil_append]at this;exact this
 exact⟨a,b,h1,by unfold aF;rw[h2,kx h.w.ge],fun x hx=>p.mem_iff.2 hx,p⟩
theorem Lone.wf{d:ak}{v:ai}(h:Lone d v):Wf (aF d v.1 zI):=h.w.VU h.m h.r
theorem Lone.mem{d:ak}{v:ai}(h:Lone d v){u:ai}:u∈(aF d v.1 zI).1↔u∈d.1∧u.1≠v.1:=by show u∈bE d.1 v.1↔_;unfold bE;rw[List.mem_filter];simp
theorem Lone.WV{d:ak}{v:ai}(h:Lone d v):(aq (aF d v.1 zI).1).Perm (aq d.1):=by obtain⟨a,b,_,h2,_,h3⟩:=h.split;rw[h2];exact h3.symm
theorem Lone.WW{d:ak}{v:ai}(h:Lone d v){u:ai}{z:ae}(hu:u∈d.1)(hz:z∈u.2.1):u∈(aF d v.1 zI).1:=by refine h.mem.2 ⟨hu,fun k=>?_⟩;rw[vI h.w.sv h.m hu k,h.r]at hz;simp at hz
theorem Lone.at{d:ak}{v:ai}(h:Lone d v){z:ae}(hz:z∈aq d.1):bJ (aF d v.1 zI) z=bJ d z:=by obtain⟨u,hu,Gs⟩:=aM.1 hz;show EM (aF d v.1 zI).1 z=EM d.1 z;rw[dp h.w.rw hu Gs,dp h.wf.rw (h.WW hu Gs) Gs]
theorem Lone.YT{d:ak}{v:ai}(h:Lone d v){a b:ID}:BI (aF d v.1 zI) a b↔BI d a b:=by
 constructor
 ·rintro⟨z,hz,h1,h2⟩;have hz:=h.WV.mem_iff.1 hz;exact⟨z,hz,by rw[←h.at hz];exact h1,by rw[←h.at (h.w.other hz)];exact h2⟩
 ·rintro⟨z,hz,h1,h2⟩;exact⟨z,h.WV.mem_iff.2 hz,by rw[h.at hz];exact h1,by rw[h.at (h.w.other hz)];exact h2⟩
theorem Lone.conn{d:ak}{v:ai}(h:Lone d v){a b:ID}:cI (aF d v.1 zI) a b↔cI d a b:=by
 constructor
 ·intro k
  induction k with
  |refl=>exact .refl _
  |tail _ j ih=>exact ih.tail (h.YT.1 j)
 ·intro k
  induction k with
  |refl=>exact .refl _
  |tail _ j ih=>exact ih.tail (h.YT.2 j)
theorem Lone.alone{d:ak}{v:ai}(h:Lone d v){b:ID}(k:cI d v.1 b):b=v.1:=by
 have key:∀{a b:ID},cI d a b→a=v.1→b=v.1:=fun {a b} k ha=>by
  induction k with
  |refl=>exact ha
  |tail _ j ih =>obtain⟨z,hz,h1,_⟩:=j;obtain⟨u,hu,Gs,Bc⟩:=tN h.w hz;rw[Bc,ih]at h1;have:=abZ h1;rw[vI h.w.sv h.m hu this,h.r]at Gs;simp at Gs
 exact key k rfl
theorem Lone.B7{d:ak}{v:ai}(h:Lone d v){R:List ID}(hr:pR d R):∃R2,pR (aF d v.1 zI) R2∧R2.length+1=R.length:=by
 obtain⟨r,B6,hvr⟩:=hr.c v h.m;have hv:v.1∈R:=by rw[←h.alone hvr];exact B6
 refine⟨R.erase v.1,⟨hr.n.erase _,fun s hs=>?_,fun s hs t ht k=>hr.i s (adW hs) t (adW ht) (h.conn.1 k),fun u hu=>?_⟩,?_⟩
 ·obtain⟨u,hu,he⟩:=hr.v s (adW hs);refine⟨u,h.mem.2 ⟨hu,fun k=>?_⟩,he⟩;have:s=v.1:=he.symm.trans k;subst this;exact absurd hs (List.Nodup.not_mem_erase hr.n)
 ·obtain⟨hu1,hu2⟩:=h.mem.1 hu;obtain⟨s,hs,Ki⟩:=hr.c u hu1;refine⟨s,(ad3 fun k=>?_).2 hs,h.conn.2 Ki⟩;subst k;exact hu2 (h.alone (Ki.symm h.w))
 ·rw[List.length_erase_of_mem hv];have:=adj hv;omega
theorem Lone.ph{d:ak}{v:ai}(h:Lone d v){z:ae}(hz:z∈aq d.1):ph (aF d v.1 zI) z=ph d z:=by rw[iO hz,iO (h.WV.mem_iff.2 hz)];obtain⟨u,hu,Gs⟩:=aM.1 (h.w.other hz);rw[jn h.w.rw hu Gs,jn h.wf.rw (h.WW hu Gs) Gs]
theorem Lone.b5{d:ak}{v:ai}(h:Lone d v):(Vs.b5 (aF d v.1 zI)).length=(Vs.b5 d).length:=by have a:=bK h.wf;have b:=bK h.w;refine HD.count h.w.rw.n ⟨fun c hc=>?_,a.p.trans h.WV⟩ b;refine(a.c c hc).congr fun z hz=>?_;have:z∈aq (aF d v.1 zI).1:=a.p.mem_iff.1 (ac8.2 ⟨c,hc,hz⟩);exact(h.ph (h.WV.mem_iff.1 this)).symm
theorem FB{d:ak}(hw:Wf d){R:List ID}(hr:pR d R):gh d=(R.length:Int):=by rw[uR hw,(mg hw (fL hw)).len hw hr]
structure yM(d:ak)(v:ai)(y:ae):Prop where
 w:Wf d
 m:v∈d.1
 r:v.2.1=[y]
theorem yM.mem{d:ak}{v:ai}{y:ae}(h:yM d v y):y∈aq d.1:=aM.2 ⟨v,h.m,by rw[h.r];simp⟩
theorem yM.cut{d:ak}{v:ai}{y:ae}(h:yM d v y):cf d y.1:=by obtain⟨e,he,h1,_⟩:=cO.1 (h.w.pd.mem_iff.1 h.mem);exact⟨h.w,by unfold aL;rw[List.find?_isSome];exact⟨e,he,by simpa using h1⟩⟩
theorem yM.lone{d:ak}{v:ai}{y:ae}(h:yM d v y):∃u,Lone (cg d y.1) u∧u.1=v.1:=by
 obtain⟨u,hu,bQ⟩:=h.cut.N8.2 ⟨v,h.m,rfl⟩;refine⟨u,⟨h.cut.w,hu,?_⟩,bQ⟩
 cases hq:u.2.1 with
 |nil=>rfl
 |cons z r =>
  exfalso;have hz:z∈u.2.1:=by rw[hq];simp
  have hzd:z∈aq (cg d y.1).1:=aM.2 ⟨u,hu,hz⟩;have h1:bJ (cg d y.1) z=some u.1:=dp h.cut.w.rw hu hz;rw[h.cut.at hzd,bQ]at h1;obtain⟨w,hw,JZ,Bc⟩:=tN h.w (h.cut.sub hzd);rw[Bc]at h1;have hwv:=vI h.w.sv h.m hw (abZ h1);rw[hwv,h.r]at JZ;have Qf:z=y:=by simpa using JZ
  have nd:=h.cut.p.nodup_iff.1 h.w.rw.n;have e:y=(y.1,y.2):=rfl;rcases h.w.side h.mem with k|k
  ·rw[k]at e;exact(abv.1 nd).1 (aa6 _ (e▸Qf▸hzd))
  ·rw[k]at e;exact(abv.1 (abv.1 nd).2).1 (e▸Qf▸hzd)
theorem yM.back{d:ak}{v:ai}{y:ae}(h:yM d v y):ph d (ah y)=y:=by
 rw[iO (h.w.other h.mem),bS (h.w.side h.mem)];have hy:y∈v.2.1:=by rw[h.r];simp
 rw[jn h.w.rw h.m hy];exact(HI (h.w.rw.ring h.m) hy).2 (by rw[h.r];rfl)
theorem yM.one{d:ak}{v:ai}{y:ae}(h:yM d v y):Ju d (y.1,0) (y.1,1):=by
 have hm:ah y∈(b5 d).flatten:=(bK h.w).p.mem_iff.2 (h.w.other h.mem);obtain⟨c,hc,h1⟩:=ac8.1 hm;have h2:=((bK h.w).c c hc).step h1;rw[h.back]at h2;have e:y=(y.1,y.2):=rfl;have eo:ah y=(y.1,(ah y).2):=rfl;obtain⟨_,k⟩:=iJ (h.w.side h.mem);rcases k with⟨k1,k2⟩|⟨k1,k2⟩
 ·rw[k1]at e;rw[k2]at eo;exact⟨c,hc,e▸h2,eo▸h1⟩
 ·rw[k1]at e;rw[k2]at eo;exact⟨c,hc,eo▸h1,e▸h2⟩
theorem yM.b5{d:ak}{v:ai}{y:ae}(h:yM d v y):(Vs.b5 (cg d y.1)).length≤(Vs.b5 d).length:=by
 have h1:=(h.cut.same h.one).2;have hb:=h.back;have e:y=(y.1,y.2):=rfl;have eo:ah y=(y.1,(ah y).2):=rfl;obtain⟨_,k⟩:=iJ (h.w.side h.mem);rcases k with⟨k1,k2⟩|⟨k1,k2⟩
 ·rw[k1]at e;rw[k2]at eo;have:ph d (y.1,1)=(y.1,0):=by rw[←eo,hb];exact e
  rw[if_pos this]at h1
  split at h1<;>omega
 ·rw[k1]at e;rw[k2]at eo;have:ph d (y.1,0)=(y.1,1):=by rw[←eo,hb];exact e
  rw[if_pos this]at h1
  split at h1<;>omega
theorem yM.parts{d:ak}{v:ai}{y:ae}(h:yM d v y){u:ai}(hu:Lone (cg d y.1) u)(bQ:u.1=v.1):gh (aF (cg d y.1) v.1 zI)=gh d:=by
 obtain⟨a,b,ha,hb,_,_⟩:=h.cut.Jw;have hr:=mg h.w (fL h.w);have XJ:bJ d y=some v.1:=dp h.w.rw h.m (by rw[h.r];simp);have XE:bJ d (ah y)≠some v.1:=fun k=>by
  obtain⟨w,hw,JZ,Bc⟩:=tN h.w (h.w.other h.mem);rw[Bc]at k;rw[vI h.w.sv h.m hw (Option.some.inj k),h.r]at JZ;have JZ:ah y=y:=by simpa using JZ
  obtain⟨_,m⟩:=iJ (h.w.side h.mem);rw[JZ]at m;omega
 have bq:a≠b∧(a=v.1∨b=v.1):=by
  have e:y=(y.1,y.2):=rfl;have eo:ah y=(y.1,(ah y).2):=rfl;obtain⟨_,k⟩:=iJ (h.w.side h.mem);rcases k with⟨k1,k2⟩|⟨k1,k2⟩
  ·rw[k1]at e;rw[k2]at eo;rw[e,ha]at XJ;rw[eo,hb]at XE;have:=abZ XJ;exact⟨fun k=>XE (by rw[←k,this]),.inl this⟩
  ·rw[k1]at e;rw[k2]at eo;rw[e,hb]at XJ;rw[eo,ha]at XE;have:=abZ XJ;exact⟨fun k=>XE (by rw[k,this]),.inr this⟩
 have A1:¬cI (cg d y.1) a b:=fun k=>by
  rcases bq.2 with m|m
  ·rw[m,←bQ]at k;exact bq.1 (m.trans (bQ▸hu.alone k).symm)
  ·rw[m,←bQ]at k;exact bq.1 ((bQ▸hu.alone (k.symm h.cut.w):a=v.1).trans m.symm)
 obtain⟨R2,h2,h3⟩:=h.cut.PS ha hb A1 hr;obtain⟨R3,h4,h5⟩:=hu.B7 h2;rw[bQ]at h4;have hwf:=hu.wf;rw[bQ]at hwf;rw[FB hwf h4,FB h.w hr];omega
theorem uW{k:Int}{x:ID}(hk:k=1∨k=2∨k=4)(hx:cz x=true):bm (vF k x)=0:=by
 unfold bm;have e:sw (km (vF k x)) FP=true:=by rcases hk with rfl|rfl|rfl<;>exact(kq _ _).2 rfl
 have h1:(vF k x).1=k:=rfl;rw[if_neg (by rw[h1];omega),if_neg (by rw[h1];omega),if_neg (by simp[vF,hx]),if_neg (by rw[e];simp),if_neg (by rw[h1];omega),if_neg (by rw[h1];omega),if_neg (by rw[h1];omega),if_neg (by rw[h1];omega),if_neg (by rw[h1];omega)]
end Go.Vs
namespace Go.Vs
open Go.Proofs Go.Cy
theorem qK{d:ak}(hw:Wf d):∃R,pR d R:=⟨_,mg hw (fL hw)⟩
theorem fD{d:ak}(hw:Wf d){R:List ID}(hr:pR d R):bY d=0↔d.1.length+ft d=2*R.length+d.2.length:=by
 obtain⟨k,h1,h2⟩:=Fj hw hr;rw[h1];constructor
 ·intro h;omega
 ·intro h;omega
theorem lk{d:ak}(hw:Wf d):(aq d.1).length=2*d.2.length:=by have:=hw.pd.length_eq;rw[BH]at this;omega
theorem WX{d':ak}{x:ID}(h:cf d' x)(hg:bY d'=0):bY (cg d' x)=0:=by
 obtain⟨u,w,hu,hw,_,_⟩:=h.Jw;obtain⟨R,hr⟩:=qK h.wf;have k:=(fD h.wf hr).1 hg;have hv:(cg d' x).1.length=d'.1.length:=by have:=congrArg List.length h.ids;simpa using this
 have he:(cg d' x).2.length+1=d'.2.length:=by have h1:=lk h.wf;have h2:=lk h.w;have h3:=h.p.length_eq;simp at h3;omega
 by_cases hc:cI (cg d' x) u w
 ·have DK:=h.B7 hu hw hc hr;by_cases ho:Ju d' (x,0) (x,1)
  ·have h1:=(h.same ho).1;obtain⟨j,_,h2⟩:=Fj h.w DK;omega
  ·have h1:=h.diff ho;rw[fD h.w DK];omega
 ·obtain⟨R2,DK,hl⟩:=h.PS hu hw hc hr;have ho:Ju d' (x,0) (x,1):=Classical.byContradiction fun ho=>hc (h.Az hu hw ho);have h1:=(h.same ho).1;rw[fD h.w DK];omega
theorem JH(a b:List ai):al (a++b)=al a+al b:=List.countP_append
theorem HQ{d:ak}{v:ai}(h:Lone d v):bY d=0↔bY (aF d v.1 zI)=0:=by
 obtain⟨R,hr⟩:=qK h.w;obtain⟨R2,DK,hl⟩:=h.B7 hr;rw[fD h.w hr,fD h.wf DK];obtain⟨a,b,k1,k2,_,_⟩:=h.split;have hf:=h.b5;have e1:d.1.length=(aF d v.1 zI).1.length+1:=by rw[k1,k2];simp;omega
 have e2:(aF d v.1 zI).2.length=d.2.length:=by rw[k2]
 have e3:al d.1=al (aF d v.1 zI).1+1:=by
  rw[k1,k2];show al (a++v::b)=al (a++b)+1;rw[JH,JH];have:al (v::b)=al b+1:=by unfold al;rw[List.countP_cons,h.r];rfl
  omega
 have f1:ft d=(b5 d).length+al d.1:=rfl;have f2:ft (aF d v.1 zI)=(b5 (aF d v.1 zI)).length+al (aF d v.1 zI).1:=rfl;omega
theorem Sn{d:ak}(hw:Wf d){x:ID}(hx:aN d.1 x=none)(Lq:Wf (cr (x,([],(e0,0))) d.1,d.2))(hg:bY d=0):bY (cr (x,([],(e0,0))) d.1,d.2)=0:=by
 have hl:Lone (cr (x,([],(e0,0))) d.1,d.2) (x,([],(e0,0))):=⟨Lq,kr.2 (.inl rfl),rfl⟩;rw[HQ hl];have e:aF (cr (x,([],(e0,0))) d.1,d.2) x zI=d:=by have h1:=rG (x,([],(e0,0))) (l:=d.1) hx;have h2:=kx hw.ge;unfold aF;show(bE (cr (x,([],(e0,0))) d.1) x,bF d.2 zI)=d;rw[h2];exact congrArg (fun l:List ai=>((l,d.2):ak)) h1
 show bY (aF (cr (x,([],(e0,0))) d.1,d.2) x zI)=0;rw[e];exact hg
structure jr(f:ai→ai)(g:an→an):Prop where
 i:∀v,(f v).1=v.1
 r:∀v,(f v).2.1=v.2.1
 e:∀a,(g a).1=a.1
variable {f:ai→ai} {g:an→an}
theorem jr.aq(k:jr f g)(l:List ai):Vs.aq (l.map f)=Vs.aq l:=by unfold Vs.aq;rw[List.flatMap_map];congr 1;funext v;exact k.r v
theorem jr.at(k:jr f g)(l:List ai)(x:ae):EM (l.map f) x=EM l x:=by
 unfold EM;rw[List.find?_map];have:((fun v:ai=>decide (x∈v.2.1)) ∘ f)=fun v:ai=>decide (x∈v.2.1):=by funext v;show decide (x∈(f v).2.1)=_;rw[k.r]
 rw[this,Option.map_map];congr 1;funext v;exact k.i v
theorem jr.find(k:jr f g)(l:List ai)(x:ID):aN (l.map f) x=(aN l x).map f:=by
 unfold aN;rw[List.find?_map];have:((fun v:ai=>decide (v.1=x)) ∘ f)=fun v:ai=>decide (v.1=x):=by funext v;show decide ((f v).1=x)=_;rw[k.i]
 rw[this]
theorem jr.al(k:jr f g)(l:List ai):Vs.al (l.map f)=Vs.al l:=by unfold Vs.al;rw[List.countP_map];congr 1;funext v;show(f v).2.1.isEmpty=_;rw[k.r]
theorem jr.kH(k:jr f g)(d:ak)(x:ae):Vs.kH (d.1.map f,d.2.map g) x=Vs.kH d x:=by
 unfold Vs.kH;have h1:bJ (d.1.map f,d.2.map g) x=bJ d x:=k.at d.1 x;rw[h1]
 cases bJ d x with
 |none=>rfl
 |some a =>
  have h2:aV (d.1.map f,d.2.map g) a=aV d a:=by
   unfold aV aO;show((aN (d.1.map f) a).getD zV).2.1=_;rw[k.find]
   cases aN d.1 a with
   |none=>rfl
   |some v=>exact k.r v
  show cU (aV (d.1.map f,d.2.map g) a) x 1=_;rw[h2]
theorem jr.ph(k:jr f g)(d:ak)(x:ae):Vs.ph (d.1.map f,d.2.map g) x=Vs.ph d x:=by unfold Vs.ph JX;have h1:bJ (d.1.map f,d.2.map g) x=bJ d x:=k.at d.1 x;rw[h1,k.kH]
theorem jr.YT(k:jr f g)(d:ak){a b:ID}:BI (d.1.map f,d.2.map g) a b↔BI d a b:=by
 unfold BI;have h:∀z,bJ (d.1.map f,d.2.map g) z=bJ d z:=fun z=>k.at d.1 z;have hd:Vs.aq (d.1.map f)=Vs.aq d.1:=k.aq d.1;constructor
 ·rintro⟨z,h1,h2,h3⟩;exact⟨z,hd▸h1,(h z).symm.trans h2,(h _).symm.trans h3⟩
 ·rintro⟨z,h1,h2,h3⟩;exact⟨z,hd.symm▸h1,(h z).trans h2,(h _).trans h3⟩
theorem jr.conn(k:jr f g)(d:ak){a b:ID}:cI (d.1.map f,d.2.map g) a b↔cI d a b:=by
 constructor
 ·intro h
  induction h with
  |refl=>exact .refl _
  |tail _ j ih=>exact ih.tail ((k.YT d).1 j)
 ·intro h
  induction h with
  |refl=>exact .refl _
  |tail _ j ih=>exact ih.tail ((k.YT d).2 j)
theorem jr.B7(k:jr f g){d:ak}{R:List ID}(h:pR d R):pR (d.1.map f,d.2.map g) R:=by
 refine⟨h.n,fun r hr=>?_,fun r hr s hs hc=>h.i r hr s hs ((k.conn d).1 hc),fun v hv=>?_⟩
 ·obtain⟨v,hv,he⟩:=h.v r hr;exact⟨f v,ace.2 ⟨v,hv,rfl⟩,(k.i v).trans he⟩
 ·obtain⟨u,hu,rfl⟩:=ace.1 hv;obtain⟨r,hr,hc⟩:=h.c u hu;exact⟨r,hr,by rw[k.i];exact(k.conn d).2 hc⟩
theorem FC(k:jr f g){d:ak}(hw:Wf d)(Lq:Wf (d.1.map f,d.2.map g))(hg:bY d=0):bY (d.1.map f,d.2.map g)=0:=by obtain⟨R,hr⟩:=qK hw;have h:=(fD hw hr).1 hg;rw[fD Lq (k.B7 hr)];have hd:Vs.aq (d.1.map f)=Vs.aq d.1:=k.aq d.1;have a:=bK hw;have b:=bK Lq;have hc:(b5 (d.1.map f,d.2.map g)).length=(b5 d).length :=HD.count (D:=Vs.aq (d.1.map f)) Lq.rw.n b ⟨fun c hc=>(a.c c hc).congr fun z hz=>k.ph d z,a.p.trans (List.Perm.of_eq hd.symm)⟩;have f1:ft d=(b5 d).length+Vs.al d.1:=rfl;have f2:ft (d.1.map f,d.2.map g)=(b5 (d.1.map f,d.2.map g)).length+Vs.al (d.1.map f):=rfl;have hal:Vs.al (d.1.map f)=Vs.al d.1:=k.al d.1;show(d.1.map f).length+_=_+(d.2.map g).length;rw[List.length_map,List.length_map];omega
theorem HR(o:aW):jr (fJ o) (gL o):=by
 refine⟨fun v=>?_,fun v=>?_,fun a=>?_⟩
 ·unfold fJ;split
  ·split<;>rfl
  ·rfl
 ·unfold fJ;split
  ·split<;>rfl
  ·rfl
 ·unfold gL;split
  ·split<;>rfl
  ·rfl
end Go.Vs
namespace Go.Vs
open Go.Proofs Go.Cy
def hd(l:List ae):ae:=l.head?.getD zD
theorem HS{f g:ae→ae}{φ:ae→List ae}(hn:∀z,φ z≠[]):∀{c:List ae} {y:ae},(∀z∈c,Path g (φ z) (hd (φ (f z))))→Path f c y→Path g (c.flatMap φ) (hd (φ y))
 |[],y,_,_=>trivial
 |a::r,y,hp,h=>by
  obtain⟨h1,h2⟩:f a=r.head?.getD y∧Path f r y:=h;have ih:=HS hn (fun z hz=>hp z (aa6 _ hz)) h2;rw[List.flatMap_cons];refine Path.app.2 ⟨?_,ih⟩;have:=hp a abo;rw[h1]at this
  cases r with
  |nil=>exact this
  |cons b r =>
   have e:((b::r).flatMap φ).head?.getD (hd (φ y))=hd (φ b):=by
    rw[List.flatMap_cons]
    cases hb:φ b with
    |nil=>exact absurd hb (hn b)
    |cons q s=>rfl
   rw[e];exact this
theorem WY{f g:ae→ae}{φ:ae→List ae}(hn:∀z,φ z≠[]){c:List ae}(hp:∀z∈c,Path g (φ z) (hd (φ (f z))))(h:jv f c):jv g (c.flatMap φ):=by
 cases c with
 |nil=>exact h.elim
 |cons x r =>
  have h':Path f (x::r) x:=h;have:=HS hn hp h';rw[List.flatMap_cons]at this ⊢
  cases hx:φ x with
  |nil=>exact absurd hx (hn x)
  |cons q s =>rw[hx]at this;exact this
structure Sub(s t:ak)(v:ID)(m k:ae)(u w:ID):Prop where
 ws:Wf s
 wt:Wf t
 mm:m∈aq s.1
 kn:k∉aq s.1
 ok:ah k∉aq s.1
 kk:k≠ah k
 k2:k.2=0∨k.2=1
 p:(aq t.1).Perm (k::ah k::aq s.1)
 pm:∀z∈aq s.1,z≠ah m→ph t z=if ph s z=m then ah k else ph s z
 po:ph t (ah m)=k
 pk:ph t k=if ph s (ah m)=m then ah k else ph s (ah m)
 pq:ph t (ah k)=m
 am:bJ s m=some u
 ao:bJ s (ah m)=some w
 at_:∀z∈aq s.1,z≠m→bJ t z=bJ s z
 tm:bJ t m=some v
 tk:bJ t k=some v
 tq:bJ t (ah k)=some u
 vs:∀r,(∃x∈t.1,x.1=r)↔r=v∨∃x∈s.1,x.1=r
 nv:∀x∈s.1,x.1≠v
 len:t.1.length=s.1.length+1
 al:al t.1=al s.1
variable {s t:ak} {v:ID} {m k:ae} {u w:ID}
def qL(m k:ae)(z:ae):List ae:=if z=m then[ah k,m] else if z=ah m then[ah m,k] else[z]
theorem Zq(m k z:ae):qL m k z≠[]:=by
 unfold qL;by_cases e:z=m
 ·rw[if_pos e];simp
 ·rw[if_neg e];by_cases e2:z=ah m
  ·rw[if_pos e2];simp
  ·rw[if_neg e2];simp
theorem Sub.om(h:Sub s t v m k u w):ah m∈aq s.1:=h.ws.other h.mm
theorem ou{m:ae}(h:m.2=0∨m.2=1):ah m≠m:=fun e=>by obtain⟨_,k⟩:=iJ h;rw[e]at k;rcases k with⟨a,b⟩|⟨a,b⟩<;>omega
theorem acI(h:Sub s t v m k u w)(y:ae):hd (qL m k y)=if y=m then ah k else y:=by
 unfold qL;by_cases e:y=m
 ·rw[if_pos e,if_pos e];rfl
 ·rw[if_neg e,if_neg e];by_cases e2:y=ah m
  ·rw[if_pos e2,e2];rfl
  ·rw[if_neg e2];rfl
theorem Sub.b5(h:Sub s t v m k u w):(Vs.b5 t).length=(Vs.b5 s).length:=by
 have a:=bK h.ws;have b:=bK h.wt;have Zr:=ou (h.ws.side h.mm);have cyc:∀c∈Vs.b5 s,jv (ph t) (c.flatMap (qL m k)):=fun c hc=>by
  refine WY (Zq m k) (fun z hz=>?_) (a.c c hc);have hz:z∈aq s.1:=a.p.mem_iff.1 (ac8.2 ⟨c,hc,hz⟩);rw[acI h];unfold qL;by_cases e:z=m
  ·rw[if_pos e,e];exact⟨h.pq,h.pm m h.mm (fun q=>Zr q.symm),trivial⟩
  ·rw[if_neg e];by_cases e2:z=ah m
   ·rw[if_pos e2,e2];exact⟨h.po,h.pk,trivial⟩
   ·rw[if_neg e2];exact⟨h.pm z hz e2,trivial⟩
 have perm:((Vs.b5 s).map (·.flatMap (qL m k))).flatten.Perm (aq t.1):=by
  have e:((Vs.b5 s).map (·.flatMap (qL m k))).flatten=(Vs.b5 s).flatten.flatMap (qL m k):=by
   have:∀L:List (List ae),(L.map (·.flatMap (qL m k))).flatten=L.flatten.flatMap (qL m k):=by
    intro L
    induction L with
    |nil=>rfl
    |cons a L ih=>rw[List.map_cons,List.flatten_cons,List.flatten_cons,List.flatMap_append,ih]
   exact this _
  rw[e];refine(a.p.flatMap_right (qL m k)).trans ((?_:((aq s.1).flatMap (qL m k)).Perm _).trans h.p.symm);have nd:=h.ws.rw.n;obtain⟨r1,hr1⟩:∃r1,(aq s.1).Perm (m::r1):=⟨_,List.perm_cons_erase h.mm⟩;have hm1:ah m∈r1:=(abi.1 (hr1.mem_iff.1 h.om)).resolve_left Zr;obtain⟨r2,DK⟩:∃r2,r1.Perm (ah m::r2):=⟨_,List.perm_cons_erase hm1⟩;have hp:(aq s.1).Perm (m::ah m::r2):=hr1.trans (List.Perm.cons _ DK);have nd2:=hp.nodup_iff.1 nd;have bQ:r2.flatMap (qL m k)=r2:=by
   have:∀l:List ae,(∀z∈l,z≠m∧z≠ah m)→l.flatMap (qL m k)=l:=by
    intro l
    induction l with
    |nil=>intro _;rfl
    |cons z l ih =>intro hl;obtain⟨h1,h2⟩:=hl z abo;rw[List.flatMap_cons,ih fun y hy=>hl y (List.mem_cons_of_mem _ hy)];unfold qL;rw[if_neg h1,if_neg h2];rfl
   refine this r2 fun z hz=>⟨fun e=>?_,fun e=>?_⟩
   ·subst e;exact(abv.1 nd2).1 (aa6 _ hz)
   ·subst e;exact(abv.1 (abv.1 nd2).2).1 hz
  refine(hp.flatMap_right (qL m k)).trans ?_;rw[List.flatMap_cons,List.flatMap_cons,bQ];have e1:qL m k m=[ah k,m]:=if_pos rfl;have e2:qL m k (ah m)=[ah m,k]:=by unfold qL;rw[if_neg Zr,if_pos rfl]
  rw[e1,e2];refine List.Perm.trans ?_ (List.Perm.cons k (List.Perm.cons (ah k) hp.symm));show(ah k::m::ah m::k::r2).Perm (k::ah k::m::ah m::r2);exact(adf (l₁:=[ah k,m,ah m]) (l₂:=r2) (a:=k))
 have:=HD.count h.wt.rw.n b ⟨fun c hc=>by obtain⟨c0,h1,rfl⟩:=ace.1 hc;exact cyc c0 h1,perm⟩;rw[List.length_map]at this;exact this
theorem Sub.Qg(h:Sub s t v m k u w){a b:ID}(c:cI s a b):cI t a b:=by
 have dt:∀z∈aq s.1,z∈aq t.1:=fun z hz=>h.p.mem_iff.2 (aa6 _ (aa6 _ hz));have Zr:=ou (h.ws.side h.mm);have hqt:ah k∈aq t.1:=h.p.mem_iff.2 (by simp);have uv:BI t u v:=⟨ah k,hqt,h.tq,by rw[bS h.k2];exact h.tk⟩;have vw:BI t v w:=⟨m,dt m h.mm,h.tm,by rw[h.at_ _ h.om Zr];exact h.ao⟩;have uw:cI t u w:=uv.conn.trans vw.conn
 induction c with
 |refl=>exact .refl _
 |tail _ j ih =>
  refine ih.trans ?_;obtain⟨z,hz,h1,h2⟩:=j;by_cases e:z=m
  ·subst e;rw[h.am]at h1;rw[h.ao]at h2
   cases h1;cases h2
   exact uw
  ·by_cases e2:z=ah m
   ·subst e2;rw[h.ao]at h1;rw[bS (h.ws.side h.mm),h.am]at h2
    cases h1;cases h2
    exact uw.symm h.wt
   ·have e3:ah z≠m:=fun q=>e2 (by rw[←q,bS (h.ws.side hz)]);exact BI.conn ⟨z,dt z hz,by rw[h.at_ z hz e];exact h1,by rw[h.at_ _ (h.ws.other hz) e3];exact h2⟩
theorem Sub.Zs(h:Sub s t v m k u w){a b:ID}(c:cI t a b):cI s (if a=v then u else a) (if b=v then u else b):=by
 have Zr:=ou (h.ws.side h.mm);have uw:cI s u w:=BI.conn ⟨m,h.mm,h.am,h.ao⟩;have vof:∀{z x},z∈aq s.1→bJ s z=some x→x≠v:=fun {z x} hz hx=>by obtain⟨y,hy,_,h2⟩:=tN h.ws hz;rw[h2]at hx;cases hx;exact h.nv y hy
 have hu:=vof h.mm h.am;have hw:=vof h.om h.ao
 induction c with
 |refl=>exact .refl _
 |tail _ j ih =>
  refine ih.trans ?_;obtain⟨z,hz,h1,h2⟩:=j;have C3:=h.p.mem_iff.1 hz;rcases abi.1 C3 with rfl|C3
  ·rw[h.tk]at h1;rw[h.tq]at h2
   cases h1;cases h2
   rw[if_pos rfl,if_neg hu];exact .refl _
  ·rcases abi.1 C3 with rfl|C3
   ·rw[h.tq]at h1;rw[bS h.k2,h.tk]at h2
    cases h1;cases h2
    rw[if_neg hu,if_pos rfl];exact .refl _
   ·by_cases e:z=m
    ·subst e;rw[h.tm]at h1;rw[h.at_ _ h.om Zr,h.ao]at h2
     cases h1;cases h2
     rw[if_pos rfl,if_neg hw];exact uw
    ·by_cases e2:z=ah m
     ·subst e2;rw[h.at_ _ h.om Zr,h.ao]at h1;rw[bS (h.ws.side h.mm),h.tm]at h2
      cases h1;cases h2
      rw[if_neg hw,if_pos rfl];exact uw.symm h.ws
     ·have e3:ah z≠m:=fun q=>e2 (by rw[←q,bS (h.ws.side C3)]);rw[h.at_ z C3 e]at h1;rw[h.at_ _ (h.ws.other C3) e3]at h2;rw[if_neg (vof C3 h1),if_neg (vof (h.ws.other C3) h2)];exact BI.conn ⟨z,C3,h1,h2⟩
theorem Sub.B7(h:Sub s t v m k u w){R:List ID}(hr:pR s R):pR t R:=by
 refine⟨hr.n,fun r hrm=>(h.vs r).2 (.inr (hr.v r hrm)),fun r h1 q h2 c=>?_,fun x hx=>?_⟩
 ·obtain⟨x,hx,ZW⟩:=hr.v r h1;obtain⟨y,hy,hyq⟩:=hr.v q h2;have:=h.Zs c;rw[if_neg (by rw[←ZW];exact h.nv x hx),if_neg (by rw[←hyq];exact h.nv y hy)]at this;exact hr.i r h1 q h2 this
 ·rcases (h.vs x.1).1 ⟨x,hx,rfl⟩ with e|⟨y,hy,e⟩
  ·obtain⟨y,hy,_,hyu⟩:=tN h.ws h.mm;rw[h.am]at hyu;obtain⟨r,hrm,hc⟩:=hr.c y hy;refine⟨r,hrm,?_⟩;rw[e];have hqt:ah k∈aq t.1:=h.p.mem_iff.2 (by simp);have uv:BI t u v:=⟨ah k,hqt,h.tq,by rw[bS h.k2];exact h.tk⟩;have e2:u=y.1:=abZ hyu;exact(uv.symm h.wt).conn.trans (e2▸h.Qg hc)
  ·obtain⟨r,hrm,hc⟩:=hr.c y hy;exact⟨r,hrm,e▸h.Qg hc⟩
theorem WZ(h:Sub s t v m k u w):bY s=0↔bY t=0:=by obtain⟨R,hr⟩:=qK h.ws;rw[fD h.ws hr,fD h.wt (h.B7 hr)];have h1:=lk h.ws;have h2:=lk h.wt;have h3:=h.p.length_eq;have h4:=h.b5;have h5:=h.al;have h6:=h.len;have f1:ft s=(Vs.b5 s).length+Vs.al s.1:=rfl;have f2:ft t=(Vs.b5 t).length+Vs.al t.1:=rfl;simp at h3;omega
end Go.Vs
namespace Go.Vs
open Go.Proofs Go.Cy
structure Fr(s t:ak)(v:ID)(m k:ae)(uS uT vV:ai):Prop where
 ws:Wf s
 wt:Wf t
 mem:∀y,y∈t.1↔y=vV∨(y∈s.1∧y.1≠uS.1)∨y=uT
 us:uS∈s.1
 ui:uT.1=uS.1
 vi:vV.1=v
 vr:vV.2.1=[m,k]∨vV.2.1=[k,m]
 mm:m∈uS.2.1
 k2:k.2=0∨k.2=1
 kn:k∉aq s.1
 ok:ah k∉aq s.1
 nx:∀z∈uS.2.1,(if z=m then ah k else z)∈uT.2.1∧dL uT.2.1 (if z=m then ah k else z)=(if dL uS.2.1 z=m then ah k else dL uS.2.1 z)
 p:(aq t.1).Perm (k::ah k::aq s.1)
 nv:∀x∈s.1,x.1≠v
 len:t.1.length=s.1.length+1
 al:al t.1=al s.1
theorem AK{m k:ae}(h:m≠k):dL [m,k] m=k∧dL [m,k] k=m:=by
 have hn:[m,k].Nodup:=by simp[h]
 have a:=qF hn (i:=0) (x:=m) rfl;have b:=qF hn (i:=1) (x:=k) rfl;exact⟨a,by rw[b];simp⟩
variable {s t:ak} {v:ID} {m k:ae} {uS uT vV:ai}
theorem Fr.sub(h:Fr s t v m k uS uT vV):∃w,Sub s t v m k uS.1 w:=by
 have LO:m∈aq s.1:=aM.2 ⟨uS,h.us,h.mm⟩;have hod:ah m∈aq s.1:=h.ws.other LO;have Zr:=ou (h.ws.side LO);have IA:m≠k:=fun e=>h.kn (e▸LO);obtain⟨w,hw⟩:=ab3.1 (Fc hod);have hvt:vV∈t.1:=(h.mem vV).2 (.inl rfl);have Zt:uT∈t.1:=(h.mem uT).2 (.inr (.inr rfl));have rs:=h.ws.rw;have rt:=h.wt.rw;have Xv:m∈vV.2.1:=by rcases h.vr with e|e<;>rw[e]<;>simp
 have hkv:k∈vV.2.1:=by rcases h.vr with e|e<;>rw[e]<;>simp
 have sm:sg t m=k∧sg t k=m:=by
  rw[jn rt hvt Xv,jn rt hvt hkv];rcases h.vr with e|e
  ·rw[e];exact AK IA
  ·rw[e];exact⟨(AK (Ne.symm IA)).2,(AK (Ne.symm IA)).1⟩
 have hqu:ah k∈uT.2.1:=by have:=(h.nx m h.mm).1;rwa [if_pos rfl]at this
 have pl:∀z∈aq s.1,(∃y,y∈s.1∧z∈y.2.1∧y∈t.1∧z≠m∧sg s z≠m)∨z∈uS.2.1:=fun z hz=>by
  obtain⟨y,hy,Qf⟩:=aM.1 hz;by_cases e:y.1=uS.1
  ·have:=vI h.ws.sv h.us hy e;subst this;exact .inr Qf
  ·refine .inl ⟨y,hy,Qf,(h.mem y).2 (.inr (.inl ⟨hy,e⟩)),fun q=>?_,fun q=>?_⟩
   ·subst q;exact e (congrArg Prod.fst (rs.one h.us hy h.mm Qf))
   ·rw[jn rs hy Qf]at q;have:=jT (rs.ring hy) Qf;rw[q]at this;exact e (congrArg Prod.fst (rs.one h.us hy h.mm this))
 have sgm:∀z∈aq s.1,sg t (if z=m then ah k else z)=if sg s z=m then ah k else sg s z:=fun z hz=>by
  rcases pl z hz with⟨y,hy,Qf,hyt,h1,h2⟩|Gs
  ·rw[if_neg h1,if_neg h2,jn rt hyt Qf,jn rs hy Qf]
  ·obtain⟨n1,n2⟩:=h.nx z Gs;rw[jn rt Zt n1,jn rs h.us Gs];exact n2
 have up:∀z∈aq s.1,z∈aq t.1:=fun z hz=>h.p.mem_iff.2 (aa6 _ (aa6 _ hz));have kt:k∈aq t.1:=h.p.mem_iff.2 (by simp);have qt:ah k∈aq t.1:=h.p.mem_iff.2 (by simp);refine⟨w,h.ws,h.wt,LO,h.kn,h.ok,(fun e=>ou h.k2 e.symm),h.k2,h.p,fun z hz hzo=>?_,?_,?_,?_,?_,hw,fun z hz hzm=>?_,?_,?_,?_,fun r=>?_,h.nv,h.len,h.al⟩
 ·rw[iO (up z hz),iO hz];have bq:ah z≠m:=fun e=>hzo (by rw[←e,bS (h.ws.side hz)]);have:=sgm (ah z) (h.ws.other hz)
  rwa [if_neg bq]at this
 ·rw[iO (up _ hod),bS (h.ws.side LO)];exact sm.1
 ·rw[iO kt,iO hod,bS (h.ws.side LO)];have:=sgm m LO
  rwa [if_pos rfl]at this
 ·rw[iO qt,bS h.k2];exact sm.2
 ·exact dp rs h.us h.mm
 ·rcases pl z hz with⟨y,hy,Qf,hyt,_,_⟩|Gs
  ·exact(dp rt hyt Qf).trans (dp rs hy Qf).symm
  ·have n1:=(h.nx z Gs).1;rw[if_neg hzm]at n1;refine(dp rt Zt n1).trans ((congrArg some h.ui).trans (dp rs h.us Gs).symm)
 ·exact(dp rt hvt Xv).trans (congrArg some h.vi)
 ·exact(dp rt hvt hkv).trans (congrArg some h.vi)
 ·exact(dp rt Zt hqu).trans (congrArg some h.ui)
 ·constructor
  ·rintro⟨x,hx,rfl⟩;rcases (h.mem x).1 hx with rfl|⟨h1,_⟩|rfl
   ·exact .inl h.vi
   ·exact .inr ⟨x,h1,rfl⟩
   ·exact .inr ⟨uS,h.us,h.ui.symm⟩
  ·rintro(rfl|⟨x,hx,rfl⟩)
   ·exact⟨vV,hvt,h.vi⟩
   ·by_cases e:x.1=uS.1
    ·exact⟨uT,Zt,h.ui.trans e.symm⟩
    ·exact⟨x,(h.mem x).2 (.inr (.inl ⟨hx,e⟩)),rfl⟩
theorem Fr.flat(h:Fr s t v m k uS uT vV):bY s=0↔bY t=0:=by obtain⟨w,hs⟩:=h.sub;exact WZ hs
def qQ(m q z:ae):ae:=if z=m then q else z
theorem JI{row:List ae}(hn:row.Nodup){j:Nat}{m:ae}(hj:row[j]? = some m)(q:ae):row.set j q=row.map (qQ m q):=by
 apply adh;intro i;rw[List.getElem?_set,List.getElem?_map];by_cases e:j=i
 ·subst e;have:=(aa9.1 hj).1;rw[if_pos rfl,if_pos this,hj];simp[qQ]
 ·rw[if_neg e]
  cases hi:row[i]? with
  |none=>rfl
  |some x =>
   have:x≠m:=fun k=>by subst k;exact e (ng hn hj hi)
   simp[qQ,this]
theorem Mp{f g:ae→ae}{r:ae→ae}:∀{c:List ae} {y:ae},(∀z∈c,g (r z)=r (f z))→Path f c y→Path g (c.map r) (r y)
 |[],_,_,_=>trivial
 |a::c,y,h,p=>by
  obtain⟨h1,h2⟩:f a=c.head?.getD y∧Path f c y:=p;refine⟨?_,Mp (fun z hz=>h z (aa6 _ hz)) h2⟩;rw[h a List.mem_cons_self,h1]
  cases c<;>rfl
theorem Zu{f g:ae→ae}{r:ae→ae}{c:List ae}(h:∀z∈c,g (r z)=r (f z))(hc:jv f c):jv g (c.map r):=by
 cases c with
 |nil=>exact hc.elim
 |cons x c=>exact Mp (y:=x) h hc
theorem rP{row:List ae}(hn:row.Nodup){m q:ae}(hm:m∈row)(hq:q∉row){z:ae}(hz:z∈row):qQ m q z∈dJ row m q∧dL (dJ row m q) (qQ m q z)=qQ m q (dL row z):=by
 obtain⟨j,h1,h2,_⟩:=eU hm;have e:dJ row m q=bB (row.map (qQ m q)):=by unfold dJ;rw[if_pos ⟨hm,hq⟩,h1,Int.toNat_natCast,JI hn h2]
 have gI:qQ m q z∈row.map (qQ m q):=ace.2 ⟨z,hz,rfl⟩;have nd:(row.map (qQ m q)).Nodup:=by rw[←JI hn h2];exact HB hn h2 hq
 rw[e];refine⟨kl.2 gI,?_⟩;have nd2:(bB (row.map (qQ m q))).Nodup:=(fw _).nodup_iff.2 nd;have c1:jv (dL (bB (row.map (qQ m q)))) (row.map (qQ m q)):=by obtain⟨i,hi,he⟩:=mb (row.map (qQ m q));have:=tL nd2 (adP (kl.2 gI));rw[he]at this ⊢;exact LZ this
 have back:∀y∈row,qQ q m (qQ m q y)=y:=fun y hy=>by
  unfold qQ;by_cases a:y=m
  ·rw[if_pos a,if_pos rfl,a]
  ·rw[if_neg a,if_neg (fun kk:y=q=>hq (kk▸hy))]
 have c2:jv (fun y=>qQ m q (dL row (qQ q m y))) (row.map (qQ m q)):=by refine Zu (fun y hy=>?_) (tL hn (adP hz));show qQ m q (dL row (qQ q m (qQ m q y)))=_;rw[back y hy]
 have:=HH c1 c2 _ gI;rw[this];show qQ m q (dL row (qQ q m (qQ m q z)))=_;rw[back z hz]
end Go.Vs
namespace Go.Vs
open Go.Proofs Go.Cy
theorem Qh(v:ai):∀l:List ai,al (cr v l)=al (v::l)
 |[]=>rfl
 |w::r=>by
  have ih:=Qh v r;unfold cr
  split
  ·rfl
  ·unfold al at ih ⊢;rw[List.countP_cons,ih,List.countP_cons,List.countP_cons,List.countP_cons];omega
theorem AL(a b:List ai)(v:ai):al (a++v::b)=al a+(if v.2.1.isEmpty then 1 else 0)+al b:=by
 rw[JH];have:al (v::b)=al b+if v.2.1.isEmpty then 1 else 0:=by unfold al;rw[List.countP_cons]
 omega
theorem AM{l:List ae}{x:ae}(h:x∈l):l.isEmpty=false:=by cases l with
 |nil=>cases h
 |cons _ _=>rfl
theorem So{row:List ae}(hn:row.Nodup){m q:ae}(hm:m∈row)(hq:q∉row){z:ae}(hz:z∈dJ row m q):∃y∈row,z=qQ m q y:=by obtain⟨j,h1,h2,_⟩:=eU hm;unfold dJ at hz;rw[if_pos ⟨hm,hq⟩,h1,Int.toNat_natCast,JI hn h2]at hz;obtain⟨y,hy,e⟩:=ace.1 (kl.1 hz);exact⟨y,hy,e.symm⟩
theorem W0{d:ak}(h:Wf d){m k:ae}{v:ID}(zB:m.2=0∨m.2=1)(pH:k.2=0∨k.2=1)(hm:(aL d.2 m.1).isSome=true)(Qv:aN d.1 v=none)(hnk:aL d.2 k.1=none) (ht:Wf (cr (v,(bB [m,k],(e0,0))) (az d m (ah k)).1,bR (k.1,(e0,0)) (az d m (ah k)).2)) :
  ∃uS uT vV,Fr d (cr (v,(bB [m,k],(e0,0))) (az d m (ah k)).1,bR (k.1,(e0,0)) (az d m (ah k)).2) v m k uS uT vV:=by
 have LO:m∈aq d.1:=h.g9 hm zB;have GR:ah k∉aq d.1:=h.mP hnk _;have hkn:k∉aq d.1:=h.mP hnk _;obtain⟨p1,q1⟩:=iI h.rw LO GR;obtain⟨uS,hu,SC⟩:=aM.1 LO;have hqu:ah k∉uS.2.1:=fun e=>GR (aM.2 ⟨uS,hu,e⟩);obtain⟨a,b,e1,e2,_,e4⟩:=mu h.sv hu;obtain⟨uT,Zt⟩:∃uT:ai,uT=(uS.1,(dJ uS.2.1 m (ah k),uS.2.2)):=⟨_,rfl⟩;have es:(az d m (ah k)).1=a++uT::b:=by rw[la h.rw _ hu SC,Zt];exact e4 _
 have nd:=h.rw.ring hu;have hmT:ah k∈uT.2.1:=by
  have:=(rP nd SC hqu SC).1;rw[Zt];unfold qQ at this
  rwa [if_pos rfl]at this
 refine⟨uS,uT,(v,(bB [m,k],(e0,0))),h,ht,fun y=>?_,hu,by rw[Zt],rfl,E6 m k,SC,pH,hkn,GR,fun z hz=>?_,?_,fun x hx e=>?_,?_,?_⟩
 ·show y∈cr _ (az d m (ah k)).1↔_;rw[kr,es,e1];constructor
  ·rintro(k1|k1)
   ·exact .inl k1
   ·rcases abG.1 k1 with k1|k1
    ·exact .inr (.inl ⟨abn _ k1,e2 y (abn _ k1)⟩)
    ·rcases abi.1 k1 with k1|k1
     ·exact .inr (.inr k1)
     ·exact .inr (.inl ⟨abj _ (aa6 _ k1),e2 y (abj _ k1)⟩)
  ·rintro(k1|⟨k1,k2⟩|k1)
   ·exact .inl k1
   ·refine .inr ?_;rcases abG.1 k1 with k1|k1
    ·exact abn _ k1
    ·rcases abi.1 k1 with k1|k1
     ·subst k1;exact absurd rfl k2
     ·exact abj _ (aa6 _ k1)
   ·rw[k1];exact .inr (abj _ abo)
 ·rw[Zt];exact rP nd SC hqu hz
 ·show(aq (cr _ (az d m (ah k)).1)).Perm _;refine(wN _ _).trans ((ac3 _ (fw [m,k])).trans ?_);show(m::k::aq (az d m (ah k)).1).Perm _;exact(List.Perm.swap k m _).trans (List.Perm.cons k p1.symm)
 ·have:=eW h.sv hx;rw[e,Qv]at this;cases this
 ·show(cr _ (az d m (ah k)).1).length=_;rw[gu,es,e1];simp
 ·show al (cr _ (az d m (ah k)).1)=_;rw[Qh,es,e1];have z1:al ((v,(bB [m,k],((e0,0):ByteArray×Int)))::(a++uT::b))=al (a++uT::b):=by have:=AL [] (a++uT::b) (v,(bB [m,k],(e0,0)));rw[List.nil_append]at this;rw[this,if_neg (by rw[AM (x:=m) (kl.2 (by simp))];simp)];show al []+0+_=_;have:al []=0:=rfl;omega
  rw[z1,AL,AL,AM hmT,AM SC]
theorem Sp{d:ak}(h:Wf d){vV:ai}{a b:ae}(hv:vV∈d.1)(hr:vV.2.1=[a,b]∨vV.2.1=[b,a])(mI:a.1≠b.1)(hs:Wf (aF (az (aF d vV.1 zI) (ah b) a) zI b.1)) :
  ∃uS uT,Fr (aF (az (aF d vV.1 zI) (ah b) a) zI b.1) d vV.1 a b uS uT vV:=by
 have hrp:vV.2.1.Perm [a,b]:=by
  rcases hr with e|e
  ·rw[e]
  ·rw[e];exact List.Perm.swap _ _ _
 obtain⟨p,q,h1,bq,h2,_⟩:=mu h.sv hv;have pd:(aq d.1).Perm (a::b::aq (p++q)):=by have:=(gY p q vV).trans (ac3 _ hrp);rw[←h1]at this;exact this
 have N0:aF d vV.1 zI=(p++q,d.2):=by unfold aF;rw[h2,kx h.ge]
 have Ck:=pd.nodup_iff.1 h.rw.n;have hbd:b∈aq d.1:=pd.mem_iff.2 (by simp);have zp:=h.side hbd;have RU:ah b∈aq (p++q):=by
  have h3:=h.other hbd;rcases abi.1 (pd.mem_iff.1 h3) with k|k
  ·exact absurd (congrArg Prod.fst k) (fun k=>mI k.symm)
  rcases abi.1 k with k|k
  ·exact absurd k (ou zp)
  ·exact k
 have Js:Rw (p++q):=⟨by rw[←h2];exact kX h.sv,(abv.1 (abv.1 Ck).2).2⟩;have ha:a∉aq (p++q):=fun k=>(abv.1 Ck).1 (aa6 _ k);rw[N0]at hs ⊢;obtain⟨p1,q1⟩:=iI (d:=(p++q,d.2)) Js RU ha;have PJ:∀w∈(az (p++q,d.2) (ah b) a).1,GV w:=by
  refine og (d:=(p++q,d.2)) (fun w hw=>h.gv w ?_) _ _;rw[h1];rcases abG.1 hw with k|k
  ·exact abn _ k
  ·exact abj _ (aa6 _ k)
 have PL:(aF (az (p++q,d.2) (ah b) a) zI b.1).1=(az (p++q,d.2) (ah b) a).1:=lE PJ;obtain⟨uT,hu,hbu⟩:=aM.1 RU;have hau:a∉uT.2.1:=fun e=>ha (aM.2 ⟨uT,hu,e⟩);obtain⟨l,r,e1,e2,_,e4⟩:=mu Js.s hu;obtain⟨uS,Ki⟩:∃uS:ai,uS=(uT.1,(dJ uT.2.1 (ah b) a,uT.2.2)):=⟨_,rfl⟩;have es:(az (p++q,d.2) (ah b) a).1=l++uS::r:=by rw[la (d:=(p++q,d.2)) Js _ hu hbu,Ki];exact e4 _
 have nd:=Js.ring hu;have hmS:a∈uS.2.1:=by
  have:=(rP nd hbu hau hbu).1;rw[Ki];unfold qQ at this
  rwa [if_pos rfl]at this
 have back:∀y∈uT.2.1,qQ a (ah b) (qQ (ah b) a y)=y:=fun y hy=>by
  unfold qQ;by_cases c:y=ah b
  ·rw[if_pos c,if_pos rfl,c]
  ·rw[if_neg c,if_neg (fun kk:y=a=>hau (kk▸hy))]
 have hp:(aq d.1).Perm (b::ah b::aq (aF (az (p++q,d.2) (ah b) a) zI b.1).1):=by rw[PL];exact pd.trans ((List.Perm.swap b a _).trans (List.Perm.cons b p1))
 have ahf:=hp.nodup_iff.1 h.rw.n;have acJ:∀y,y∈(aF (az (p++q,d.2) (ah b) a) zI b.1).1↔y∈l++uS::r:=fun y=>by rw[PL,es]
 refine⟨uS,uT,hs,h,fun y=>?_,(acJ uS).2 (abj _ abo),by rw[Ki],rfl,hr,hmS,zp,fun e=>?_,fun e=>?_,fun z hz=>?_,hp,fun x hx=>?_,?_,?_⟩
 ·rw[h1,acJ];have w5:y∈p++vV::q↔y=vV∨y∈p++q:=by
   simp only[List.mem_append,List.mem_cons];constructor
   ·rintro(c|c|c)
    ·exact .inr (.inl c)
    ·exact .inl c
    ·exact .inr (.inr c)
   ·rintro(c|c|c)
    ·exact .inr (.inl c)
    ·exact .inl c
    ·exact .inr (.inr c)
  rw[w5,e1];have Zo:uS.1=uT.1:=by rw[Ki]
  constructor
  ·rintro(c|c)
   ·exact .inl c
   ·rcases abG.1 c with c|c
    ·exact .inr (.inl ⟨abn _ c,by rw[Zo];exact e2 y (abn _ c)⟩)
    ·rcases abi.1 c with c|c
     ·exact .inr (.inr c)
     ·exact .inr (.inl ⟨abj _ (aa6 _ c),by rw[Zo];exact e2 y (abj _ c)⟩)
  ·rintro(c|⟨c,c2⟩|c)
   ·exact .inl c
   ·refine .inr ?_;rcases abG.1 c with c|c
    ·exact abn _ c
    ·rcases abi.1 c with c|c
     ·subst c;exact absurd rfl c2
     ·exact abj _ (aa6 _ c)
   ·rw[c];exact .inr (abj _ abo)
 ·exact(abv.1 ahf).1 (aa6 _ e)
 ·exact(abv.1 (abv.1 ahf).2).1 e
 ·rw[Ki]at hz;obtain⟨y,hy,rfl⟩:=So nd hbu hau hz;have n1:=(rP nd hbu hau hy).2;have n2:dL uS.2.1 (qQ (ah b) a y)=qQ (ah b) a (dL uT.2.1 y):=by rw[Ki];exact n1
  have b1:=back y hy;have b2:=back _ (jT nd hy);show qQ a (ah b) (qQ (ah b) a y)∈uT.2.1∧dL uT.2.1 (qQ a (ah b) (qQ (ah b) a y))=qQ a (ah b) (dL uS.2.1 (qQ (ah b) a y));rw[b1,n2,b2];exact⟨hy,rfl⟩
 ·have hx:=(acJ x).1 hx;have:∃y∈p++q,y.1=x.1:=by
   rw[e1];rcases abG.1 hx with c|c
   ·exact⟨x,abn _ c,rfl⟩
   ·rcases abi.1 c with c|c
    ·exact⟨uT,abj _ abo,by rw[c,Ki]⟩
    ·exact⟨x,abj _ (aa6 _ c),rfl⟩
  obtain⟨y,hy,e⟩:=this;rw[←e];exact bq y hy
 ·rw[PL,es,h1];have:=congrArg List.length e1;simp at this ⊢;omega
 ·rw[PL,es,h1];have z1:=AL p q vV;have z2:=AL l r uS;have z3:=AL l r uT;have z4:=JH p q;rw[e1]at z4;rw[AM (hrp.mem_iff.2 (by simp):a∈vV.2.1)]at z1;rw[AM hmS]at z2;rw[AM hbu]at z3;simp at z1 z2 z3;omega
theorem cx:bY zS.1=0:=by have hr:pR zS.1 []:=⟨List.nodup_nil,fun r h=>(by cases h),fun r h=>(by cases h),fun v h=>(by cases h)⟩;rw[fD Wf.zero hr];rfl
theorem W9{s:StateT}(h:dU s)(hg:bY s.1=0)(o:aW):bY (bZ s o).1.1=0:=by
 have hw:=(h.one o).d;unfold bZ at hw ⊢
 split
 ·exact cx
 rename_i hm;rw[if_neg hm]at hw;have hm:bm o=0:=Classical.byContradiction fun k=>hm k
 split
 ·rename_i h1;rw[if_pos h1]at hw;unfold l8 at hw ⊢
  split
  ·exact cx
  rename_i k1;rw[if_neg k1]at hw
  split
  ·exact cx
  rename_i k2;rw[if_neg k2]at hw;exact Sn h.d (by simpa[aO] using k1) hw hg
 rename_i h1;rw[if_neg h1]at hw
 split
 ·unfold qA
  cases hv:aO s.1 (au o) with
  |none=>exact cx
  |some v =>
   simp only
   split
   ·exact cx
   ·rename_i hr;have hl:Lone s.1 v:=⟨h.d,dr hv,by simpa using hr⟩;have:=(HQ hl).1 hg;rw[gj hv]at this;exact this
 rename_i h2;rw[if_neg h2]at hw
 split
 ·unfold kJ
  split;· exact cx
  split;· exact cx
  split;· exact cx
  split;· exact cx
  split;· exact cx
  rename_i k;exact Classical.byContradiction fun q=>k q
 rename_i h3;rw[if_neg h3]at hw
 split
 ·unfold wK
  split;· exact cx
  rename_i k1;exact WX (x:=au o) ⟨h.d,nc k1⟩ hg
 rename_i h4;rw[if_neg h4]at hw
 split
 ·rename_i hk;rw[if_pos hk]at hw;unfold iS at hw ⊢
  split;· exact cx
  rename_i k1;rw[if_neg k1]at hw
  split;· exact cx
  rename_i k2;rw[if_neg k2]at hw
  split;· exact cx
  rename_i k3;rw[if_neg k3]at hw
  split;· exact cx
  rename_i k4;rw[if_neg k4]at hw
  split;· exact cx
  rename_i k5;rw[if_neg k5]at hw;obtain⟨m1,m2,m3,m4⟩:=mZ hm hk;obtain⟨s1,s2⟩:=yy m3 m4;obtain⟨uS,uT,vV,fr⟩:=W0 (d:=s.1) (m:=Jj o) (k:=FQ o) (v:=b6 o) h.d s1 s2 (nc k1) (by simpa[aO] using k2) (by simpa[cH,FQ] using k3) hw;exact fr.flat.1 hg
 rename_i h5;rw[if_neg h5]at hw
 split
 ·rename_i h6;rw[if_pos h6]at hw;unfold fU at hw ⊢
  split
  ·exact cx
  ·rename_i v hv;rw[hv]at hw;have EZ:=dr hv;have LL:=gj hv;simp only at hw
   split
   ·rename_i r0 r1 hr;rw[hr]at hw;simp only at hw;have key:∀a b:ae,(v.2.1=[a,b]∨v.2.1=[b,a])→a.1≠b.1→Wf (Gq s o a b)→bY (Gq s o a b)=0:=fun a b hp mI TF=>by unfold Gq at TF ⊢;rw[←LL]at TF ⊢;obtain⟨uS,uT,fr⟩:=Sp h.d EZ hp mI TF;exact fr.flat.2 hg
    unfold dG at hw ⊢
    split;· exact cx
    rename_i bq;rw[if_neg bq]at hw
    split
    ·rename_i c;rw[if_pos c]at hw;exact key r1 r0 (.inr hr) (fun k=>bq k.symm) hw
    rename_i c;rw[if_neg c]at hw
    split
    ·rename_i c2;rw[if_pos c2]at hw;exact key r0 r1 (.inl hr) bq hw
    ·exact cx
   ·exact cx
 rename_i h6;rw[if_neg h6]at hw;unfold qz at hw ⊢
 split
 ·rename_i c;rw[if_pos c]at hw;exact FC (HR o) h.d hw hg
 ·exact cx
end Go.Vs
