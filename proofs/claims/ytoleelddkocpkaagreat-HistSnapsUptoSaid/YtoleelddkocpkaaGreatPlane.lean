/- Whatever is done -/
import Derived.Test.YtoleelddkocpkaaGreatEuler
set_option linter.unusedVariables false
set_option linter.unusedSimpArgs false
namespace Go.Vs
open Go.Proofs Go.Cy
variable {G:(f:FuncId)→(g:aO)→Option (g.A→Option g.B)}
structure Lone(d:ar)(v:an):Prop where
 w:Wf d
 m:v∈d.1
 r:v.2.1=[]
theorem Lone.split{d:ar}{v:an}(h:Lone d v):∃a b,d.1=a++v::b∧(bj d v.1 zI)=(a++b,d.2)∧av (a++b) ⊆ av d.1∧(av d.1).Perm (av (a++b)):=by
 obtain⟨a,b,h1,_,h2,_⟩:=uy h.w.sv h.m;have p:(av d.1).Perm (av (a++b)):=by have:=lg a b v;rw[←h1,h.r,List.nil_append]at this;exact this
 exact⟨a,b,h1,by unfold bj;rw[h2,zB h.w.ge],fun x hx=>p.mem_iff.2 hx,p⟩
theorem Lone.wf{d:ar}{v:an}(h:Lone d v):Wf (bj d v.1 zI):=h.w.WW h.m h.r
theorem Lone.mem{d:ar}{v:an}(h:Lone d v){u:an}:u∈(bj d v.1 zI).1↔u∈d.1∧u.1≠v.1:=by show u∈gu d.1 v.1↔_;unfold gu;rw[List.mem_filter];simp
theorem Lone.X0{d:ar}{v:an}(h:Lone d v):(av (bj d v.1 zI).1).Perm (av d.1):=by obtain⟨a,b,_,h2,_,h3⟩:=h.split;rw[h2];exact h3.symm
theorem Lone.X1{d:ar}{v:an}(h:Lone d v){u:an}{z:ag}(hu:u∈d.1)(hz:z∈u.2.1):u∈(bj d v.1 zI).1:=by refine h.mem.2 ⟨hu,fun k=>?_⟩;rw[MS h.w.sv h.m hu k,h.r]at hz;simp at hz
theorem Lone.at{d:ar}{v:an}(h:Lone d v){z:ag}(hz:z∈av d.1):dA (bj d v.1 zI) z=dA d z:=by obtain⟨u,hu,Kk⟩:=aS.1 hz;show Gx (bj d v.1 zI).1 z=Gx d.1 z;rw[fk h.w.rw hu Kk,fk h.wf.rw (h.X1 hu Kk) Kk]
theorem Lone.adj{d:ar}{v:an}(h:Lone d v){a b:ID}:Cm (bj d v.1 zI) a b↔Cm d a b:=by
 constructor
 ·rintro⟨z,hz,h1,h2⟩;have hz:=h.X0.mem_iff.1 hz;exact⟨z,hz,by rw[←h.at hz];exact h1,by rw[←h.at (h.w.other hz)];exact h2⟩
 ·rintro⟨z,hz,h1,h2⟩;exact⟨z,h.X0.mem_iff.2 hz,by rw[h.at hz];exact h1,by rw[h.at (h.w.other hz)];exact h2⟩
theorem Lone.conn{d:ar}{v:an}(h:Lone d v){a b:ID}:cJ (bj d v.1 zI) a b↔cJ d a b:=by
 constructor
 ·intro k
  induction k with
  |refl=>exact .refl _
  |tail _ j ih=>exact ih.tail (h.adj.1 j)
 ·intro k
  induction k with
  |refl=>exact .refl _
  |tail _ j ih=>exact ih.tail (h.adj.2 j)
theorem Lone.alone{d:ar}{v:an}(h:Lone d v){b:ID}(k:cJ d v.1 b):b=v.1:=by
 have key:∀{a b:ID},cJ d a b→a=v.1→b=v.1:=fun {a b} k ha=>by
  induction k with
  |refl=>exact ha
  |tail _ j ih =>obtain⟨z,hz,h1,_⟩:=j;obtain⟨u,hu,Kk,Cx⟩:=uC h.w hz;rw[Cx,ih]at h1;have:=acP h1;rw[MS h.w.sv h.m hu this,h.r]at Kk;simp at Kk
 exact key k rfl
theorem Lone.Pg{d:ar}{v:an}(h:Lone d v){R:List ID}(hr:qP d R):∃R2,qP (bj d v.1 zI) R2∧R2.length+1=R.length:=by
 obtain⟨r,A3,hvr⟩:=hr.c v h.m;have hv:v.1∈R:=by rw[←h.alone hvr];exact A3
 refine⟨R.erase v.1,⟨hr.n.erase _,fun s hs=>?_,fun s hs t ht k=>hr.i s (aeQ hs) t (aeQ ht) (h.conn.1 k),fun u hu=>?_⟩,?_⟩
 ·obtain⟨u,hu,he⟩:=hr.v s (aeQ hs);refine⟨u,h.mem.2 ⟨hu,fun k=>?_⟩,he⟩;have:s=v.1:=he.symm.trans k;subst this;exact absurd hs (List.Nodup.not_mem_erase hr.n)
 ·obtain⟨hu1,hu2⟩:=h.mem.1 hu;obtain⟨s,hs,hus⟩:=hr.c u hu1;refine⟨s,(aeR fun k=>?_).2 hs,h.conn.2 hus⟩;subst k;exact hu2 (h.alone (hus.symm h.w))
 ·rw[List.length_erase_of_mem hv];have:=List.length_pos_of_mem hv;omega
theorem Lone.ph{d:ar}{v:an}(h:Lone d v){z:ag}(hz:z∈av d.1):ph (bj d v.1 zI) z=ph d z:=by rw[jX hz,jX (h.X0.mem_iff.2 hz)];obtain⟨u,hu,Kk⟩:=aS.1 (h.w.other hz);rw[kr h.w.rw hu Kk,kr h.wf.rw (h.X1 hu Kk) Kk]
theorem Lone.cv{d:ar}{v:an}(h:Lone d v):(Vs.cv (bj d v.1 zI)).length=(Vs.cv d).length:=by have a:=bX h.wf;have b:=bX h.w;refine Kj.count h.w.rw.n ⟨fun c hc=>?_,a.p.trans h.X0⟩ b;refine(a.c c hc).congr fun z hz=>?_;have:z∈av (bj d v.1 zI).1:=a.p.mem_iff.1 (adC.2 ⟨c,hc,hz⟩);exact(h.ph (h.X0.mem_iff.1 this)).symm
theorem F7{d:ar}(hw:Wf d){R:List ID}(hr:qP d R):fM d=(R.length:Int):=by rw[vK hw,(mg hw (fm hw)).len hw hr]
structure zP(d:ar)(v:an)(y:ag):Prop where
 w:Wf d
 m:v∈d.1
 r:v.2.1=[y]
theorem zP.mem{d:ar}{v:an}{y:ag}(h:zP d v y):y∈av d.1:=aS.2 ⟨v,h.m,by rw[h.r];simp⟩
theorem zP.cut{d:ar}{v:an}{y:ag}(h:zP d v y):b5 d y.1:=by obtain⟨e,he,h1,_⟩:=cy.1 (h.w.pd.mem_iff.1 h.mem);exact⟨h.w,by unfold ba;rw[List.find?_isSome];exact⟨e,he,by simpa using h1⟩⟩
theorem zP.lone{d:ar}{v:an}{y:ag}(h:zP d v y):∃u,Lone (dR d y.1) u∧u.1=v.1:=by
 obtain⟨u,hu,bM⟩:=h.cut.CI.2 ⟨v,h.m,rfl⟩;refine⟨u,⟨h.cut.w,hu,?_⟩,bM⟩
 cases hq:u.2.1 with
 |nil=>rfl
 |cons z r =>
  exfalso;have hz:z∈u.2.1:=by rw[hq];simp
  have hzd:z∈av (dR d y.1).1:=aS.2 ⟨u,hu,hz⟩;have h1:dA (dR d y.1) z=some u.1:=fk h.cut.w.rw hu hz;rw[h.cut.at hzd,bM]at h1;obtain⟨w,hw,NP,Cx⟩:=uC h.w (h.cut.sub hzd);rw[Cx]at h1;have hwv:=MS h.w.sv h.m hw (acP h1);rw[hwv,h.r]at NP;have Rl:z=y:=by simpa using NP
  have nd:=h.cut.p.nodup_iff.1 h.w.rw.n;have e:y=(y.1,y.2):=rfl;rcases h.w.side h.mem with k|k
  ·rw[k]at e;exact(acC.1 nd).1 (abg _ (e▸Rl▸hzd))
  ·rw[k]at e;exact(acC.1 (acC.1 nd).2).1 (e▸Rl▸hzd)
theorem zP.back{d:ar}{v:an}{y:ag}(h:zP d v y):ph d (aw y)=y:=by
 rw[jX (h.w.other h.mem),bZ (h.w.side h.mem)];have hy:y∈v.2.1:=by rw[h.r];simp
 rw[kr h.w.rw h.m hy];exact(IN (h.w.rw.ring h.m) hy).2 (by rw[h.r];rfl)
theorem zP.one{d:ar}{v:an}{y:ag}(h:zP d v y):Xm d (y.1,0) (y.1,1):=by
 have hm:aw y∈(cv d).flatten:=(bX h.w).p.mem_iff.2 (h.w.other h.mem);obtain⟨c,hc,h1⟩:=adC.1 hm;have h2:=((bX h.w).c c hc).step h1;rw[h.back]at h2;have e:y=(y.1,y.2):=rfl;have eo:aw y=(y.1,(aw y).2):=rfl;obtain⟨_,k⟩:=iP (h.w.side h.mem);rcases k with⟨k1,k2⟩|⟨k1,k2⟩
 ·rw[k1]at e;rw[k2]at eo;exact⟨c,hc,e▸h2,eo▸h1⟩
 ·rw[k1]at e;rw[k2]at eo;exact⟨c,hc,eo▸h1,e▸h2⟩
theorem zP.cv{d:ar}{v:an}{y:ag}(h:zP d v y):(Vs.cv (dR d y.1)).length≤(Vs.cv d).length:=by
 have h1:=(h.cut.same h.one).2;have hb:=h.back;have e:y=(y.1,y.2):=rfl;have eo:aw y=(y.1,(aw y).2):=rfl;obtain⟨_,k⟩:=iP (h.w.side h.mem);rcases k with⟨k1,k2⟩|⟨k1,k2⟩
 ·rw[k1]at e;rw[k2]at eo;have:ph d (y.1,1)=(y.1,0):=by rw[←eo,hb];exact e
  rw[if_pos this]at h1
  split at h1<;>omega
 ·rw[k1]at e;rw[k2]at eo;have:ph d (y.1,0)=(y.1,1):=by rw[←eo,hb];exact e
  rw[if_pos this]at h1
  split at h1<;>omega
theorem zP.parts{d:ar}{v:an}{y:ag}(h:zP d v y){u:an}(hu:Lone (dR d y.1) u)(bM:u.1=v.1):fM (bj (dR d y.1) v.1 zI)=fM d:=by
 obtain⟨a,b,ha,hb,_,_⟩:=h.cut.QR;have hr:=mg h.w (fm h.w);have YW:dA d y=some v.1:=fk h.w.rw h.m (by rw[h.r];simp);have YQ:dA d (aw y)≠some v.1:=fun k=>by
  obtain⟨w,hw,NP,Cx⟩:=uC h.w (h.w.other h.mem);rw[Cx]at k;rw[MS h.w.sv h.m hw (Option.some.inj k),h.r]at NP;have NP:aw y=y:=by simpa using NP
  obtain⟨_,m⟩:=iP (h.w.side h.mem);rw[NP]at m;omega
 have bA:a≠b∧(a=v.1∨b=v.1):=by
  have e:y=(y.1,y.2):=rfl;have eo:aw y=(y.1,(aw y).2):=rfl;obtain⟨_,k⟩:=iP (h.w.side h.mem);rcases k with⟨k1,k2⟩|⟨k1,k2⟩
  ·rw[k1]at e;rw[k2]at eo;rw[e,ha]at YW;rw[eo,hb]at YQ;have:=acP YW;exact⟨fun k=>YQ (by rw[←k,this]),.inl this⟩
  ·rw[k1]at e;rw[k2]at eo;rw[e,hb]at YW;rw[eo,ha]at YQ;have:=acP YW;exact⟨fun k=>YQ (by rw[k,this]),.inr this⟩
 have BI:¬cJ (dR d y.1) a b:=fun k=>by
  rcases bA.2 with m|m
  ·rw[m,←bM]at k;exact bA.1 (m.trans (bM▸hu.alone k).symm)
  ·rw[m,←bM]at k;exact bA.1 ((bM▸hu.alone (k.symm h.cut.w):a=v.1).trans m.symm)
 obtain⟨R2,h2,h3⟩:=h.cut.abS ha hb BI hr;obtain⟨R3,h4,h5⟩:=hu.Pg h2;rw[bM]at h4;have hwf:=hu.wf;rw[bM]at hwf;rw[F7 hwf h4,F7 h.w hr];omega
end Go.Vs
namespace Go.Vs
open Go.Proofs Go.Cy
theorem TN{d:ar}(hw:Wf d):∃R,qP d R:=⟨_,mg hw (fm hw)⟩
theorem Nj{d:ar}(hw:Wf d){R:List ID}(hr:qP d R):cX d=0↔d.1.length+ft d=2*R.length+d.2.length:=by
 obtain⟨k,h1,h2⟩:=M1 hw hr;rw[h1];constructor
 ·intro h;omega
 ·intro h;omega
theorem F8{d:ar}(hw:Wf d):(av d.1).length=2*d.2.length:=by have:=hw.pd.length_eq;rw[Cl]at this;omega
structure kJ(f:an→an)(g:aj→aj):Prop where
 i:∀v,(f v).1=v.1
 r:∀v,(f v).2.1=v.2.1
 e:∀a,(g a).1=a.1
variable {f:an→an} {g:aj→aj}
theorem kJ.av(k:kJ f g)(l:List an):Vs.av (l.map f)=Vs.av l:=by unfold Vs.av;rw[List.flatMap_map];congr 1;funext v;exact k.r v
theorem kJ.at(k:kJ f g)(l:List an)(x:ag):Gx (l.map f) x=Gx l x:=by
 unfold Gx;rw[List.find?_map];have:((fun v:an=>decide (x∈v.2.1)) ∘ f)=fun v:an=>decide (x∈v.2.1):=by funext v;show decide (x∈(f v).2.1)=_;rw[k.r]
 rw[this,Option.map_map];congr 1;funext v;exact k.i v
theorem kJ.find(k:kJ f g)(l:List an)(x:ID):aZ (l.map f) x=(aZ l x).map f:=by
 unfold aZ;rw[List.find?_map];have:((fun v:an=>decide (v.1=x)) ∘ f)=fun v:an=>decide (v.1=x):=by funext v;show decide ((f v).1=x)=_;rw[k.i]
 rw[this]
theorem kJ.al(k:kJ f g)(l:List an):Vs.al (l.map f)=Vs.al l:=by unfold Vs.al;rw[List.countP_map];congr 1;funext v;show(f v).2.1.isEmpty=_;rw[k.r]
theorem kJ.kH(k:kJ f g)(d:ar)(x:ag):Vs.kH (d.1.map f,d.2.map g) x=Vs.kH d x:=by
 unfold Vs.kH;have h1:dA (d.1.map f,d.2.map g) x=dA d x:=k.at d.1 x;rw[h1]
 cases dA d x with
 |none=>rfl
 |some a =>
  have h2:dd (d.1.map f,d.2.map g) a=dd d a:=by
   unfold dd cH;show((aZ (d.1.map f) a).getD zV).2.1=_;rw[k.find]
   cases aZ d.1 a with
   |none=>rfl
   |some v=>exact k.r v
  show fR (dd (d.1.map f,d.2.map g) a) x 1=_;rw[h2]
theorem kJ.ph(k:kJ f g)(d:ar)(x:ag):Vs.ph (d.1.map f,d.2.map g) x=Vs.ph d x:=by unfold Vs.ph KO;have h1:dA (d.1.map f,d.2.map g) x=dA d x:=k.at d.1 x;rw[h1,k.kH]
theorem kJ.adj(k:kJ f g)(d:ar){a b:ID}:Cm (d.1.map f,d.2.map g) a b↔Cm d a b:=by
 unfold Cm;have h:∀z,dA (d.1.map f,d.2.map g) z=dA d z:=fun z=>k.at d.1 z;have hd:Vs.av (d.1.map f)=Vs.av d.1:=k.av d.1;constructor
 ·rintro⟨z,h1,h2,h3⟩;exact⟨z,hd▸h1,(h z).symm.trans h2,(h _).symm.trans h3⟩
 ·rintro⟨z,h1,h2,h3⟩;exact⟨z,hd.symm▸h1,(h z).trans h2,(h _).trans h3⟩
theorem kJ.conn(k:kJ f g)(d:ar){a b:ID}:cJ (d.1.map f,d.2.map g) a b↔cJ d a b:=by
 constructor
 ·intro h
  induction h with
  |refl=>exact .refl _
  |tail _ j ih=>exact ih.tail ((k.adj d).1 j)
 ·intro h
  induction h with
  |refl=>exact .refl _
  |tail _ j ih=>exact ih.tail ((k.adj d).2 j)
theorem kJ.Pg(k:kJ f g){d:ar}{R:List ID}(h:qP d R):qP (d.1.map f,d.2.map g) R:=by
 refine⟨h.n,fun r hr=>?_,fun r hr s hs hc=>h.i r hr s hs ((k.conn d).1 hc),fun v hv=>?_⟩
 ·obtain⟨v,hv,he⟩:=h.v r hr;exact⟨f v,acE.2 ⟨v,hv,rfl⟩,(k.i v).trans he⟩
 ·obtain⟨u,hu,rfl⟩:=acE.1 hv;obtain⟨r,hr,hc⟩:=h.c u hu;exact⟨r,hr,by rw[k.i];exact(k.conn d).2 hc⟩
end Go.Vs
namespace Go.Vs
open Go.Proofs Go.Cy
def hd(l:List ag):ag:=l.head?.getD zD
theorem IW{f g:ag→ag}{φ:ag→List ag}(hn:∀z,φ z≠[]):∀{c:List ag} {y:ag},(∀z∈c,Path g (φ z) (hd (φ (f z))))→Path f c y→Path g (c.flatMap φ) (hd (φ y))
 |[],y,_,_=>trivial
 |a::r,y,hp,h=>by
  obtain⟨h1,h2⟩:f a=r.head?.getD y∧Path f r y:=h;have ih:=IW hn (fun z hz=>hp z (abg _ hz)) h2;rw[List.flatMap_cons];refine Path.app.2 ⟨?_,ih⟩;have:=hp a acD;rw[h1]at this
  cases r with
  |nil=>exact this
  |cons b r =>
   have e:((b::r).flatMap φ).head?.getD (hd (φ y))=hd (φ b):=by
    rw[List.flatMap_cons]
    cases hb:φ b with
    |nil=>exact absurd hb (hn b)
    |cons q s=>rfl
   rw[e];exact this
theorem X2{f g:ag→ag}{φ:ag→List ag}(hn:∀z,φ z≠[]){c:List ag}(hp:∀z∈c,Path g (φ z) (hd (φ (f z))))(h:ln f c):ln g (c.flatMap φ):=by
 cases c with
 |nil=>exact h.elim
 |cons x r =>
  have h':Path f (x::r) x:=h;have:=IW hn hp h';rw[List.flatMap_cons]at this ⊢
  cases hx:φ x with
  |nil=>exact absurd hx (hn x)
  |cons q s =>rw[hx]at this;exact this
structure Sub(s t:ar)(v:ID)(m k:ag)(u w:ID):Prop where
 ws:Wf s
 wt:Wf t
 mm:m∈av s.1
 kn:k∉av s.1
 ok:aw k∉av s.1
 kk:k≠aw k
 k2:k.2=0∨k.2=1
 p:(av t.1).Perm (k::aw k::av s.1)
 pm:∀z∈av s.1,z≠aw m→ph t z=if ph s z=m then aw k else ph s z
 po:ph t (aw m)=k
 pk:ph t k=if ph s (aw m)=m then aw k else ph s (aw m)
 pq:ph t (aw k)=m
 am:dA s m=some u
 ao:dA s (aw m)=some w
 at_:∀z∈av s.1,z≠m→dA t z=dA s z
 tm:dA t m=some v
 tk:dA t k=some v
 tq:dA t (aw k)=some u
 vs:∀r,(∃x∈t.1,x.1=r)↔r=v∨∃x∈s.1,x.1=r
 nv:∀x∈s.1,x.1≠v
 len:t.1.length=s.1.length+1
 al:al t.1=al s.1
variable {s t:ar} {v:ID} {m k:ag} {u w:ID}
def qU(m k:ag)(z:ag):List ag:=if z=m then[aw k,m] else if z=aw m then[aw m,k] else[z]
theorem aaG(m k z:ag):qU m k z≠[]:=by
 unfold qU;by_cases e:z=m
 ·rw[if_pos e];simp
 ·rw[if_neg e];by_cases e2:z=aw m
  ·rw[if_pos e2];simp
  ·rw[if_neg e2];simp
theorem Sub.om(h:Sub s t v m k u w):aw m∈av s.1:=h.ws.other h.mm
theorem uE{m:ag}(h:m.2=0∨m.2=1):aw m≠m:=fun e=>by obtain⟨_,k⟩:=iP h;rw[e]at k;rcases k with⟨a,b⟩|⟨a,b⟩<;>omega
theorem aef(h:Sub s t v m k u w)(y:ag):hd (qU m k y)=if y=m then aw k else y:=by
 unfold qU;by_cases e:y=m
 ·rw[if_pos e,if_pos e];rfl
 ·rw[if_neg e,if_neg e];by_cases e2:y=aw m
  ·rw[if_pos e2,e2];rfl
  ·rw[if_neg e2];rfl
theorem Sub.cv(h:Sub s t v m k u w):(Vs.cv t).length=(Vs.cv s).length:=by
 have a:=bX h.ws;have b:=bX h.wt;have hom:=uE (h.ws.side h.mm);have cyc:∀c∈Vs.cv s,ln (ph t) (c.flatMap (qU m k)):=fun c hc=>by
  refine X2 (aaG m k) (fun z hz=>?_) (a.c c hc);have hz:z∈av s.1:=a.p.mem_iff.1 (adC.2 ⟨c,hc,hz⟩);rw[aef h];unfold qU;by_cases e:z=m
  ·rw[if_pos e,e];exact⟨h.pq,h.pm m h.mm (fun q=>hom q.symm),trivial⟩
  ·rw[if_neg e];by_cases e2:z=aw m
   ·rw[if_pos e2,e2];exact⟨h.po,h.pk,trivial⟩
   ·rw[if_neg e2];exact⟨h.pm z hz e2,trivial⟩
 have perm:((Vs.cv s).map (·.flatMap (qU m k))).flatten.Perm (av t.1):=by
  have e:((Vs.cv s).map (·.flatMap (qU m k))).flatten=(Vs.cv s).flatten.flatMap (qU m k):=by
   have:∀L:List (List ag),(L.map (·.flatMap (qU m k))).flatten=L.flatten.flatMap (qU m k):=by
    intro L
    induction L with
    |nil=>rfl
    |cons a L ih=>rw[List.map_cons,List.flatten_cons,List.flatten_cons,List.flatMap_append,ih]
   exact this _
  rw[e];refine(a.p.flatMap_right (qU m k)).trans ((?_:((av s.1).flatMap (qU m k)).Perm _).trans h.p.symm);have nd:=h.ws.rw.n;obtain⟨r1,hr1⟩:∃r1,(av s.1).Perm (m::r1):=⟨_,List.perm_cons_erase h.mm⟩;have hm1:aw m∈r1:=(abq.1 (hr1.mem_iff.1 h.om)).resolve_left hom;obtain⟨r2,YM⟩:∃r2,r1.Perm (aw m::r2):=⟨_,List.perm_cons_erase hm1⟩;have hp:(av s.1).Perm (m::aw m::r2):=hr1.trans (List.Perm.cons _ YM);have nd2:=hp.nodup_iff.1 nd;have bM:r2.flatMap (qU m k)=r2:=by
   have:∀l:List ag,(∀z∈l,z≠m∧z≠aw m)→l.flatMap (qU m k)=l:=by
    intro l
    induction l with
    |nil=>intro _;rfl
    |cons z l ih =>intro hl;obtain⟨h1,h2⟩:=hl z acD;rw[List.flatMap_cons,ih fun y hy=>hl y (List.mem_cons_of_mem _ hy)];unfold qU;rw[if_neg h1,if_neg h2];rfl
   refine this r2 fun z hz=>⟨fun e=>?_,fun e=>?_⟩
   ·subst e;exact(acC.1 nd2).1 (abg _ hz)
   ·subst e;exact(acC.1 (acC.1 nd2).2).1 hz
  refine(hp.flatMap_right (qU m k)).trans ?_;rw[List.flatMap_cons,List.flatMap_cons,bM];have e1:qU m k m=[aw k,m]:=if_pos rfl;have e2:qU m k (aw m)=[aw m,k]:=by unfold qU;rw[if_neg hom,if_pos rfl]
  rw[e1,e2];refine List.Perm.trans ?_ (List.Perm.cons k (List.Perm.cons (aw k) hp.symm));show(aw k::m::aw m::k::r2).Perm (k::aw k::m::aw m::r2);exact(List.perm_middle (l₁:=[aw k,m,aw m]) (l₂:=r2) (a:=k))
 have:=Kj.count h.wt.rw.n b ⟨fun c hc=>by obtain⟨c0,h1,rfl⟩:=acE.1 hc;exact cyc c0 h1,perm⟩;rw[List.length_map]at this;exact this
theorem Sub.Rm(h:Sub s t v m k u w){a b:ID}(c:cJ s a b):cJ t a b:=by
 have dt:∀z∈av s.1,z∈av t.1:=fun z hz=>h.p.mem_iff.2 (abg _ (abg _ hz));have hom:=uE (h.ws.side h.mm);have hqt:aw k∈av t.1:=h.p.mem_iff.2 (by simp);have uv:Cm t u v:=⟨aw k,hqt,h.tq,by rw[bZ h.k2];exact h.tk⟩;have vw:Cm t v w:=⟨m,dt m h.mm,h.tm,by rw[h.at_ _ h.om hom];exact h.ao⟩;have uw:cJ t u w:=uv.conn.trans vw.conn
 induction c with
 |refl=>exact .refl _
 |tail _ j ih =>
  refine ih.trans ?_;obtain⟨z,hz,h1,h2⟩:=j;by_cases e:z=m
  ·subst e;rw[h.am]at h1;rw[h.ao]at h2
   cases h1;cases h2
   exact uw
  ·by_cases e2:z=aw m
   ·subst e2;rw[h.ao]at h1;rw[bZ (h.ws.side h.mm),h.am]at h2
    cases h1;cases h2
    exact uw.symm h.wt
   ·have e3:aw z≠m:=fun q=>e2 (by rw[←q,bZ (h.ws.side hz)]);exact Cm.conn ⟨z,dt z hz,by rw[h.at_ z hz e];exact h1,by rw[h.at_ _ (h.ws.other hz) e3];exact h2⟩
theorem Sub.aaI(h:Sub s t v m k u w){a b:ID}(c:cJ t a b):cJ s (if a=v then u else a) (if b=v then u else b):=by
 have hom:=uE (h.ws.side h.mm);have uw:cJ s u w:=Cm.conn ⟨m,h.mm,h.am,h.ao⟩;have vof:∀{z x},z∈av s.1→dA s z=some x→x≠v:=fun {z x} hz hx=>by obtain⟨y,hy,_,h2⟩:=uC h.ws hz;rw[h2]at hx;cases hx;exact h.nv y hy
 have hu:=vof h.mm h.am;have hw:=vof h.om h.ao
 induction c with
 |refl=>exact .refl _
 |tail _ j ih =>
  refine ih.trans ?_;obtain⟨z,hz,h1,h2⟩:=j;have DI:=h.p.mem_iff.1 hz;rcases abq.1 DI with rfl|DI
  ·rw[h.tk]at h1;rw[h.tq]at h2
   cases h1;cases h2
   rw[if_pos rfl,if_neg hu];exact .refl _
  ·rcases abq.1 DI with rfl|DI
   ·rw[h.tq]at h1;rw[bZ h.k2,h.tk]at h2
    cases h1;cases h2
    rw[if_neg hu,if_pos rfl];exact .refl _
   ·by_cases e:z=m
    ·subst e;rw[h.tm]at h1;rw[h.at_ _ h.om hom,h.ao]at h2
     cases h1;cases h2
     rw[if_pos rfl,if_neg hw];exact uw
    ·by_cases e2:z=aw m
     ·subst e2;rw[h.at_ _ h.om hom,h.ao]at h1;rw[bZ (h.ws.side h.mm),h.tm]at h2
      cases h1;cases h2
      rw[if_neg hw,if_pos rfl];exact uw.symm h.ws
     ·have e3:aw z≠m:=fun q=>e2 (by rw[←q,bZ (h.ws.side DI)]);rw[h.at_ z DI e]at h1;rw[h.at_ _ (h.ws.other DI) e3]at h2;rw[if_neg (vof DI h1),if_neg (vof (h.ws.other DI) h2)];exact Cm.conn ⟨z,DI,h1,h2⟩
theorem Sub.Pg(h:Sub s t v m k u w){R:List ID}(hr:qP s R):qP t R:=by
 refine⟨hr.n,fun r hrm=>(h.vs r).2 (.inr (hr.v r hrm)),fun r h1 q h2 c=>?_,fun x hx=>?_⟩
 ·obtain⟨x,hx,hxr⟩:=hr.v r h1;obtain⟨y,hy,hyq⟩:=hr.v q h2;have:=h.aaI c;rw[if_neg (by rw[←hxr];exact h.nv x hx),if_neg (by rw[←hyq];exact h.nv y hy)]at this;exact hr.i r h1 q h2 this
 ·rcases (h.vs x.1).1 ⟨x,hx,rfl⟩ with e|⟨y,hy,e⟩
  ·obtain⟨y,hy,_,hyu⟩:=uC h.ws h.mm;rw[h.am]at hyu;obtain⟨r,hrm,hc⟩:=hr.c y hy;refine⟨r,hrm,?_⟩;rw[e];have hqt:aw k∈av t.1:=h.p.mem_iff.2 (by simp);have uv:Cm t u v:=⟨aw k,hqt,h.tq,by rw[bZ h.k2];exact h.tk⟩;have e2:u=y.1:=acP hyu;exact(uv.symm h.wt).conn.trans (e2▸h.Rm hc)
  ·obtain⟨r,hrm,hc⟩:=hr.c y hy;exact⟨r,hrm,e▸h.Rm hc⟩
theorem X3(h:Sub s t v m k u w):cX s=0↔cX t=0:=by obtain⟨R,hr⟩:=TN h.ws;rw[Nj h.ws hr,Nj h.wt (h.Pg hr)];have h1:=F8 h.ws;have h2:=F8 h.wt;have h3:=h.p.length_eq;have h4:=h.cv;have h5:=h.al;have h6:=h.len;have f1:ft s=(Vs.cv s).length+Vs.al s.1:=rfl;have f2:ft t=(Vs.cv t).length+Vs.al t.1:=rfl;simp at h3;omega
end Go.Vs
namespace Go.Vs
open Go.Proofs Go.Cy
structure Fr(s t:ar)(v:ID)(m k:ag)(uS uT vV:an):Prop where
 ws:Wf s
 wt:Wf t
 mem:∀y,y∈t.1↔y=vV∨(y∈s.1∧y.1≠uS.1)∨y=uT
 us:uS∈s.1
 ui:uT.1=uS.1
 vi:vV.1=v
 vr:vV.2.1=[m,k]∨vV.2.1=[k,m]
 mm:m∈uS.2.1
 k2:k.2=0∨k.2=1
 kn:k∉av s.1
 ok:aw k∉av s.1
 nx:∀z∈uS.2.1,(if z=m then aw k else z)∈uT.2.1∧gx uT.2.1 (if z=m then aw k else z)=(if gx uS.2.1 z=m then aw k else gx uS.2.1 z)
 p:(av t.1).Perm (k::aw k::av s.1)
 nv:∀x∈s.1,x.1≠v
 len:t.1.length=s.1.length+1
 al:al t.1=al s.1
theorem Bw{m k:ag}(h:m≠k):gx [m,k] m=k∧gx [m,k] k=m:=by
 have hn:[m,k].Nodup:=by simp[h]
 have a:=qO hn (i:=0) (x:=m) rfl;have b:=qO hn (i:=1) (x:=k) rfl;exact⟨a,by rw[b];simp⟩
variable {s t:ar} {v:ID} {m k:ag} {uS uT vV:an}
theorem Fr.sub(h:Fr s t v m k uS uT vV):∃w,Sub s t v m k uS.1 w:=by
 have Ox:m∈av s.1:=aS.2 ⟨uS,h.us,h.mm⟩;have hod:aw m∈av s.1:=h.ws.other Ox;have hom:=uE (h.ws.side Ox);have Zr:m≠k:=fun e=>h.kn (e▸Ox);obtain⟨w,hw⟩:=acK.1 (FH hod);have hvt:vV∈t.1:=(h.mem vV).2 (.inl rfl);have hut:uT∈t.1:=(h.mem uT).2 (.inr (.inr rfl));have rs:=h.ws.rw;have rt:=h.wt.rw;have YG:m∈vV.2.1:=by rcases h.vr with e|e<;>rw[e]<;>simp
 have hkv:k∈vV.2.1:=by rcases h.vr with e|e<;>rw[e]<;>simp
 have sm:sg t m=k∧sg t k=m:=by
  rw[kr rt hvt YG,kr rt hvt hkv];rcases h.vr with e|e
  ·rw[e];exact Bw Zr
  ·rw[e];exact⟨(Bw (Ne.symm Zr)).2,(Bw (Ne.symm Zr)).1⟩
 have hqu:aw k∈uT.2.1:=by have:=(h.nx m h.mm).1;rwa [if_pos rfl]at this
 have pl:∀z∈av s.1,(∃y,y∈s.1∧z∈y.2.1∧y∈t.1∧z≠m∧sg s z≠m)∨z∈uS.2.1:=fun z hz=>by
  obtain⟨y,hy,Rl⟩:=aS.1 hz;by_cases e:y.1=uS.1
  ·have:=MS h.ws.sv h.us hy e;subst this;exact .inr Rl
  ·refine .inl ⟨y,hy,Rl,(h.mem y).2 (.inr (.inl ⟨hy,e⟩)),fun q=>?_,fun q=>?_⟩
   ·subst q;exact e (congrArg Prod.fst (rs.one h.us hy h.mm Rl))
   ·rw[kr rs hy Rl]at q;have:=ng (rs.ring hy) Rl;rw[q]at this;exact e (congrArg Prod.fst (rs.one h.us hy h.mm this))
 have sgm:∀z∈av s.1,sg t (if z=m then aw k else z)=if sg s z=m then aw k else sg s z:=fun z hz=>by
  rcases pl z hz with⟨y,hy,Rl,hyt,h1,h2⟩|Kk
  ·rw[if_neg h1,if_neg h2,kr rt hyt Rl,kr rs hy Rl]
  ·obtain⟨n1,n2⟩:=h.nx z Kk;rw[kr rt hut n1,kr rs h.us Kk];exact n2
 have up:∀z∈av s.1,z∈av t.1:=fun z hz=>h.p.mem_iff.2 (abg _ (abg _ hz));have kt:k∈av t.1:=h.p.mem_iff.2 (by simp);have qt:aw k∈av t.1:=h.p.mem_iff.2 (by simp);refine⟨w,h.ws,h.wt,Ox,h.kn,h.ok,(fun e=>uE h.k2 e.symm),h.k2,h.p,fun z hz hzo=>?_,?_,?_,?_,?_,hw,fun z hz hzm=>?_,?_,?_,?_,fun r=>?_,h.nv,h.len,h.al⟩
 ·rw[jX (up z hz),jX hz];have bA:aw z≠m:=fun e=>hzo (by rw[←e,bZ (h.ws.side hz)]);have:=sgm (aw z) (h.ws.other hz)
  rwa [if_neg bA]at this
 ·rw[jX (up _ hod),bZ (h.ws.side Ox)];exact sm.1
 ·rw[jX kt,jX hod,bZ (h.ws.side Ox)];have:=sgm m Ox
  rwa [if_pos rfl]at this
 ·rw[jX qt,bZ h.k2];exact sm.2
 ·exact fk rs h.us h.mm
 ·rcases pl z hz with⟨y,hy,Rl,hyt,_,_⟩|Kk
  ·exact(fk rt hyt Rl).trans (fk rs hy Rl).symm
  ·have n1:=(h.nx z Kk).1;rw[if_neg hzm]at n1;refine(fk rt hut n1).trans ((congrArg some h.ui).trans (fk rs h.us Kk).symm)
 ·exact(fk rt hvt YG).trans (congrArg some h.vi)
 ·exact(fk rt hvt hkv).trans (congrArg some h.vi)
 ·exact(fk rt hut hqu).trans (congrArg some h.ui)
 ·constructor
  ·rintro⟨x,hx,rfl⟩;rcases (h.mem x).1 hx with rfl|⟨h1,_⟩|rfl
   ·exact .inl h.vi
   ·exact .inr ⟨x,h1,rfl⟩
   ·exact .inr ⟨uS,h.us,h.ui.symm⟩
  ·rintro(rfl|⟨x,hx,rfl⟩)
   ·exact⟨vV,hvt,h.vi⟩
   ·by_cases e:x.1=uS.1
    ·exact⟨uT,hut,h.ui.trans e.symm⟩
    ·exact⟨x,(h.mem x).2 (.inr (.inl ⟨hx,e⟩)),rfl⟩
theorem Fr.flat(h:Fr s t v m k uS uT vV):cX s=0↔cX t=0:=by obtain⟨w,hs⟩:=h.sub;exact X3 hs
def ren(m q z:ag):ag:=if z=m then q else z
end Go.Vs
namespace Go.Vs
open Go.Proofs Go.Cy
end Go.Vs
