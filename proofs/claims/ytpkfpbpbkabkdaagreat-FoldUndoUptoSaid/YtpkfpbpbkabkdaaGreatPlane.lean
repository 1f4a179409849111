/- Whatever is done -/
import Derived.Test.YtpkfpbpbkabkdaaGreatEuler
set_option linter.unusedVariables false
set_option linter.unusedSimpArgs false
namespace Go.Vs
open Go.Proofs Go.Cy
variable {G:(f:FuncId)→(g:aX)→Option (g.A→Option g.B)}
structure Lone(d:ak)(v:ai):Prop where
 w:Wf d
 m:v∈d.1
 r:v.2.1=[]
theorem Lone.split{d:ak}{v:ai}(h:Lone d v):∃a b,d.1=a++v::b∧(aH d v.1 zI)=(a++b,d.2)∧an (a++b) ⊆ an d.1∧(an d.1).Perm (an (a++b)):=by
 obtain⟨a,b,h1,_,h2,_⟩:=mE h.w.sv h.m;have p:(an d.1).Perm (an (a++b)):=by have:=g6 a b v;rw[←h1,h.r,List.nil_append]at this;exact this
 exact⟨a,b,h1,by unfold aH;rw[h2,kH h.w.ge],fun x hx=>p.mem_iff.2 hx,p⟩
theorem Lone.wf{d:ak}{v:ai}(h:Lone d v):Wf (aH d v.1 zI):=h.w.WD h.m h.r
theorem Lone.mem{d:ak}{v:ai}(h:Lone d v){u:ai}:u∈(aH d v.1 zI).1↔u∈d.1∧u.1≠v.1:=by show u∈bF d.1 v.1↔_;unfold bF;rw[List.mem_filter];simp
theorem Lone.XB{d:ak}{v:ai}(h:Lone d v):(an (aH d v.1 zI).1).Perm (an d.1):=by obtain⟨a,b,_,h2,_,h3⟩:=h.split;rw[h2];exact h3.symm
theorem Lone.XC{d:ak}{v:ai}(h:Lone d v){u:ai}{z:ab}(hu:u∈d.1)(hz:z∈u.2.1):u∈(aH d v.1 zI).1:=by refine h.mem.2 ⟨hu,fun k=>?_⟩;rw[wj h.w.sv h.m hu k,h.r]at hz;simp at hz
theorem Lone.at{d:ak}{v:ai}(h:Lone d v){z:ab}(hz:z∈an d.1):bM (aH d v.1 zI) z=bM d z:=by obtain⟨u,hu,GN⟩:=aM.1 hz;show E2 (aH d v.1 zI).1 z=E2 d.1 z;rw[du h.w.rw hu GN,du h.wf.rw (h.XC hu GN) GN]
theorem Lone.Zw{d:ak}{v:ai}(h:Lone d v){a b:ID}:BS (aH d v.1 zI) a b↔BS d a b:=by
 constructor
 ·rintro⟨z,hz,h1,h2⟩;have hz:=h.XB.mem_iff.1 hz;exact⟨z,hz,by rw[←h.at hz];exact h1,by rw[←h.at (h.w.other hz)];exact h2⟩
 ·rintro⟨z,hz,h1,h2⟩;exact⟨z,h.XB.mem_iff.2 hz,by rw[h.at hz];exact h1,by rw[h.at (h.w.other hz)];exact h2⟩
theorem Lone.conn{d:ak}{v:ai}(h:Lone d v){a b:ID}:cJ (aH d v.1 zI) a b↔cJ d a b:=by
 constructor
 ·intro k
  induction k with
  |refl=>exact .refl _
  |tail _ j ih=>exact ih.tail (h.Zw.1 j)
 ·intro k
  induction k with
  |refl=>exact .refl _
  |tail _ j ih=>exact ih.tail (h.Zw.2 j)
theorem Lone.alone{d:ak}{v:ai}(h:Lone d v){b:ID}(k:cJ d v.1 b):b=v.1:=by
 have key:∀{a b:ID},cJ d a b→a=v.1→b=v.1:=fun {a b} k ha=>by
  induction k with
  |refl=>exact ha
  |tail _ j ih =>obtain⟨z,hz,h1,_⟩:=j;obtain⟨u,hu,GN,Bl⟩:=uj h.w hz;rw[Bl,ih]at h1;have:=abK h1;rw[wj h.w.sv h.m hu this,h.r]at GN;simp at GN
 exact key k rfl
theorem Lone.Cf{d:ak}{v:ai}(h:Lone d v){R:List ID}(hr:qb d R):∃R2,qb (aH d v.1 zI) R2∧R2.length+1=R.length:=by
 obtain⟨r,E3,hvr⟩:=hr.c v h.m;have hv:v.1∈R:=by rw[←h.alone hvr];exact E3
 refine⟨R.erase v.1,⟨hr.n.erase _,fun s hs=>?_,fun s hs t ht k=>hr.i s (adZ hs) t (adZ ht) (h.conn.1 k),fun u hu=>?_⟩,?_⟩
 ·obtain⟨u,hu,he⟩:=hr.v s (adZ hs);refine⟨u,h.mem.2 ⟨hu,fun k=>?_⟩,he⟩;have:s=v.1:=he.symm.trans k;subst this;exact absurd hs (List.Nodup.not_mem_erase hr.n)
 ·obtain⟨hu1,hu2⟩:=h.mem.1 hu;obtain⟨s,hs,Kw⟩:=hr.c u hu1;refine⟨s,(ad5 fun k=>?_).2 hs,h.conn.2 Kw⟩;subst k;exact hu2 (h.alone (Kw.symm h.w))
 ·rw[List.length_erase_of_mem hv];have:=adI hv;omega
theorem Lone.ph{d:ak}{v:ai}(h:Lone d v){z:ab}(hz:z∈an d.1):ph (aH d v.1 zI) z=ph d z:=by rw[iY hz,iY (h.XB.mem_iff.2 hz)];obtain⟨u,hu,GN⟩:=aM.1 (h.w.other hz);rw[jx h.w.rw hu GN,jx h.wf.rw (h.XC hu GN) GN]
theorem Lone.cg{d:ak}{v:ai}(h:Lone d v):(Vs.cg (aH d v.1 zI)).length=(Vs.cg d).length:=by have a:=bO h.wf;have b:=bO h.w;refine HY.count h.w.rw.n ⟨fun c hc=>?_,a.p.trans h.XB⟩ b;refine(a.c c hc).congr fun z hz=>?_;have:z∈an (aH d v.1 zI).1:=a.p.mem_iff.1 (adA.2 ⟨c,hc,hz⟩);exact(h.ph (h.XB.mem_iff.1 this)).symm
theorem FR{d:ak}(hw:Wf d){R:List ID}(hr:qb d R):gi d=(R.length:Int):=by rw[vj hw,(mo hw (fQ hw)).len hw hr]
structure zg(d:ak)(v:ai)(y:ab):Prop where
 w:Wf d
 m:v∈d.1
 r:v.2.1=[y]
theorem zg.mem{d:ak}{v:ai}{y:ab}(h:zg d v y):y∈an d.1:=aM.2 ⟨v,h.m,by rw[h.r];simp⟩
theorem zg.cut{d:ak}{v:ai}{y:ab}(h:zg d v y):cm d y.1:=by obtain⟨e,he,h1,_⟩:=dr.1 (h.w.pd.mem_iff.1 h.mem);exact⟨h.w,by unfold aP;rw[List.find?_isSome];exact⟨e,he,by simpa using h1⟩⟩
theorem zg.lone{d:ak}{v:ai}{y:ab}(h:zg d v y):∃u,Lone (cp d y.1) u∧u.1=v.1:=by
 obtain⟨u,hu,bV⟩:=h.cut.OJ.2 ⟨v,h.m,rfl⟩;refine⟨u,⟨h.cut.w,hu,?_⟩,bV⟩
 cases hq:u.2.1 with
 |nil=>rfl
 |cons z r =>
  exfalso;have hz:z∈u.2.1:=by rw[hq];simp
  have hzd:z∈an (cp d y.1).1:=aM.2 ⟨u,hu,hz⟩;have h1:bM (cp d y.1) z=some u.1:=du h.cut.w.rw hu hz;rw[h.cut.at hzd,bV]at h1;obtain⟨w,hw,Kd,Bl⟩:=uj h.w (h.cut.sub hzd);rw[Bl]at h1;have hwv:=wj h.w.sv h.m hw (abK h1);rw[hwv,h.r]at Kd;have QP:z=y:=by simpa using Kd
  have nd:=h.cut.p.nodup_iff.1 h.w.rw.n;have e:y=(y.1,y.2):=rfl;rcases h.w.side h.mem with k|k
  ·rw[k]at e;exact(abx.1 nd).1 (aa5 _ (e▸QP▸hzd))
  ·rw[k]at e;exact(abx.1 (abx.1 nd).2).1 (e▸QP▸hzd)
theorem zg.back{d:ak}{v:ai}{y:ab}(h:zg d v y):ph d (ag y)=y:=by
 rw[iY (h.w.other h.mem),bX (h.w.side h.mem)];have hy:y∈v.2.1:=by rw[h.r];simp
 rw[jx h.w.rw h.m hy];exact(H5 (h.w.rw.ring h.m) hy).2 (by rw[h.r];rfl)
theorem zg.one{d:ak}{v:ai}{y:ab}(h:zg d v y):JK d (y.1,0) (y.1,1):=by
 have hm:ag y∈(cg d).flatten:=(bO h.w).p.mem_iff.2 (h.w.other h.mem);obtain⟨c,hc,h1⟩:=adA.1 hm;have h2:=((bO h.w).c c hc).step h1;rw[h.back]at h2;have e:y=(y.1,y.2):=rfl;have eo:ag y=(y.1,(ag y).2):=rfl;obtain⟨_,k⟩:=iR (h.w.side h.mem);rcases k with⟨k1,k2⟩|⟨k1,k2⟩
 ·rw[k1]at e;rw[k2]at eo;exact⟨c,hc,e▸h2,eo▸h1⟩
 ·rw[k1]at e;rw[k2]at eo;exact⟨c,hc,eo▸h1,e▸h2⟩
theorem zg.cg{d:ak}{v:ai}{y:ab}(h:zg d v y):(Vs.cg (cp d y.1)).length≤(Vs.cg d).length:=by
 have h1:=(h.cut.same h.one).2;have hb:=h.back;have e:y=(y.1,y.2):=rfl;have eo:ag y=(y.1,(ag y).2):=rfl;obtain⟨_,k⟩:=iR (h.w.side h.mem);rcases k with⟨k1,k2⟩|⟨k1,k2⟩
 ·rw[k1]at e;rw[k2]at eo;have:ph d (y.1,1)=(y.1,0):=by rw[←eo,hb];exact e
  rw[if_pos this]at h1
  split at h1<;>omega
 ·rw[k1]at e;rw[k2]at eo;have:ph d (y.1,0)=(y.1,1):=by rw[←eo,hb];exact e
  rw[if_pos this]at h1
  split at h1<;>omega
theorem zg.parts{d:ak}{v:ai}{y:ab}(h:zg d v y){u:ai}(hu:Lone (cp d y.1) u)(bV:u.1=v.1):gi (aH (cp d y.1) v.1 zI)=gi d:=by
 obtain⟨a,b,ha,hb,_,_⟩:=h.cut.JN;have hr:=mo h.w (fQ h.w);have Yl:bM d y=some v.1:=du h.w.rw h.m (by rw[h.r];simp);have Yg:bM d (ag y)≠some v.1:=fun k=>by
  obtain⟨w,hw,Kd,Bl⟩:=uj h.w (h.w.other h.mem);rw[Bl]at k;rw[wj h.w.sv h.m hw (Option.some.inj k),h.r]at Kd;have Kd:ag y=y:=by simpa using Kd
  obtain⟨_,m⟩:=iR (h.w.side h.mem);rw[Kd]at m;omega
 have bp:a≠b∧(a=v.1∨b=v.1):=by
  have e:y=(y.1,y.2):=rfl;have eo:ag y=(y.1,(ag y).2):=rfl;obtain⟨_,k⟩:=iR (h.w.side h.mem);rcases k with⟨k1,k2⟩|⟨k1,k2⟩
  ·rw[k1]at e;rw[k2]at eo;rw[e,ha]at Yl;rw[eo,hb]at Yg;have:=abK Yl;exact⟨fun k=>Yg (by rw[←k,this]),.inl this⟩
  ·rw[k1]at e;rw[k2]at eo;rw[e,hb]at Yl;rw[eo,ha]at Yg;have:=abK Yl;exact⟨fun k=>Yg (by rw[k,this]),.inr this⟩
 have A9:¬cJ (cp d y.1) a b:=fun k=>by
  rcases bp.2 with m|m
  ·rw[m,←bV]at k;exact bp.1 (m.trans (bV▸hu.alone k).symm)
  ·rw[m,←bV]at k;exact bp.1 ((bV▸hu.alone (k.symm h.cut.w):a=v.1).trans m.symm)
 obtain⟨R2,h2,h3⟩:=h.cut.Qv ha hb A9 hr;obtain⟨R3,h4,h5⟩:=hu.Cf h2;rw[bV]at h4;have hwf:=hu.wf;rw[bV]at hwf;rw[FR hwf h4,FR h.w hr];omega
theorem vn{k:Int}{x:ID}(hk:k=1∨k=2∨k=4)(hx:cY x=true):bg (p7 k x)=0:=by
 unfold bg;have e:sO (kC (p7 k x)) Ge=true:=by rcases hk with rfl|rfl|rfl<;>exact(kD _ _).2 rfl
 have h1:(p7 k x).1=k:=rfl;rw[if_neg (by rw[h1];omega),if_neg (by rw[h1];omega),if_neg (by simp[p7,hx]),if_neg (by rw[e];simp),if_neg (by rw[h1];omega),if_neg (by rw[h1];omega),if_neg (by rw[h1];omega),if_neg (by rw[h1];omega),if_neg (by rw[h1];omega)]
end Go.Vs
namespace Go.Vs
open Go.Proofs Go.Cy
theorem qV{d:ak}(hw:Wf d):∃R,qb d R:=⟨_,mo hw (fQ hw)⟩
theorem fG{d:ak}(hw:Wf d){R:List ID}(hr:qb d R):bN d=0↔d.1.length+ft d=2*R.length+d.2.length:=by
 obtain⟨k,h1,h2⟩:=FC hw hr;rw[h1];constructor
 ·intro h;omega
 ·intro h;omega
theorem lA{d:ak}(hw:Wf d):(an d.1).length=2*d.2.length:=by have:=hw.pd.length_eq;rw[BR]at this;omega
theorem XD{d':ak}{x:ID}(h:cm d' x)(hg:bN d'=0):bN (cp d' x)=0:=by
 obtain⟨u,w,hu,hw,_,_⟩:=h.JN;obtain⟨R,hr⟩:=qV h.wf;have k:=(fG h.wf hr).1 hg;have hv:(cp d' x).1.length=d'.1.length:=by have:=congrArg List.length h.ids;simpa using this
 have he:(cp d' x).2.length+1=d'.2.length:=by have h1:=lA h.wf;have h2:=lA h.w;have h3:=h.p.length_eq;simp at h3;omega
 by_cases hc:cJ (cp d' x) u w
 ·have DU:=h.Cf hu hw hc hr;by_cases ho:JK d' (x,0) (x,1)
  ·have h1:=(h.same ho).1;obtain⟨j,_,h2⟩:=FC h.w DU;omega
  ·have h1:=h.diff ho;rw[fG h.w DU];omega
 ·obtain⟨R2,DU,hl⟩:=h.Qv hu hw hc hr;have ho:JK d' (x,0) (x,1):=Classical.byContradiction fun ho=>hc (h.AJ hu hw ho);have h1:=(h.same ho).1;rw[fG h.w DU];omega
theorem JZ(a b:List ai):al (a++b)=al a+al b:=List.countP_append
theorem Ie{d:ak}{v:ai}(h:Lone d v):bN d=0↔bN (aH d v.1 zI)=0:=by
 obtain⟨R,hr⟩:=qV h.w;obtain⟨R2,DU,hl⟩:=h.Cf hr;rw[fG h.w hr,fG h.wf DU];obtain⟨a,b,k1,k2,_,_⟩:=h.split;have hf:=h.cg;have e1:d.1.length=(aH d v.1 zI).1.length+1:=by rw[k1,k2];simp;omega
 have e2:(aH d v.1 zI).2.length=d.2.length:=by rw[k2]
 have e3:al d.1=al (aH d v.1 zI).1+1:=by
  rw[k1,k2];show al (a++v::b)=al (a++b)+1;rw[JZ,JZ];have:al (v::b)=al b+1:=by unfold al;rw[List.countP_cons,h.r];rfl
  omega
 have f1:ft d=(cg d).length+al d.1:=rfl;have f2:ft (aH d v.1 zI)=(cg (aH d v.1 zI)).length+al (aH d v.1 zI).1:=rfl;omega
theorem Th{d:ak}(hw:Wf d){x:ID}(hx:aO d.1 x=none)(LN:Wf (cx (x,([],(e0,0))) d.1,d.2))(hg:bN d=0):bN (cx (x,([],(e0,0))) d.1,d.2)=0:=by
 have hl:Lone (cx (x,([],(e0,0))) d.1,d.2) (x,([],(e0,0))):=⟨LN,kE.2 (.inl rfl),rfl⟩;rw[Ie hl];have e:aH (cx (x,([],(e0,0))) d.1,d.2) x zI=d:=by have h1:=rW (x,([],(e0,0))) (l:=d.1) hx;have h2:=kH hw.ge;unfold aH;show(bF (cx (x,([],(e0,0))) d.1) x,bH d.2 zI)=d;rw[h2];exact congrArg (fun l:List ai=>((l,d.2):ak)) h1
 show bN (aH (cx (x,([],(e0,0))) d.1,d.2) x zI)=0;rw[e];exact hg
structure jA(f:ai→ai)(g:aj→aj):Prop where
 i:∀v,(f v).1=v.1
 r:∀v,(f v).2.1=v.2.1
 e:∀a,(g a).1=a.1
variable {f:ai→ai} {g:aj→aj}
theorem jA.an(k:jA f g)(l:List ai):Vs.an (l.map f)=Vs.an l:=by unfold Vs.an;rw[List.flatMap_map];congr 1;funext v;exact k.r v
theorem jA.at(k:jA f g)(l:List ai)(x:ab):E2 (l.map f) x=E2 l x:=by
 unfold E2;rw[List.find?_map];have:((fun v:ai=>decide (x∈v.2.1)) ∘ f)=fun v:ai=>decide (x∈v.2.1):=by funext v;show decide (x∈(f v).2.1)=_;rw[k.r]
 rw[this,Option.map_map];congr 1;funext v;exact k.i v
theorem jA.find(k:jA f g)(l:List ai)(x:ID):aO (l.map f) x=(aO l x).map f:=by
 unfold aO;rw[List.find?_map];have:((fun v:ai=>decide (v.1=x)) ∘ f)=fun v:ai=>decide (v.1=x):=by funext v;show decide ((f v).1=x)=_;rw[k.i]
 rw[this]
theorem jA.al(k:jA f g)(l:List ai):Vs.al (l.map f)=Vs.al l:=by unfold Vs.al;rw[List.countP_map];congr 1;funext v;show(f v).2.1.isEmpty=_;rw[k.r]
theorem jA.kN(k:jA f g)(d:ak)(x:ab):Vs.kN (d.1.map f,d.2.map g) x=Vs.kN d x:=by
 unfold Vs.kN;have h1:bM (d.1.map f,d.2.map g) x=bM d x:=k.at d.1 x;rw[h1]
 cases bM d x with
 |none=>rfl
 |some a =>
  have h2:aW (d.1.map f,d.2.map g) a=aW d a:=by
   unfold aW aG;show((aO (d.1.map f) a).getD zV).2.1=_;rw[k.find]
   cases aO d.1 a with
   |none=>rfl
   |some v=>exact k.r v
  show cK (aW (d.1.map f,d.2.map g) a) x 1=_;rw[h2]
theorem jA.ph(k:jA f g)(d:ak)(x:ab):Vs.ph (d.1.map f,d.2.map g) x=Vs.ph d x:=by unfold Vs.ph Kb;have h1:bM (d.1.map f,d.2.map g) x=bM d x:=k.at d.1 x;rw[h1,k.kN]
theorem jA.Zw(k:jA f g)(d:ak){a b:ID}:BS (d.1.map f,d.2.map g) a b↔BS d a b:=by
 unfold BS;have h:∀z,bM (d.1.map f,d.2.map g) z=bM d z:=fun z=>k.at d.1 z;have hd:Vs.an (d.1.map f)=Vs.an d.1:=k.an d.1;constructor
 ·rintro⟨z,h1,h2,h3⟩;exact⟨z,hd▸h1,(h z).symm.trans h2,(h _).symm.trans h3⟩
 ·rintro⟨z,h1,h2,h3⟩;exact⟨z,hd.symm▸h1,(h z).trans h2,(h _).trans h3⟩
theorem jA.conn(k:jA f g)(d:ak){a b:ID}:cJ (d.1.map f,d.2.map g) a b↔cJ d a b:=by
 constructor
 ·intro h
  induction h with
  |refl=>exact .refl _
  |tail _ j ih=>exact ih.tail ((k.Zw d).1 j)
 ·intro h
  induction h with
  |refl=>exact .refl _
  |tail _ j ih=>exact ih.tail ((k.Zw d).2 j)
theorem jA.Cf(k:jA f g){d:ak}{R:List ID}(h:qb d R):qb (d.1.map f,d.2.map g) R:=by
 refine⟨h.n,fun r hr=>?_,fun r hr s hs hc=>h.i r hr s hs ((k.conn d).1 hc),fun v hv=>?_⟩
 ·obtain⟨v,hv,he⟩:=h.v r hr;exact⟨f v,abY.2 ⟨v,hv,rfl⟩,(k.i v).trans he⟩
 ·obtain⟨u,hu,rfl⟩:=abY.1 hv;obtain⟨r,hr,hc⟩:=h.c u hu;exact⟨r,hr,by rw[k.i];exact(k.conn d).2 hc⟩
theorem FU(k:jA f g){d:ak}(hw:Wf d)(LN:Wf (d.1.map f,d.2.map g))(hg:bN d=0):bN (d.1.map f,d.2.map g)=0:=by obtain⟨R,hr⟩:=qV hw;have h:=(fG hw hr).1 hg;rw[fG LN (k.Cf hr)];have hd:Vs.an (d.1.map f)=Vs.an d.1:=k.an d.1;have a:=bO hw;have b:=bO LN;have hc:(cg (d.1.map f,d.2.map g)).length=(cg d).length :=HY.count (D:=Vs.an (d.1.map f)) LN.rw.n b ⟨fun c hc=>(a.c c hc).congr fun z hz=>k.ph d z,a.p.trans (List.Perm.of_eq hd.symm)⟩;have f1:ft d=(cg d).length+Vs.al d.1:=rfl;have f2:ft (d.1.map f,d.2.map g)=(cg (d.1.map f,d.2.map g)).length+Vs.al (d.1.map f):=rfl;have hal:Vs.al (d.1.map f)=Vs.al d.1:=k.al d.1;show(d.1.map f).length+_=_+(d.2.map g).length;rw[List.length_map,List.length_map];omega
theorem Ig(o:aE):jA (fN o) (gN o):=by
 refine⟨fun v=>?_,fun v=>?_,fun a=>?_⟩
 ·unfold fN;split
  ·split<;>rfl
  ·rfl
 ·unfold fN;split
  ·split<;>rfl
  ·rfl
 ·unfold gN;split
  ·split<;>rfl
  ·rfl
end Go.Vs
namespace Go.Vs
open Go.Proofs Go.Cy
def hd(l:List ab):ab:=l.head?.getD zD
theorem Ih{f g:ab→ab}{φ:ab→List ab}(hn:∀z,φ z≠[]):∀{c:List ab} {y:ab},(∀z∈c,Path g (φ z) (hd (φ (f z))))→Path f c y→Path g (c.flatMap φ) (hd (φ y))
 |[],y,_,_=>trivial
 |a::r,y,hp,h=>by
  obtain⟨h1,h2⟩:f a=r.head?.getD y∧Path f r y:=h;have ih:=Ih hn (fun z hz=>hp z (aa5 _ hz)) h2;rw[List.flatMap_cons];refine Path.app.2 ⟨?_,ih⟩;have:=hp a abu;rw[h1]at this
  cases r with
  |nil=>exact this
  |cons b r =>
   have e:((b::r).flatMap φ).head?.getD (hd (φ y))=hd (φ b):=by
    rw[List.flatMap_cons]
    cases hb:φ b with
    |nil=>exact absurd hb (hn b)
    |cons q s=>rfl
   rw[e];exact this
theorem XE{f g:ab→ab}{φ:ab→List ab}(hn:∀z,φ z≠[]){c:List ab}(hp:∀z∈c,Path g (φ z) (hd (φ (f z))))(h:jF f c):jF g (c.flatMap φ):=by
 cases c with
 |nil=>exact h.elim
 |cons x r =>
  have h':Path f (x::r) x:=h;have:=Ih hn hp h';rw[List.flatMap_cons]at this ⊢
  cases hx:φ x with
  |nil=>exact absurd hx (hn x)
  |cons q s =>rw[hx]at this;exact this
structure Sub(s t:ak)(v:ID)(m k:ab)(u w:ID):Prop where
 ws:Wf s
 wt:Wf t
 mm:m∈an s.1
 kn:k∉an s.1
 ok:ag k∉an s.1
 kk:k≠ag k
 k2:k.2=0∨k.2=1
 p:(an t.1).Perm (k::ag k::an s.1)
 pm:∀z∈an s.1,z≠ag m→ph t z=if ph s z=m then ag k else ph s z
 po:ph t (ag m)=k
 pk:ph t k=if ph s (ag m)=m then ag k else ph s (ag m)
 pq:ph t (ag k)=m
 am:bM s m=some u
 ao:bM s (ag m)=some w
 at_:∀z∈an s.1,z≠m→bM t z=bM s z
 tm:bM t m=some v
 tk:bM t k=some v
 tq:bM t (ag k)=some u
 vs:∀r,(∃x∈t.1,x.1=r)↔r=v∨∃x∈s.1,x.1=r
 nv:∀x∈s.1,x.1≠v
 len:t.1.length=s.1.length+1
 al:al t.1=al s.1
variable {s t:ak} {v:ID} {m k:ab} {u w:ID}
def qW(m k:ab)(z:ab):List ab:=if z=m then[ag k,m] else if z=ag m then[ag m,k] else[z]
theorem aaa(m k z:ab):qW m k z≠[]:=by
 unfold qW;by_cases e:z=m
 ·rw[if_pos e];simp
 ·rw[if_neg e];by_cases e2:z=ag m
  ·rw[if_pos e2];simp
  ·rw[if_neg e2];simp
theorem Sub.om(h:Sub s t v m k u w):ag m∈an s.1:=h.ws.other h.mm
theorem oG{m:ab}(h:m.2=0∨m.2=1):ag m≠m:=fun e=>by obtain⟨_,k⟩:=iR h;rw[e]at k;rcases k with⟨a,b⟩|⟨a,b⟩<;>omega
theorem adi(h:Sub s t v m k u w)(y:ab):hd (qW m k y)=if y=m then ag k else y:=by
 unfold qW;by_cases e:y=m
 ·rw[if_pos e,if_pos e];rfl
 ·rw[if_neg e,if_neg e];by_cases e2:y=ag m
  ·rw[if_pos e2,e2];rfl
  ·rw[if_neg e2];rfl
theorem Sub.cg(h:Sub s t v m k u w):(Vs.cg t).length=(Vs.cg s).length:=by
 have a:=bO h.ws;have b:=bO h.wt;have hom:=oG (h.ws.side h.mm);have cyc:∀c∈Vs.cg s,jF (ph t) (c.flatMap (qW m k)):=fun c hc=>by
  refine XE (aaa m k) (fun z hz=>?_) (a.c c hc);have hz:z∈an s.1:=a.p.mem_iff.1 (adA.2 ⟨c,hc,hz⟩);rw[adi h];unfold qW;by_cases e:z=m
  ·rw[if_pos e,e];exact⟨h.pq,h.pm m h.mm (fun q=>hom q.symm),trivial⟩
  ·rw[if_neg e];by_cases e2:z=ag m
   ·rw[if_pos e2,e2];exact⟨h.po,h.pk,trivial⟩
   ·rw[if_neg e2];exact⟨h.pm z hz e2,trivial⟩
 have perm:((Vs.cg s).map (·.flatMap (qW m k))).flatten.Perm (an t.1):=by
  have e:((Vs.cg s).map (·.flatMap (qW m k))).flatten=(Vs.cg s).flatten.flatMap (qW m k):=by
   have:∀L:List (List ab),(L.map (·.flatMap (qW m k))).flatten=L.flatten.flatMap (qW m k):=by
    intro L
    induction L with
    |nil=>rfl
    |cons a L ih=>rw[List.map_cons,List.flatten_cons,List.flatten_cons,List.flatMap_append,ih]
   exact this _
  rw[e];refine(a.p.flatMap_right (qW m k)).trans ((?_:((an s.1).flatMap (qW m k)).Perm _).trans h.p.symm);have nd:=h.ws.rw.n;obtain⟨r1,hr1⟩:∃r1,(an s.1).Perm (m::r1):=⟨_,List.perm_cons_erase h.mm⟩;have hm1:ag m∈r1:=(abn.1 (hr1.mem_iff.1 h.om)).resolve_left hom;obtain⟨r2,DU⟩:∃r2,r1.Perm (ag m::r2):=⟨_,List.perm_cons_erase hm1⟩;have hp:(an s.1).Perm (m::ag m::r2):=hr1.trans (List.Perm.cons _ DU);have nd2:=hp.nodup_iff.1 nd;have bV:r2.flatMap (qW m k)=r2:=by
   have:∀l:List ab,(∀z∈l,z≠m∧z≠ag m)→l.flatMap (qW m k)=l:=by
    intro l
    induction l with
    |nil=>intro _;rfl
    |cons z l ih =>intro hl;obtain⟨h1,h2⟩:=hl z abu;rw[List.flatMap_cons,ih fun y hy=>hl y (List.mem_cons_of_mem _ hy)];unfold qW;rw[if_neg h1,if_neg h2];rfl
   refine this r2 fun z hz=>⟨fun e=>?_,fun e=>?_⟩
   ·subst e;exact(abx.1 nd2).1 (aa5 _ hz)
   ·subst e;exact(abx.1 (abx.1 nd2).2).1 hz
  refine(hp.flatMap_right (qW m k)).trans ?_;rw[List.flatMap_cons,List.flatMap_cons,bV];have e1:qW m k m=[ag k,m]:=if_pos rfl;have e2:qW m k (ag m)=[ag m,k]:=by unfold qW;rw[if_neg hom,if_pos rfl]
  rw[e1,e2];refine List.Perm.trans ?_ (List.Perm.cons k (List.Perm.cons (ag k) hp.symm));show(ag k::m::ag m::k::r2).Perm (k::ag k::m::ag m::r2);exact(adE (l₁:=[ag k,m,ag m]) (l₂:=r2) (a:=k))
 have:=HY.count h.wt.rw.n b ⟨fun c hc=>by obtain⟨c0,h1,rfl⟩:=abY.1 hc;exact cyc c0 h1,perm⟩;rw[List.length_map]at this;exact this
theorem Sub.QQ(h:Sub s t v m k u w){a b:ID}(c:cJ s a b):cJ t a b:=by
 have dt:∀z∈an s.1,z∈an t.1:=fun z hz=>h.p.mem_iff.2 (aa5 _ (aa5 _ hz));have hom:=oG (h.ws.side h.mm);have hqt:ag k∈an t.1:=h.p.mem_iff.2 (by simp);have uv:BS t u v:=⟨ag k,hqt,h.tq,by rw[bX h.k2];exact h.tk⟩;have vw:BS t v w:=⟨m,dt m h.mm,h.tm,by rw[h.at_ _ h.om hom];exact h.ao⟩;have uw:cJ t u w:=uv.conn.trans vw.conn
 induction c with
 |refl=>exact .refl _
 |tail _ j ih =>
  refine ih.trans ?_;obtain⟨z,hz,h1,h2⟩:=j;by_cases e:z=m
  ·subst e;rw[h.am]at h1;rw[h.ao]at h2
   cases h1;cases h2
   exact uw
  ·by_cases e2:z=ag m
   ·subst e2;rw[h.ao]at h1;rw[bX (h.ws.side h.mm),h.am]at h2
    cases h1;cases h2
    exact uw.symm h.wt
   ·have e3:ag z≠m:=fun q=>e2 (by rw[←q,bX (h.ws.side hz)]);exact BS.conn ⟨z,dt z hz,by rw[h.at_ z hz e];exact h1,by rw[h.at_ _ (h.ws.other hz) e3];exact h2⟩
theorem Sub.aac(h:Sub s t v m k u w){a b:ID}(c:cJ t a b):cJ s (if a=v then u else a) (if b=v then u else b):=by
 have hom:=oG (h.ws.side h.mm);have uw:cJ s u w:=BS.conn ⟨m,h.mm,h.am,h.ao⟩;have vof:∀{z x},z∈an s.1→bM s z=some x→x≠v:=fun {z x} hz hx=>by obtain⟨y,hy,_,h2⟩:=uj h.ws hz;rw[h2]at hx;cases hx;exact h.nv y hy
 have hu:=vof h.mm h.am;have hw:=vof h.om h.ao
 induction c with
 |refl=>exact .refl _
 |tail _ j ih =>
  refine ih.trans ?_;obtain⟨z,hz,h1,h2⟩:=j;have Dc:=h.p.mem_iff.1 hz;rcases abn.1 Dc with rfl|Dc
  ·rw[h.tk]at h1;rw[h.tq]at h2
   cases h1;cases h2
   rw[if_pos rfl,if_neg hu];exact .refl _
  ·rcases abn.1 Dc with rfl|Dc
   ·rw[h.tq]at h1;rw[bX h.k2,h.tk]at h2
    cases h1;cases h2
    rw[if_neg hu,if_pos rfl];exact .refl _
   ·by_cases e:z=m
    ·subst e;rw[h.tm]at h1;rw[h.at_ _ h.om hom,h.ao]at h2
     cases h1;cases h2
     rw[if_pos rfl,if_neg hw];exact uw
    ·by_cases e2:z=ag m
     ·subst e2;rw[h.at_ _ h.om hom,h.ao]at h1;rw[bX (h.ws.side h.mm),h.tm]at h2
      cases h1;cases h2
      rw[if_neg hw,if_pos rfl];exact uw.symm h.ws
     ·have e3:ag z≠m:=fun q=>e2 (by rw[←q,bX (h.ws.side Dc)]);rw[h.at_ z Dc e]at h1;rw[h.at_ _ (h.ws.other Dc) e3]at h2;rw[if_neg (vof Dc h1),if_neg (vof (h.ws.other Dc) h2)];exact BS.conn ⟨z,Dc,h1,h2⟩
theorem Sub.Cf(h:Sub s t v m k u w){R:List ID}(hr:qb s R):qb t R:=by
 refine⟨hr.n,fun r hrm=>(h.vs r).2 (.inr (hr.v r hrm)),fun r h1 q h2 c=>?_,fun x hx=>?_⟩
 ·obtain⟨x,hx,hxr⟩:=hr.v r h1;obtain⟨y,hy,hyq⟩:=hr.v q h2;have:=h.aac c;rw[if_neg (by rw[←hxr];exact h.nv x hx),if_neg (by rw[←hyq];exact h.nv y hy)]at this;exact hr.i r h1 q h2 this
 ·rcases (h.vs x.1).1 ⟨x,hx,rfl⟩ with e|⟨y,hy,e⟩
  ·obtain⟨y,hy,_,hyu⟩:=uj h.ws h.mm;rw[h.am]at hyu;obtain⟨r,hrm,hc⟩:=hr.c y hy;refine⟨r,hrm,?_⟩;rw[e];have hqt:ag k∈an t.1:=h.p.mem_iff.2 (by simp);have uv:BS t u v:=⟨ag k,hqt,h.tq,by rw[bX h.k2];exact h.tk⟩;have e2:u=y.1:=abK hyu;exact(uv.symm h.wt).conn.trans (e2▸h.QQ hc)
  ·obtain⟨r,hrm,hc⟩:=hr.c y hy;exact⟨r,hrm,e▸h.QQ hc⟩
theorem XF(h:Sub s t v m k u w):bN s=0↔bN t=0:=by obtain⟨R,hr⟩:=qV h.ws;rw[fG h.ws hr,fG h.wt (h.Cf hr)];have h1:=lA h.ws;have h2:=lA h.wt;have h3:=h.p.length_eq;have h4:=h.cg;have h5:=h.al;have h6:=h.len;have f1:ft s=(Vs.cg s).length+Vs.al s.1:=rfl;have f2:ft t=(Vs.cg t).length+Vs.al t.1:=rfl;simp at h3;omega
end Go.Vs
namespace Go.Vs
open Go.Proofs Go.Cy
structure Fr(s t:ak)(v:ID)(m k:ab)(uS uT vV:ai):Prop where
 ws:Wf s
 wt:Wf t
 mem:∀y,y∈t.1↔y=vV∨(y∈s.1∧y.1≠uS.1)∨y=uT
 us:uS∈s.1
 ui:uT.1=uS.1
 vi:vV.1=v
 vr:vV.2.1=[m,k]∨vV.2.1=[k,m]
 mm:m∈uS.2.1
 k2:k.2=0∨k.2=1
 kn:k∉an s.1
 ok:ag k∉an s.1
 nx:∀z∈uS.2.1,(if z=m then ag k else z)∈uT.2.1∧dN uT.2.1 (if z=m then ag k else z)=(if dN uS.2.1 z=m then ag k else dN uS.2.1 z)
 p:(an t.1).Perm (k::ag k::an s.1)
 nv:∀x∈s.1,x.1≠v
 len:t.1.length=s.1.length+1
 al:al t.1=al s.1
theorem AT{m k:ab}(h:m≠k):dN [m,k] m=k∧dN [m,k] k=m:=by
 have hn:[m,k].Nodup:=by simp[h]
 have a:=qQ hn (i:=0) (x:=m) rfl;have b:=qQ hn (i:=1) (x:=k) rfl;exact⟨a,by rw[b];simp⟩
variable {s t:ak} {v:ID} {m k:ab} {uS uT vV:ai}
theorem Fr.sub(h:Fr s t v m k uS uT vV):∃w,Sub s t v m k uS.1 w:=by
 have Me:m∈an s.1:=aM.2 ⟨uS,h.us,h.mm⟩;have hod:ag m∈an s.1:=h.ws.other Me;have hom:=oG (h.ws.side Me);have IV:m≠k:=fun e=>h.kn (e▸Me);obtain⟨w,hw⟩:=abM.1 (Fw hod);have hvt:vV∈t.1:=(h.mem vV).2 (.inl rfl);have hut:uT∈t.1:=(h.mem uT).2 (.inr (.inr rfl));have rs:=h.ws.rw;have rt:=h.wt.rw;have X7:m∈vV.2.1:=by rcases h.vr with e|e<;>rw[e]<;>simp
 have hkv:k∈vV.2.1:=by rcases h.vr with e|e<;>rw[e]<;>simp
 have sm:sg t m=k∧sg t k=m:=by
  rw[jx rt hvt X7,jx rt hvt hkv];rcases h.vr with e|e
  ·rw[e];exact AT IV
  ·rw[e];exact⟨(AT (Ne.symm IV)).2,(AT (Ne.symm IV)).1⟩
 have hqu:ag k∈uT.2.1:=by have:=(h.nx m h.mm).1;rwa [if_pos rfl]at this
 have pl:∀z∈an s.1,(∃y,y∈s.1∧z∈y.2.1∧y∈t.1∧z≠m∧sg s z≠m)∨z∈uS.2.1:=fun z hz=>by
  obtain⟨y,hy,QP⟩:=aM.1 hz;by_cases e:y.1=uS.1
  ·have:=wj h.ws.sv h.us hy e;subst this;exact .inr QP
  ·refine .inl ⟨y,hy,QP,(h.mem y).2 (.inr (.inl ⟨hy,e⟩)),fun q=>?_,fun q=>?_⟩
   ·subst q;exact e (congrArg Prod.fst (rs.one h.us hy h.mm QP))
   ·rw[jx rs hy QP]at q;have:=j6 (rs.ring hy) QP;rw[q]at this;exact e (congrArg Prod.fst (rs.one h.us hy h.mm this))
 have sgm:∀z∈an s.1,sg t (if z=m then ag k else z)=if sg s z=m then ag k else sg s z:=fun z hz=>by
  rcases pl z hz with⟨y,hy,QP,hyt,h1,h2⟩|GN
  ·rw[if_neg h1,if_neg h2,jx rt hyt QP,jx rs hy QP]
  ·obtain⟨n1,n2⟩:=h.nx z GN;rw[jx rt hut n1,jx rs h.us GN];exact n2
 have up:∀z∈an s.1,z∈an t.1:=fun z hz=>h.p.mem_iff.2 (aa5 _ (aa5 _ hz));have kt:k∈an t.1:=h.p.mem_iff.2 (by simp);have qt:ag k∈an t.1:=h.p.mem_iff.2 (by simp);refine⟨w,h.ws,h.wt,Me,h.kn,h.ok,(fun e=>oG h.k2 e.symm),h.k2,h.p,fun z hz hzo=>?_,?_,?_,?_,?_,hw,fun z hz hzm=>?_,?_,?_,?_,fun r=>?_,h.nv,h.len,h.al⟩
 ·rw[iY (up z hz),iY hz];have bp:ag z≠m:=fun e=>hzo (by rw[←e,bX (h.ws.side hz)]);have:=sgm (ag z) (h.ws.other hz)
  rwa [if_neg bp]at this
 ·rw[iY (up _ hod),bX (h.ws.side Me)];exact sm.1
 ·rw[iY kt,iY hod,bX (h.ws.side Me)];have:=sgm m Me
  rwa [if_pos rfl]at this
 ·rw[iY qt,bX h.k2];exact sm.2
 ·exact du rs h.us h.mm
 ·rcases pl z hz with⟨y,hy,QP,hyt,_,_⟩|GN
  ·exact(du rt hyt QP).trans (du rs hy QP).symm
  ·have n1:=(h.nx z GN).1;rw[if_neg hzm]at n1;refine(du rt hut n1).trans ((congrArg some h.ui).trans (du rs h.us GN).symm)
 ·exact(du rt hvt X7).trans (congrArg some h.vi)
 ·exact(du rt hvt hkv).trans (congrArg some h.vi)
 ·exact(du rt hut hqu).trans (congrArg some h.ui)
 ·constructor
  ·rintro⟨x,hx,rfl⟩;rcases (h.mem x).1 hx with rfl|⟨h1,_⟩|rfl
   ·exact .inl h.vi
   ·exact .inr ⟨x,h1,rfl⟩
   ·exact .inr ⟨uS,h.us,h.ui.symm⟩
  ·rintro(rfl|⟨x,hx,rfl⟩)
   ·exact⟨vV,hvt,h.vi⟩
   ·by_cases e:x.1=uS.1
    ·exact⟨uT,hut,h.ui.trans e.symm⟩
    ·exact⟨x,(h.mem x).2 (.inr (.inl ⟨hx,e⟩)),rfl⟩
theorem Fr.flat(h:Fr s t v m k uS uT vV):bN s=0↔bN t=0:=by obtain⟨w,hs⟩:=h.sub;exact XF hs
def ri(m q z:ab):ab:=if z=m then q else z
theorem J0{row:List ab}(hn:row.Nodup){j:Nat}{m:ab}(hj:row[j]? = some m)(q:ab):row.set j q=row.map (ri m q):=by
 apply adG;intro i;rw[List.getElem?_set,List.getElem?_map];by_cases e:j=i
 ·subst e;have:=(abg.1 hj).1;rw[if_pos rfl,if_pos this,hj];simp[ri]
 ·rw[if_neg e]
  cases hi:row[i]? with
  |none=>rfl
  |some x =>
   have:x≠m:=fun k=>by subst k;exact e (nr hn hj hi)
   simp[ri,this]
theorem MM{f g:ab→ab}{r:ab→ab}:∀{c:List ab} {y:ab},(∀z∈c,g (r z)=r (f z))→Path f c y→Path g (c.map r) (r y)
 |[],_,_,_=>trivial
 |a::c,y,h,p=>by
  obtain⟨h1,h2⟩:f a=c.head?.getD y∧Path f c y:=p;refine⟨?_,MM (fun z hz=>h z (aa5 _ hz)) h2⟩;rw[h a List.mem_cons_self,h1]
  cases c<;>rfl
theorem aae{f g:ab→ab}{r:ab→ab}{c:List ab}(h:∀z∈c,g (r z)=r (f z))(hc:jF f c):jF g (c.map r):=by
 cases c with
 |nil=>exact hc.elim
 |cons x c=>exact MM (y:=x) h hc
theorem so{row:List ab}(hn:row.Nodup){m q:ab}(hm:m∈row)(hq:q∉row){z:ab}(hz:z∈row):ri m q z∈dK row m q∧dN (dK row m q) (ri m q z)=ri m q (dN row z):=by
 obtain⟨j,h1,h2,_⟩:=eX hm;have e:dK row m q=bG (row.map (ri m q)):=by unfold dK;rw[if_pos ⟨hm,hq⟩,h1,Int.toNat_natCast,J0 hn h2]
 have iz:ri m q z∈row.map (ri m q):=abY.2 ⟨z,hz,rfl⟩;have nd:(row.map (ri m q)).Nodup:=by rw[←J0 hn h2];exact HW hn h2 hq
 rw[e];refine⟨kz.2 iz,?_⟩;have nd2:(bG (row.map (ri m q))).Nodup:=(fF _).nodup_iff.2 nd;have c1:jF (dN (bG (row.map (ri m q)))) (row.map (ri m q)):=by obtain⟨i,hi,he⟩:=ml (row.map (ri m q));have:=ug nd2 (adX (kz.2 iz));rw[he]at this ⊢;exact Mn this
 have back:∀y∈row,ri q m (ri m q y)=y:=fun y hy=>by
  unfold ri;by_cases a:y=m
  ·rw[if_pos a,if_pos rfl,a]
  ·rw[if_neg a,if_neg (fun kk:y=q=>hq (kk▸hy))]
 have c2:jF (fun y=>ri m q (dN row (ri q m y))) (row.map (ri m q)):=by refine aae (fun y hy=>?_) (ug hn (adX hz));show ri m q (dN row (ri q m (ri m q y)))=_;rw[back y hy]
 have:=H4 c1 c2 _ iz;rw[this];show ri m q (dN row (ri q m (ri m q z)))=_;rw[back z hz]
end Go.Vs
namespace Go.Vs
open Go.Proofs Go.Cy
theorem QR(v:ai):∀l:List ai,al (cx v l)=al (v::l)
 |[]=>rfl
 |w::r=>by
  have ih:=QR v r;unfold cx
  split
  ·rfl
  ·unfold al at ih ⊢;rw[List.countP_cons,ih,List.countP_cons,List.countP_cons,List.countP_cons];omega
theorem AU(a b:List ai)(v:ai):al (a++v::b)=al a+(if v.2.1.isEmpty then 1 else 0)+al b:=by
 rw[JZ];have:al (v::b)=al b+if v.2.1.isEmpty then 1 else 0:=by unfold al;rw[List.countP_cons]
 omega
theorem AW{l:List ab}{x:ab}(h:x∈l):l.isEmpty=false:=by cases l with
 |nil=>cases h
 |cons _ _=>rfl
theorem Ti{row:List ab}(hn:row.Nodup){m q:ab}(hm:m∈row)(hq:q∉row){z:ab}(hz:z∈dK row m q):∃y∈row,z=ri m q y:=by obtain⟨j,h1,h2,_⟩:=eX hm;unfold dK at hz;rw[if_pos ⟨hm,hq⟩,h1,Int.toNat_natCast,J0 hn h2]at hz;obtain⟨y,hy,e⟩:=abY.1 (kz.1 hz);exact⟨y,hy,e.symm⟩
theorem XG{d:ak}(h:Wf d){m k:ab}{v:ID}(Ct:m.2=0∨m.2=1)(pS:k.2=0∨k.2=1)(hm:(aP d.2 m.1).isSome=true)(Rj:aO d.1 v=none)(hnk:aP d.2 k.1=none) (ht:Wf (cx (v,(bG [m,k],(e0,0))) (az d m (ag k)).1,bW (k.1,(e0,0)) (az d m (ag k)).2)) :
  ∃uS uT vV,Fr d (cx (v,(bG [m,k],(e0,0))) (az d m (ag k)).1,bW (k.1,(e0,0)) (az d m (ag k)).2) v m k uS uT vV:=by
 have Me:m∈an d.1:=h.gq hm Ct;have He:ag k∉an d.1:=h.mV hnk _;have hkn:k∉an d.1:=h.mV hnk _;obtain⟨p1,q1⟩:=iQ h.rw Me He;obtain⟨uS,hu,Tz⟩:=aM.1 Me;have hqu:ag k∉uS.2.1:=fun e=>He (aM.2 ⟨uS,hu,e⟩);obtain⟨a,b,e1,e2,_,e4⟩:=mE h.sv hu;obtain⟨uT,hut⟩:∃uT:ai,uT=(uS.1,(dK uS.2.1 m (ag k),uS.2.2)):=⟨_,rfl⟩;have es:(az d m (ag k)).1=a++uT::b:=by rw[ln h.rw _ hu Tz,hut];exact e4 _
 have nd:=h.rw.ring hu;have hmT:ag k∈uT.2.1:=by
  have:=(so nd Tz hqu Tz).1;rw[hut];unfold ri at this
  rwa [if_pos rfl]at this
 refine⟨uS,uT,(v,(bG [m,k],(e0,0))),h,ht,fun y=>?_,hu,by rw[hut],rfl,Fp m k,Tz,pS,hkn,He,fun z hz=>?_,?_,fun x hx e=>?_,?_,?_⟩
 ·show y∈cx _ (az d m (ag k)).1↔_;rw[kE,es,e1];constructor
  ·rintro(k1|k1)
   ·exact .inl k1
   ·rcases abH.1 k1 with k1|k1
    ·exact .inr (.inl ⟨abt _ k1,e2 y (abt _ k1)⟩)
    ·rcases abn.1 k1 with k1|k1
     ·exact .inr (.inr k1)
     ·exact .inr (.inl ⟨abo _ (aa5 _ k1),e2 y (abo _ k1)⟩)
  ·rintro(k1|⟨k1,k2⟩|k1)
   ·exact .inl k1
   ·refine .inr ?_;rcases abH.1 k1 with k1|k1
    ·exact abt _ k1
    ·rcases abn.1 k1 with k1|k1
     ·subst k1;exact absurd rfl k2
     ·exact abo _ (aa5 _ k1)
   ·rw[k1];exact .inr (abo _ abu)
 ·rw[hut];exact so nd Tz hqu hz
 ·show(an (cx _ (az d m (ag k)).1)).Perm _;refine(xd _ _).trans ((ac9 _ (fF [m,k])).trans ?_);show(m::k::an (az d m (ag k)).1).Perm _;exact(List.Perm.swap k m _).trans (List.Perm.cons k p1.symm)
 ·have:=dM h.sv hx;rw[e,Rj]at this;cases this
 ·show(cx _ (az d m (ag k)).1).length=_;rw[gD,es,e1];simp
 ·show al (cx _ (az d m (ag k)).1)=_;rw[QR,es,e1];have z1:al ((v,(bG [m,k],((e0,0):ByteArray×Int)))::(a++uT::b))=al (a++uT::b):=by have:=AU [] (a++uT::b) (v,(bG [m,k],(e0,0)));rw[List.nil_append]at this;rw[this,if_neg (by rw[AW (x:=m) (kz.2 (by simp))];simp)];show al []+0+_=_;have:al []=0:=rfl;omega
  rw[z1,AU,AU,AW hmT,AW Tz]
theorem Tj{d:ak}(h:Wf d){vV:ai}{a b:ab}(hv:vV∈d.1)(hr:vV.2.1=[a,b]∨vV.2.1=[b,a])(rT:a.1≠b.1)(hs:Wf (aH (az (aH d vV.1 zI) (ag b) a) zI b.1)) :
  ∃uS uT,Fr (aH (az (aH d vV.1 zI) (ag b) a) zI b.1) d vV.1 a b uS uT vV:=by
 have hrp:vV.2.1.Perm [a,b]:=by
  rcases hr with e|e
  ·rw[e]
  ·rw[e];exact List.Perm.swap _ _ _
 obtain⟨p,q,h1,bp,h2,_⟩:=mE h.sv hv;have pd:(an d.1).Perm (a::b::an (p++q)):=by have:=(g6 p q vV).trans (ac9 _ hrp);rw[←h1]at this;exact this
 have Ow:aH d vV.1 zI=(p++q,d.2):=by unfold aH;rw[h2,kH h.ge]
 have Cs:=pd.nodup_iff.1 h.rw.n;have hbd:b∈an d.1:=pd.mem_iff.2 (by simp);have Cm:=h.side hbd;have SM:ag b∈an (p++q):=by
  have h3:=h.other hbd;rcases abn.1 (pd.mem_iff.1 h3) with k|k
  ·exact absurd (congrArg Prod.fst k) (fun k=>rT k.symm)
  rcases abn.1 k with k|k
  ·exact absurd k (oG Cm)
  ·exact k
 have JI:Rw (p++q):=⟨by rw[←h2];exact lh h.sv,(abx.1 (abx.1 Cs).2).2⟩;have ha:a∉an (p++q):=fun k=>(abx.1 Cs).1 (aa5 _ k);rw[Ow]at hs ⊢;obtain⟨p1,q1⟩:=iQ (d:=(p++q,d.2)) JI SM ha;have Qn:∀w∈(az (p++q,d.2) (ag b) a).1,GV w:=by
  refine oC (d:=(p++q,d.2)) (fun w hw=>h.gv w ?_) _ _;rw[h1];rcases abH.1 hw with k|k
  ·exact abt _ k
  ·exact abo _ (aa5 _ k)
 have Qo:(aH (az (p++q,d.2) (ag b) a) zI b.1).1=(az (p++q,d.2) (ag b) a).1:=lK Qn;obtain⟨uT,hu,hbu⟩:=aM.1 SM;have hau:a∉uT.2.1:=fun e=>ha (aM.2 ⟨uT,hu,e⟩);obtain⟨l,r,e1,e2,_,e4⟩:=mE JI.s hu;obtain⟨uS,Kw⟩:∃uS:ai,uS=(uT.1,(dK uT.2.1 (ag b) a,uT.2.2)):=⟨_,rfl⟩;have es:(az (p++q,d.2) (ag b) a).1=l++uS::r:=by rw[ln (d:=(p++q,d.2)) JI _ hu hbu,Kw];exact e4 _
 have nd:=JI.ring hu;have hmS:a∈uS.2.1:=by
  have:=(so nd hbu hau hbu).1;rw[Kw];unfold ri at this
  rwa [if_pos rfl]at this
 have back:∀y∈uT.2.1,ri a (ag b) (ri (ag b) a y)=y:=fun y hy=>by
  unfold ri;by_cases c:y=ag b
  ·rw[if_pos c,if_pos rfl,c]
  ·rw[if_neg c,if_neg (fun kk:y=a=>hau (kk▸hy))]
 have hp:(an d.1).Perm (b::ag b::an (aH (az (p++q,d.2) (ag b) a) zI b.1).1):=by rw[Qo];exact pd.trans ((List.Perm.swap b a _).trans (List.Perm.cons b p1))
 have ah0:=hp.nodup_iff.1 h.rw.n;have adk:∀y,y∈(aH (az (p++q,d.2) (ag b) a) zI b.1).1↔y∈l++uS::r:=fun y=>by rw[Qo,es]
 refine⟨uS,uT,hs,h,fun y=>?_,(adk uS).2 (abo _ abu),by rw[Kw],rfl,hr,hmS,Cm,fun e=>?_,fun e=>?_,fun z hz=>?_,hp,fun x hx=>?_,?_,?_⟩
 ·rw[h1,adk];have xq:y∈p++vV::q↔y=vV∨y∈p++q:=by
   simp only[List.mem_append,List.mem_cons];constructor
   ·rintro(c|c|c)
    ·exact .inr (.inl c)
    ·exact .inl c
    ·exact .inr (.inr c)
   ·rintro(c|c|c)
    ·exact .inr (.inl c)
    ·exact .inl c
    ·exact .inr (.inr c)
  rw[xq,e1];have ZZ:uS.1=uT.1:=by rw[Kw]
  constructor
  ·rintro(c|c)
   ·exact .inl c
   ·rcases abH.1 c with c|c
    ·exact .inr (.inl ⟨abt _ c,by rw[ZZ];exact e2 y (abt _ c)⟩)
    ·rcases abn.1 c with c|c
     ·exact .inr (.inr c)
     ·exact .inr (.inl ⟨abo _ (aa5 _ c),by rw[ZZ];exact e2 y (abo _ c)⟩)
  ·rintro(c|⟨c,c2⟩|c)
   ·exact .inl c
   ·refine .inr ?_;rcases abH.1 c with c|c
    ·exact abt _ c
    ·rcases abn.1 c with c|c
     ·subst c;exact absurd rfl c2
     ·exact abo _ (aa5 _ c)
   ·rw[c];exact .inr (abo _ abu)
 ·exact(abx.1 ah0).1 (aa5 _ e)
 ·exact(abx.1 (abx.1 ah0).2).1 e
 ·rw[Kw]at hz;obtain⟨y,hy,rfl⟩:=Ti nd hbu hau hz;have n1:=(so nd hbu hau hy).2;have n2:dN uS.2.1 (ri (ag b) a y)=ri (ag b) a (dN uT.2.1 y):=by rw[Kw];exact n1
  have b1:=back y hy;have b2:=back _ (j6 nd hy);show ri a (ag b) (ri (ag b) a y)∈uT.2.1∧dN uT.2.1 (ri a (ag b) (ri (ag b) a y))=ri a (ag b) (dN uS.2.1 (ri (ag b) a y));rw[b1,n2,b2];exact⟨hy,rfl⟩
 ·have hx:=(adk x).1 hx;have:∃y∈p++q,y.1=x.1:=by
   rw[e1];rcases abH.1 hx with c|c
   ·exact⟨x,abt _ c,rfl⟩
   ·rcases abn.1 c with c|c
    ·exact⟨uT,abo _ abu,by rw[c,Kw]⟩
    ·exact⟨x,abo _ (aa5 _ c),rfl⟩
  obtain⟨y,hy,e⟩:=this;rw[←e];exact bp y hy
 ·rw[Qo,es,h1];have:=congrArg List.length e1;simp at this ⊢;omega
 ·rw[Qo,es,h1];have z1:=AU p q vV;have z2:=AU l r uS;have z3:=AU l r uT;have z4:=JZ p q;rw[e1]at z4;rw[AW (hrp.mem_iff.2 (by simp):a∈vV.2.1)]at z1;rw[AW hmS]at z2;rw[AW hbu]at z3;simp at z1 z2 z3;omega
theorem cd:bN zS.1=0:=by have hr:qb zS.1 []:=⟨List.nodup_nil,fun r h=>(by cases h),fun r h=>(by cases h),fun v h=>(by cases h)⟩;rw[fG Wf.zero hr];rfl
theorem MN{s:StateT}(h:cS s)(hg:bN s.1=0)(o:aE):bN (bP s o).1.1=0:=by
 have hw:=(h.one o).d;unfold bP at hw ⊢
 split
 ·exact cd
 rename_i hm;rw[if_neg hm]at hw;have hm:bg o=0:=Classical.byContradiction fun k=>hm k
 split
 ·rename_i h1;rw[if_pos h1]at hw;unfold mh at hw ⊢
  split
  ·exact cd
  rename_i k1;rw[if_neg k1]at hw
  split
  ·exact cd
  rename_i k2;rw[if_neg k2]at hw;exact Th h.d (by simpa[aG] using k1) hw hg
 rename_i h1;rw[if_neg h1]at hw
 split
 ·unfold qL
  cases hv:aG s.1 (ar o) with
  |none=>exact cd
  |some v =>
   simp only
   split
   ·exact cd
   ·rename_i hr;have hl:Lone s.1 v:=⟨h.d,dw hv,by simpa using hr⟩;have:=(Ie hl).1 hg;rw[gk hv]at this;exact this
 rename_i h2;rw[if_neg h2]at hw
 split
 ·unfold kP
  split;· exact cd
  split;· exact cd
  split;· exact cd
  split;· exact cd
  split;· exact cd
  rename_i k;exact Classical.byContradiction fun q=>k q
 rename_i h3;rw[if_neg h3]at hw
 split
 ·unfold w8
  split;· exact cd
  rename_i k1;exact XD (x:=ar o) ⟨h.d,nq k1⟩ hg
 rename_i h4;rw[if_neg h4]at hw
 split
 ·rename_i hk;rw[if_pos hk]at hw;unfold jg at hw ⊢
  split;· exact cd
  rename_i k1;rw[if_neg k1]at hw
  split;· exact cd
  rename_i k2;rw[if_neg k2]at hw
  split;· exact cd
  rename_i k3;rw[if_neg k3]at hw
  split;· exact cd
  rename_i k4;rw[if_neg k4]at hw
  split;· exact cd
  rename_i k5;rw[if_neg k5]at hw;obtain⟨m1,m2,m3,m4⟩:=np hm hk;obtain⟨s1,s2⟩:=yV m3 m4;obtain⟨uS,uT,vV,fr⟩:=XG (d:=s.1) (m:=JA o) (k:=Gf o) (v:=cc o) h.d s1 s2 (nq k1) (by simpa[aG] using k2) (by simpa[b5,Gf] using k3) hw;exact fr.flat.1 hg
 rename_i h5;rw[if_neg h5]at hw
 split
 ·rename_i h6;rw[if_pos h6]at hw;unfold fX at hw ⊢
  split
  ·exact cd
  ·rename_i v hv;rw[hv]at hw;have Ce:=dw hv;have Mb:=gk hv;simp only at hw
   split
   ·rename_i r0 r1 hr;rw[hr]at hw;simp only at hw;have key:∀a b:ab,(v.2.1=[a,b]∨v.2.1=[b,a])→a.1≠b.1→Wf (GM s o a b)→bN (GM s o a b)=0:=fun a b hp rT Um=>by unfold GM at Um ⊢;rw[←Mb]at Um ⊢;obtain⟨uS,uT,fr⟩:=Tj h.d Ce hp rT Um;exact fr.flat.2 hg
    unfold dH at hw ⊢
    split;· exact cd
    rename_i bp;rw[if_neg bp]at hw
    split
    ·rename_i c;rw[if_pos c]at hw;exact key r1 r0 (.inr hr) (fun k=>bp k.symm) hw
    rename_i c;rw[if_neg c]at hw
    split
    ·rename_i c2;rw[if_pos c2]at hw;exact key r0 r1 (.inl hr) bp hw
    ·exact cd
   ·exact cd
 rename_i h6;rw[if_neg h6]at hw;unfold qK at hw ⊢
 split
 ·rename_i c;rw[if_pos c]at hw;exact FU (Ig o) h.d hw hg
 ·exact cd
theorem QS:∀(l:List aE) {s:StateT},cS s→bN s.1=0→bN (ji l s).1.1=0
 |[],s,h,hg=>hg
 |o::r,s,h,hg=>by
  unfold ji
  split
  ·exact cd
  ·exact QS r (h.one o) (MN h hg o)
theorem Pf{s:StateT}(h:cS s)(hg:bN s.1=0)(l:List aE):bN (bC s l).1.1=0:=by
 unfold bC
 split
 ·exact cd
 ·exact QS l h hg
theorem MO{s:StateT}(h:cS s)(hg:bN s.1=0)(l:List aE):bN (iM s l).1=0:=by
 unfold iM
 split
 ·exact hg
 ·exact Pf h hg l
end Go.Vs
