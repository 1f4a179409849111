/- What the program computes of -/
import Derived.Test.YtpkfpbpbkabkdaaGreatEuler
set_option linter.unusedVariables false
set_option linter.unusedSimpArgs false
namespace Go.Vs
open Go.Proofs
variable {G:(f:FuncId)→(g:aX)→Option (g.A→Option g.B)}
theorem Oo(w:ai)(r:List ai)(x:ID):aN (w::r) x=if w.1=x then some w else aN r x:=by unfold aN;rw[List.find?_cons];by_cases h:w.1=x<;>simp[h]
theorem Wv(hG:HG G)(l:List ai)(x:ID)(hl:l.length≤1073741824):FX G 110108 lS ((l,x,()),())=some (jY zV (aN l x),()):=by
 refine aB (hG _ _ rfl) Vn ?_;have loop:∀(n i:Nat),i+n=l.length→LX G 110108 lS Tryz.f108 nY (aS Tryz.prog 108 0) ((l,(((l.length:Nat):Int),((i:Int),()))),(((x,()),(((0:Int),((0:Int),(([]:List ae),(e0,((0:Int),()))))),())),()))=some (jY zV (aN (l.drop i) x),()):=by
  intro n
  induction n with
  |zero =>intro i hi;refine aw EH ?_;refine ag (decide_eq_false (show ¬((i:Int)<((l.length:Nat):Int)) by omega)) ?_;rw[List.drop_eq_nil_of_le (by omega)];rfl
  |succ n ih =>
   intro i hi;have aG:i<l.length:=by omega
   have amj:FX G 109 Lc ((l[i],()),())=some ((l[i].1,()),()):=aB (hG _ _ rfl) aeY rfl;refine aw EH ?_;refine af (ba aG) (aa (aC (aa4 aG)) ?_);refine aa amj ?_;rw[List.drop_eq_getElem_cons aG,Oo];by_cases he:l[i].1=x
   ·rw[if_pos he];exact af ((jl l[i].1 x).trans (decide_eq_true he)) rfl
   ·rw[if_neg he];refine ag ((jl l[i].1 x).trans (decide_eq_false he)) ?_;have:=ih (i+1) (by omega);rw[←aI aG hl]at this;exact this
 have:=loop l.length 0 (by omega);rw[List.drop_zero]at this;exact this
theorem Me(hG:HG G)(d:ak)(x:ID)(hs:Sm d):FX G 74 vA ((d,x,()),())=some (jY zV (aO d x),()):=by
 have hv:=hs.v;refine aB (hG _ _ rfl) aeL ?_;refine aa (Wv hG d.1 x (by omega)) ?_;unfold aO
 cases hf:aN d.1 x with
 |none=>exact aa (abZ (hG _ _ rfl) [] (by simp)) rfl
 |some v=>exact aa (abZ (hG _ _ rfl) v.2.1 (hs.r v (du hf))) rfl
theorem Ww(w:ai)(r:List ai)(x:ae):EU (w::r) x=if x∈w.2.1 then some w.1 else EU r x:=by unfold EU;rw[List.find?_cons];by_cases h:x∈w.2.1<;>simp[h]
theorem Wx(hG:HG G)(d:ak)(x:ae)(hs:Sm d):FX G 139 vB ((d,x,()),())=some (jY zI (bJ d x),()):=by
 have hv:=hs.v;refine aB (hG _ _ rfl) aeZ ?_;have loop:∀(n i:Nat),i+n=d.1.length→LX G 139 vB Tryz.f139 yg (aS Tryz.prog 139 0) ((d.1,(((d.1.length:Nat):Int),((i:Int),()))),(((x,()),((zI,()),())),()))=some (jY zI (EU (d.1.drop i) x),()):=by
  intro n
  induction n with
  |zero =>intro i hi;refine aw Pv ?_;refine ag (decide_eq_false (show ¬((i:Int)<((d.1.length:Nat):Int)) by omega)) ?_;rw[List.drop_eq_nil_of_le (by omega)];rfl
  |succ n ih =>
   intro i hi;have aG:i<d.1.length:=by omega
   refine aw Pv ?_;refine af (ba aG) (aa (aC (aa4 aG)) ?_);refine aa (Hv hG d.1[i].2.1 x (by have:=hs.r _ (acm aG);omega)) ?_;rw[List.drop_eq_getElem_cons aG,Ww];by_cases he:x∈d.1[i].2.1
   ·rw[if_pos he];exact af (decide_eq_true he) rfl
   ·rw[if_neg he];refine ag (decide_eq_false he) ?_;have:=ih (i+1) (by omega);rw[←aI aG (by omega)]at this;exact this
 have:=loop d.1.length 0 (by omega);rw[List.drop_zero]at this;exact this
def Oq(x:ae):List aE→Int→Int
 |[],_ => -1
 |g::r,i=>if g.1=x then i else Oq x r (i+1)
theorem Mf(x:ae):∀(l:List aE) (i:Nat),(Oq x l i = -1∧iw l x=none)∨∃k g,Oq x l (i:Int)=((i+k:Nat):Int)∧l[k]? = some g∧iw l x=some g.2
 |[],i=>.inl ⟨rfl,rfl⟩
 |g::r,i=>by
  rw[Oq,rO];by_cases h:g.1=x
  ·rw[if_pos h,if_pos h];exact .inr ⟨0,g,by simp,by simp,rfl⟩
  ·rw[if_neg h,if_neg h];have e:(i:Int)+1=((i+1:Nat):Int):=by omega
   rw[e];rcases Mf x r (i+1) with⟨h1,h2⟩|⟨k,q,h1,h2,h3⟩
   ·exact .inl ⟨h1,h2⟩
   ·exact .inr ⟨k+1,q,by rw[h1];congr 1;omega,by simpa using h2,h3⟩
theorem Wy(hG:HG G)(l:List aE)(x:ae)(hl:l.length≤1073741824):FX G 246244 kl ((l,()),((x,()),()))=some ((Oq x l 0,()),((x,()),())):=by
 refine aB (hG _ _ rfl) Vp ?_;have loop:∀(n i:Nat),i+n=l.length→LX G 246244 kl Tryz.f244 kW (aS Tryz.prog 244 0) ((l,(((l.length:Nat):Int),((i:Int),()))),(((x,()),()),()))=some ((Oq x (l.drop i) i,()),((x,()),())):=by
  intro n
  induction n with
  |zero =>intro i hi;refine aw EJ ?_;refine ag (decide_eq_false (show ¬((i:Int)<((l.length:Nat):Int)) by omega)) ?_;rw[List.drop_eq_nil_of_le (by omega)];rfl
  |succ n ih =>
   intro i hi;have aG:i<l.length:=by omega
   have amk:FX G 245 Lf ((l[i],()),((x.1.1,(x.1.2,(x.2,()))),()))=some (((((l[i].1.1.1==x.1.1)&&(l[i].1.1.2==x.1.2))&&(l[i].1.2==x.2)),()),((x.1.1,(x.1.2,(x.2,()))),())) :=aB (hG _ _ rfl) ae4 rfl;refine aw EJ ?_;refine af (ba aG) (aa (aC (aa4 aG)) ?_);refine aa amk ?_;rw[List.drop_eq_getElem_cons aG,Oq];by_cases he:l[i].1=x
   ·rw[if_pos he];exact af ((lW l[i].1 x).trans (decide_eq_true he)) rfl
   ·rw[if_neg he];refine ag ((lW l[i].1 x).trans (decide_eq_false he)) ?_;have:=ih (i+1) (by omega);have e:=aI aG hl;show LX G 246244 kl Tryz.f244 kW (aS Tryz.prog 244 0) ((l,(((l.length:Nat):Int),(IntKind.wrap .i64 ((i:Int)+1),()))),(((x,()),()),()))=some ((Oq x (l.drop (i+1)) ((i+1:Nat):Int),()),((x,()),()));rw[e];exact this
 have:=loop l.length 0 (by omega);rw[List.drop_zero]at this;exact this
theorem agn(hG:HG G)(l:List aE)(x:ae)(hl:l.length≤1073741824):FX G 230 Ld ((l,x,()),())=some (jY zD (iw l x),()):=by
 refine aB (hG _ _ rfl) ae0 ?_;refine aa (Wy hG l x hl) ?_;rcases Mf x l 0 with⟨h1,h2⟩|⟨k,g,h1,h2,h3⟩
 ·have h1:Oq x l 0 = -1:=h1;rw[h2];exact af (decide_eq_true (show Oq x l 0<0 by omega)) rfl
 ·have h1:Oq x l 0=(k:Int):=by have:Oq x l ((0:Nat):Int)=Oq x l 0:=rfl;rw[←this,h1];congr 1;omega
  rw[h3];refine ag (decide_eq_false (show ¬Oq x l 0<0 by omega)) ?_;refine aa (show bh l (Oq x l 0)=some g by rw[h1];exact aC h2) ?_;rfl
theorem ago(hG:HG G)(s:StateT)(x:ae)(hs:Sm s.1)(hg:s.2.length≤50000000):FX G 212 Bz ((s,x,()),())=some ((resolve s x,()),()):=by
 refine aB (hG _ _ rfl) aeM ?_;have hw:IntKind.wrap .i64 (((s.2.length:Nat):Int)+1)=((s.2.length+1:Nat):Int):=by rw[wrap_small (by omega) (by omega)];rfl
 have loop:∀(n i:Nat) (y:ae),i+n=s.2.length+1→LX G 212 Bz Tryz.f212 ya (aS Tryz.prog 212 0) (((IntKind.wrap .i64 (((s.2.length:Nat):Int)+1)),((i:Int),())),(((s,()),((y,()),((zD,()),()))),()))=some ((res s.1 s.2 n y,()),()):=by
  intro n
  induction n with
  |zero =>intro i y hi;refine aw Pq ?_;exact ag (decide_eq_false (show ¬((i:Int)<IntKind.wrap .i64 (((s.2.length:Nat):Int)+1)) by rw[hw];omega)) rfl
  |succ n ih =>
   intro i y hi;refine aw Pq ?_;refine af (decide_eq_true (show((i:Int)<IntKind.wrap .i64 (((s.2.length:Nat):Int)+1)) by rw[hw];omega)) ?_;refine aa (Wx hG s.1 y hs) ?_;rw[res];have h1:(jY zI (bJ s.1 y)).2.1=(bJ s.1 y).isSome:=iF _ _
   cases ha:(bJ s.1 y).isSome
   ·rw[if_neg (by simp)];refine ag (h1.trans ha) ?_;refine aa (agn hG s.2 y (by omega)) ?_
    cases hf:iw s.2 y with
    |none=>exact af rfl rfl
    |some z =>
     refine ag rfl ?_;have:=ih (i+1) z (by omega);have e:IntKind.wrap .i64 ((i:Int)+1)=((i+1:Nat):Int):=by rw[wrap_small (by omega) (by omega)];rfl
     rw[←e]at this;exact this
   ·rw[if_pos rfl];exact af (h1.trans ha) rfl
 exact loop (s.2.length+1) 0 x (by omega)
theorem agp(hG:HG G)(s:StateT)(c:ml)(hs:Sm s.1)(hg:s.2.length≤50000000):FX G 180 K8 ((s,c,()),())=some (aR s c,()):=by
 refine aB (hG _ _ rfl) aex ?_;refine aa (Me hG s.1 c.1 hs) ?_;unfold aR
 cases hf:aO s.1 c.1 with
 |none=>exact af rfl rfl
 |some v =>
  refine ag rfl ?_;refine aa (ago hG s c.2 hs hg) ?_;refine aa (Hv hG v.2.1 (resolve s c.2) (by have:=hs.r v (du hf);omega)) ?_;show _=some (((c.1,mN s c v),((0:Int),())),());unfold mN;by_cases hm:resolve s c.2∈v.2.1
  ·rw[if_pos hm];exact aZ (decide_eq_true hm) rfl
  ·rw[if_neg hm];exact aZ (decide_eq_false hm) rfl
def Ot(G:(f:FuncId)→(g:aX)→Option (g.A→Option g.B)):Prop:=∀d,Wf d→FX G 172 D7 ((d,()),())=some ((decide (bK d=0),()),())
theorem P5{l:List ai}{e:List an}{c:ml}{v:ai}(hs:cd l)(hf:aN l c.1=some v)(x:ae):l.set (bQ l c.1) (v.1,(gN v.2.1 c.2 x,v.2.2))=(br (l,e) c x).1:=by rw[N8 hs (dK hs hf)];have hi:=gj hf;have hm:=du hf;unfold br Vs.b8;rw[←hi,gk (d:=(l,e)) hs hm]
theorem Fu{d:ak}(h:Wf d):ry d.1 d.2=true:=by unfold ry;have h1:=h.nv;have h2:=h.ne;simp only[Bool.and_eq_true,decide_eq_true_eq,List.all_eq_true];exact⟨by omega,by omega,fun v hv=>by have:=h.wT v hv;omega⟩
theorem Y3(hG:HG G)(hp:Ot G)(o:aW):pS G o:=by
 intro s h hm Ta;have QH:=h.d.nv;have bq:=h.d.ne;have hn:=h.n;have Wh:=h.d.small;have bR:=rM hm;have start:∀(e:Int) (w:bg),cp 154 qp Tryz.f154 (FX G) (LX G 154 qp Tryz.f154) ((o,()),(aT s,()))=some ((e,()),(w,()))→FX G 154 qp ((o,()),(aT s,()))=some ((e,()),(w,())):=fun e w a =>aB (hG _ _ rfl) a rfl;have f110:=aaO hG (aT s) (au o) h.d.se (by show s.1.2.length≤_;omega);unfold kK
 cases hf:(aL s.1.2 (au o)).isSome with
 |true =>have e1:vI (aT s) (au o)=(12,aT s):=if_pos hf;rw[e1]at f110;refine⟨12,aT s,start _ _ ((abD).trans (af (Fu h.d) (aa f110 (af rfl rfl)))),?_⟩;rw[if_pos (show(cH s.1 (au o)).isSome=true from hf)];rfl
 |false =>
 rw[if_neg (show ¬(cH s.1 (au o)).isSome=true by show ¬(aL s.1.2 (au o)).isSome=true;rw[hf];simp)];by_cases h40:40≤s.1.2.length
 ·have e1:vI (aT s) (au o)=(3,aT s):=(if_neg (show ¬(aL s.1.2 (au o)).isSome=true by rw[hf];simp)).trans (if_pos h40);rw[e1]at f110;refine⟨3,aT s,start _ _ ((abD).trans (af (Fu h.d) (aa f110 (af rfl rfl)))),?_⟩;rw[if_pos h40];rfl
 rw[if_neg h40];obtain⟨E,hE⟩:∃E,E=bS (au o,(e0,0)) s.1.2:=⟨_,rfl⟩;have e1:vI (aT s) (au o)=(0,(s.1.1,(E,(s.2,())))):=by rw[hE];exact(if_neg (show ¬(aL s.1.2 (au o)).isSome=true by rw[hf];simp)).trans (if_neg h40)
 rw[e1]at f110;obtain⟨x,hx⟩:∃x:ae,x=(au o,0):=⟨_,rfl⟩;obtain⟨y,hy⟩:∃y:ae,y=(au o,1):=⟨_,rfl⟩;have f111:FX G 179 D5 ((au o,()),())=some ((x,y,()),()):=by rw[hx,hy];exact aB (hG _ _ rfl) aav rfl
 have f112:=fun c:ml=>agp hG s c h.d.sm (by omega);have go:∀(e:Int) (w:bg),LX G 154 qp Tryz.f154 nX (aS Tryz.prog 154 0) (((2:Int),((0:Int),())),(((s.1.1,(E,(s.2,()))),((s,()),((x,()),()))),([x,y],([oA o,oB o],()))))=some ((e,()),(w,()))→FX G 154 qp ((o,()),(aT s,()))=some ((e,()),(w,())):=fun e w a =>start _ _ ((abD).trans (af (Fu h.d) (aa f110 (ag rfl (aa f111 a)))));by_cases hA:(aR s (oA o)).2.1=0
 case neg =>
  rw[if_pos hA];have aml:aR s (oA o)=(zC,(13,())):=by
   unfold aR at hA ⊢
   cases hv:aO s.1 (oA o).1 with
   |none=>rfl
   |some v=>rw[hv]at hA;exact absurd rfl hA
  refine⟨13,(s.1.1,(E,(s.2,()))),go _ _ ?_,rfl⟩;refine aw Af ?_;refine af rfl (af rfl (aa (a:=oA o) rfl (aa (f112 (oA o)) ?_)));rw[aml];exact af rfl rfl
 rw[if_neg (fun k=>k hA)];obtain⟨va,ca⟩:=lk hA;obtain⟨cA,hcA⟩:∃c:ml,c=(aR s (oA o)).1:=⟨_,rfl⟩;have eA:aR s (oA o)=(cA,(0,())):=by
  rw[hcA];have:(aR s (oA o)).2=(0,()):=by have h1:(aR s (oA o)).2=((aR s (oA o)).2.1,()):=rfl;rw[h1,hA]
  rw[←this]
 have cAv:(aN s.1.1 cA.1).isSome=true:=by rw[hcA,ca];exact va
 obtain⟨v1,xw⟩:=abC.1 cAv;have acb:=du xw;obtain⟨d1,N7⟩:∃d1:ak,d1=br (s.1.1,E) cA x:=⟨_,rfl⟩;have amm:s.1.1.set (bQ s.1.1 cA.1) (v1.1,(gN v1.2.1 cA.2 x,v1.2.2))=d1.1:=by rw[N7];exact P5 h.d.sv xw x
 have d1s:cd d1.1:=by rw[N7];exact h.d.sv.re _ _
 have hl1:=(aa2.1 (dK h.d.sv xw)).1;have aaX:∀v∈d1.1,v.2.1.length≤50000000:=fun v hv=>by
  rw[N7]at hv;obtain⟨w,hw,rfl⟩:=aca.1 (show v∈s.1.1.map (iM cA.1 (gN (aV (s.1.1,E) cA.1) cA.2 x)) from hv);have h1:=h.d.wT w hw;unfold iM
  split
  ·have h2:=BI (aV (s.1.1,E) cA.1) cA.2 x;have h3:(aV (s.1.1,E) cA.1).length≤80:=by rw[←gj xw,gk (d:=(s.1.1,E)) h.d.sv acb];exact h.d.wT v1 acb
   show(gN (aV (s.1.1,E) cA.1) cA.2 x).length≤50000000;omega
  ·omega
 have d1l:d1.1.length=s.1.1.length:=by rw[N7];exact fK _ _ _
 have aaY:∀(e:Int) (w:bg),LX G 154 qp Tryz.f154 nX (aS Tryz.prog 154 0) (((2:Int),((1:Int),())),(((d1.1,(E,(s.2,()))),((s,()),((x,()),()))),([x,y],([oA o,oB o],()))))=some ((e,()),(w,()))→FX G 154 qp ((o,()),(aT s,()))=some ((e,()),(w,())):=fun e w a=>by
  refine go _ _ ?_;refine aw Af ?_;refine af rfl (af rfl (aa (a:=oA o) rfl (aa (f112 (oA o)) ?_)));rw[eA];refine ag rfl (ag rfl ?_);refine aa (so hG (s.1.1,(E,(s.2,()))) cA.1 h.d.sv Wh.n) ?_;refine af (dp (gr _) (ba hl1)) (aa (dK h.d.sv xw) ?_);refine af rfl (aa (a:=x) rfl ?_);refine aa (VZ hG v1.2.1 cA.2 x (Wh.r v1 acb)) ?_;refine aa (dK h.d.sv xw) ?_;have key:∀a1:List ai,a1=d1.1→LX G 154 qp Tryz.f154 nX (aS Tryz.prog 154 0) (((2:Int),((1:Int),())),(((a1,(E,(s.2,()))),((s,()),((x,()),()))),([x,y],([oA o,oB o],()))))=some ((e,()),(w,())):=fun a1 HP=>by subst HP;exact a
  exact key _ amm
 by_cases hB:(aR s (oB o)).2.1=0
 case neg =>
  rw[if_pos hB];have amn:aR s (oB o)=(zC,(13,())):=by
   unfold aR at hB ⊢
   cases hv:aO s.1 (oB o).1 with
   |none=>rfl
   |some v=>rw[hv]at hB;exact absurd rfl hB
  refine⟨13,(d1.1,(E,(s.2,()))),aaY _ _ ?_,rfl⟩;refine aw Af ?_;refine af rfl (af rfl (aa (a:=oB o) rfl (aa (f112 (oB o)) ?_)));rw[amn];exact af rfl rfl
 rw[if_neg (fun k=>k hB)];obtain⟨vb,cb⟩:=lk hB;obtain⟨cB,Y4⟩:∃c:ml,c=if(aO s.1 (oB o).1).isSome=true∧(oB o).2=(au o,0) then oB o else(aR s (oB o)).1:=⟨_,rfl⟩
 have eB:aR s (oB o)=((aR s (oB o)).1,(0,())):=by
  have:(aR s (oB o)).2=(0,()):=by have h1:(aR s (oB o)).2=((aR s (oB o)).2.1,()):=rfl;rw[h1,hB]
  rw[←this]
 have cB1:cB.1=(oB o).1:=by rw[Y4];split;rfl;exact cb
 have cBv:(aN d1.1 cB.1).isSome=true:=by rw[N7];exact tK _ (by rw[cB1];exact vb)
 obtain⟨v2,A5⟩:=abC.1 cBv;have agr:=du A5;have v5:=(aa2.1 (dK d1s A5)).1;obtain⟨d2,Ye⟩:∃d2:ak,d2=br d1 cB y:=⟨_,rfl⟩;have Y5:d1.1.set (bQ d1.1 cB.1) (v2.1,(gN v2.2.1 cB.2 y,v2.2.2))=d2.1:=by rw[Ye];exact P5 (e:=d1.2) d1s A5 y
 have aaZ:gP s o=d2:=by rw[Ye,N7,hcA,Y4,hx,hy,hE];rfl
 have hE2:d2.2=E:=by rw[Ye,N7];rfl
 have hwf:Wf d2:=by
  rw[←aaZ];unfold gP;have hn0:aL s.1.2 (au o)=none:=by simpa using hf
  refine h.d.link bR hn0 h40 (by rw[ca];exact va) ?_;rw[←Y4,cB1];exact vb
 have last:∀(e:Int) (w:bg),LX G 154 qp Tryz.f154 nX (aS Tryz.prog 154 0) (((2:Int),((2:Int),())),(((d2.1,(E,(s.2,()))),((s,()),((x,()),()))),([x,y],([oA o,oB o],()))))=some ((e,()),(w,()))→FX G 154 qp ((o,()),(aT s,()))=some ((e,()),(w,())):=fun e w a=>by
  refine aaY _ _ ?_;refine aw Af ?_;refine af rfl (af rfl (aa (a:=oB o) rfl (aa (f112 (oB o)) ?_)));rw[eB];have key:∀a2:List ai,a2=d2.1→LX G 154 qp Tryz.f154 nX (aS Tryz.prog 154 0) (((2:Int),((2:Int),())),(((a2,(E,(s.2,()))),((s,()),((x,()),()))),([x,y],([oA o,oB o],()))))=some ((e,()),(w,())):=fun a2 GC=>by subst GC;exact a
  refine ag rfl (af rfl ?_);have sr:=lW (oB o).2 x;by_cases Yq:(oB o).2=x
  ·have ecB:cB=oB o:=by rw[Y4];exact if_pos ⟨vb,Yq.trans hx⟩
   refine af (sr.trans (decide_eq_true Yq)) ?_;rw[ecB]at A5 v5 Y5;refine aa (so hG (d1.1,(E,(s.2,()))) (oB o).1 d1s (by show d1.1.length≤_;omega)) ?_;refine af (dp (gr _) (ba v5)) (aa (dK d1s A5) ?_);refine af rfl (aa (a:=y) rfl ?_);refine aa (VZ hG v2.2.1 (oB o).2 y (aaX v2 agr)) ?_;refine aa (dK d1s A5) ?_;exact key _ Y5
  ·have ecB:cB=(aR s (oB o)).1:=by rw[Y4];exact if_neg (fun k=>Yq (k.2.trans hx.symm))
   refine ag (sr.trans (decide_eq_false Yq)) ?_;rw[ecB]at A5 v5 Y5;refine aa (so hG (d1.1,(E,(s.2,()))) (aR s (oB o)).1.1 d1s (by show d1.1.length≤_;omega)) ?_;refine af (dp (gr _) (ba v5)) (aa (dK d1s A5) ?_);refine af rfl (aa (a:=y) rfl ?_);refine aa (VZ hG v2.2.1 (aR s (oB o)).1.2 y (aaX v2 agr)) ?_;refine aa (dK d1s A5) ?_;exact key _ Y5
 have f114:=hp d2 hwf;rw[aaZ];have e2:(d2.1,E)=d2:=by rw[←hE2]
 by_cases hg:bK d2=0
 ·rw[if_neg (fun k=>k hg)];refine⟨0,(d2.1,(E,(s.2,()))),last _ _ ?_,?_⟩
  ·refine aw Af ?_;refine ag rfl ?_;have key:∀q:ak,q=d2→((FX G 172 D7 ((q,()),())).bind fun(Lr:((Bool×Unit)×Unit))=>cond (not Lr.1.1) (some (((15:Int),()),((d2.1,(E,(s.2,()))),()))) (some (((0:Int),()),((d2.1,(E,(s.2,()))),()))))=some (((0:Int),()),((d2.1,(E,(s.2,()))),())):=fun q hq=>by subst hq;exact aa f114 (aZ (decide_eq_true hg) rfl)
   exact key _ e2
  ·show(CL (d2.1,(E,(s.2,()))),((0:Int),()))=((d2,s.2),(0,()));show(((d2.1,E),s.2),((0:Int),()))=((d2,s.2),(0,()));rw[e2]
 ·rw[if_pos hg];refine⟨15,(d2.1,(E,(s.2,()))),last _ _ ?_,rfl⟩;refine aw Af ?_;refine ag rfl ?_;have key:∀q:ak,q=d2→((FX G 172 D7 ((q,()),())).bind fun(Lr:((Bool×Unit)×Unit))=>cond (not Lr.1.1) (some (((15:Int),()),((d2.1,(E,(s.2,()))),()))) (some (((0:Int),()),((d2.1,(E,(s.2,()))),()))))=some (((15:Int),()),((d2.1,(E,(s.2,()))),())):=fun q hq=>by subst hq;exact aa f114 (aZ (decide_eq_false hg) rfl)
  exact key _ e2
theorem ags(hG:HG G)(row:List ae)(d:ae)(hl:row.length≤100000000):FX G 261 Li ((row,d,()),())=some (BG (cT row d 1),()):=by
 refine aB (hG _ _ rfl) afc ?_;have key:FX G 167 Ee ((row,(d,((1:Int),()))),())=some (BG (cT row d 1),()):=by
  refine aB (hG _ _ rfl) aaw ?_;refine aa (E1 (hG _ _ rfl) row d (by omega)) ?_;unfold cT;by_cases hd:d∈row
  ·rw[if_pos hd];obtain⟨k,h1,h2,h3⟩:=eU hd;have aG:=(aa2.1 h2).1;refine ag (decide_eq_false (show ¬idx d row 0<0 by omega)) ?_;refine ag (Jh hd) ?_;have Lu:IntKind.wrap .i64 (idx d row 0+1)=((k+1:Nat):Int):=by rw[h1,wrap_small (by omega) (by omega)];rfl
   have Al:(k+1)%row.length<row.length:=adv _ (by omega);have hx:=aa4 Al;refine aa (show bh row (Int.tmod (IntKind.wrap .i64 (idx d row 0+1)) ((row.length:Nat):Int))=some row[(k+1)%row.length] by rw[Lu,tF];exact aC hx) ?_;rw[h1,Int.toNat_natCast,hx];rfl
  ·rw[if_neg hd];exact af (decide_eq_true (fS.2 hd)) rfl
 refine aa key ?_;rfl
def Mg(x:ae):List ai→Option ae
 |[]=>none
 |v::r=>if x∈v.2.1 then cT v.2.1 x 1 else Mg x r
theorem P6{l:List ai}(h:Rw l){v:ai}{x:ae}(hv:v∈l)(hx:x∈v.2.1):∀r,(∀u∈r,u∈l)→v∈r→Mg x r=cT v.2.1 x 1
 |[],_,k=>by cases k
 |u::r,hs,k=>by
  rw[Mg];by_cases hu:x∈u.2.1
  ·rw[if_pos hu,h.one hv (hs u List.mem_cons_self) hx hu]
  ·rw[if_neg hu];rcases abd.1 k with e|k
   ·rw[e]at hx;exact absurd hx hu
   ·exact P6 h hv hx r (fun w hw=>hs w (aa1 _ hw)) k
theorem HQ{x:ae}:∀{l:List ai},x∉aq l→Mg x l=none
 |[],_=>rfl
 |v::r,h=>by rw[jJ,List.mem_append]at h;rw[Mg,if_neg (fun k=>h (.inl k))];exact HQ fun k=>h (.inr k)
theorem Ou{d:ak}(h:Rw d.1)(x:ae):Mg x d.1=kI d x:=by
 by_cases hx:x∈aq d.1
 ·obtain⟨v,hv,j6⟩:=aM.1 hx;rw[Fj h hv j6];exact P6 h hv j6 d.1 (fun _ k=>k) hv
 ·rw[HQ hx];unfold kI bJ;rw[LO hx]
theorem agt(hG:HG G)(d:ak)(x:ae)(hs:Sm d)(h:Rw d.1):FX G 258 BC ((d,x,()),())=some (BG (kI d x),()):=by
 have hv:=hs.v;rw[←Ou h x];refine aB (hG _ _ rfl) ae9 ?_;have loop:∀(n i:Nat),i+n=d.1.length→LX G 258 BC Tryz.f258 yk (aS Tryz.prog 258 0) ((d.1,(((d.1.length:Nat):Int),((i:Int),()))),(((x,()),((zD,()),())),()))=some (BG (Mg x (d.1.drop i)),()):=by
  intro n
  induction n with
  |zero =>intro i hi;refine aw PB ?_;refine ag (decide_eq_false (show ¬((i:Int)<((d.1.length:Nat):Int)) by omega)) ?_;rw[List.drop_eq_nil_of_le (by omega)];rfl
  |succ n ih =>
   intro i hi;have aG:i<d.1.length:=by omega
   refine aw PB ?_;refine af (ba aG) (aa (aC (aa4 aG)) ?_);refine aa (ags hG d.1[i].2.1 x (by have:=hs.r _ (acm aG);omega)) ?_;rw[List.drop_eq_getElem_cons aG,Mg];by_cases he:x∈d.1[i].2.1
   ·rw[if_pos he];unfold cT;rw[if_pos he];obtain⟨k,h1,h2,h3⟩:=eU he;have hl:=(aa2.1 h2).1;have hm:((idx x d.1[i].2.1 0).toNat+1)%d.1[i].2.1.length<d.1[i].2.1.length:=adv _ (by omega);rw[List.getElem?_eq_getElem hm];exact af rfl rfl
   ·rw[if_neg he];unfold cT;rw[if_neg he];refine ag rfl ?_;have:=ih (i+1) (by omega);rw[←aI aG (by omega)]at this;exact this
 have:=loop d.1.length 0 (by omega);rw[List.drop_zero]at this;exact this
theorem at_mem{d:ak}{x:ae}(h:(bJ d x).isSome=true):x∈aq d.1:=by
 apply Classical.byContradiction;intro k;unfold bJ at h;rw[LO k]at h
 cases h
theorem agu(hG:HG G)(d:ak)(x:ae)(h:Wf d):FX G 255 Hj ((d,x,()),())=some (BG (J2 d x),()):=by
 have hs:=h.sm;refine aB (hG _ _ rfl) ae7 ?_;refine aa (Wx hG d x hs) ?_;have h1:(jY zI (bJ d x)).2.1=(bJ d x).isSome:=iF _ _;unfold J2
 cases ha:(bJ d x).isSome
 ·rw[if_neg (by simp)];exact aZ (h1.trans ha) rfl
 ·rw[if_pos rfl];refine aZ (h1.trans ha) ?_;refine aa (LV (hG _ _ rfl) x (h.side (at_mem ha))) ?_;exact aa (agt hG d (ah x) hs h.rw) rfl
theorem agv(hG:HG G)(d:ak)(hs:Sm d):FX G 249 xW ((d,()),())=some ((fT d.2,()),()):=by
 have he:=hs.e;refine aB (hG _ _ rfl) ae6 ?_;have loop:∀(n i:Nat) (out:List ae),i+n=d.2.length→out.length=2*i→LX G 249 xW Tryz.f249 yh (aS Tryz.prog 249 0) ((d.2,(((d.2.length:Nat):Int),((i:Int),()))),((),(out,())))=some ((out++fT (d.2.drop i),()),()):=by
  intro n
  induction n with
  |zero =>intro i out hi ho;refine aw Pw ?_;refine ag (decide_eq_false (show ¬((i:Int)<((d.2.length:Nat):Int)) by omega)) ?_;rw[List.drop_eq_nil_of_le (by omega)];show some ((out,()),())=some ((out++[],()),());rw[List.append_nil]
  |succ n ih =>
   intro i out hi ho;have aG:i<d.2.length:=by omega
   refine aw Pw ?_;refine af (ba aG) (aa (aC (aa4 aG)) ?_);refine aa (LV (hG _ _ rfl) (d.2[i].1,0) (.inl rfl)) ?_;refine af (fits (by show out.length+2≤_;omega)) ?_;have:=ih (i+1) (out++[(d.2[i].1,0),(d.2[i].1,1)]) (by omega) (by simp[ho];omega);rw[List.drop_eq_getElem_cons aG];rw[←aI aG (by omega),List.append_assoc]at this;exact this
 exact loop d.2.length 0 [] (by omega) rfl
theorem Wz(hG:HG G)(l:List ai)(hl:l.length≤50000000):FX G 240238 lT ((l,()),())=some ((((al l:Nat):Int),()),()):=by
 refine aB (hG _ _ rfl) Vq ?_;have loop:∀(n i m:Nat),i+n=l.length→m≤i→LX G 240238 lT Tryz.f238 kX (aS Tryz.prog 238 0) (((m:Int),(l,(((l.length:Nat):Int),((i:Int),())))),((),()))=some ((((m+al (l.drop i):Nat):Int),()),()):=by
  intro n
  induction n with
  |zero =>intro i m hi hm;refine aw EK ?_;refine ag (decide_eq_false (show ¬((i:Int)<((l.length:Nat):Int)) by omega)) ?_;rw[List.drop_eq_nil_of_le (by omega)];rfl
  |succ n ih =>
   intro i m hi hm;have aG:i<l.length:=by omega
   have amp:FX G 239 Lg ((l[i],()),())=some ((l[i].2.1.isEmpty,()),()):=by
    refine aB (hG _ _ rfl) ae5 ?_;have:(((l[i].2.1.length:Nat):Int)==0)=l[i].2.1.isEmpty:=by cases l[i].2.1<;>simp;omega
    exact congrArg (fun b:Bool=>some ((b,()),())) this
   refine aw EK ?_;refine af (ba aG) (aa (aC (aa4 aG)) ?_);refine aa amp ?_;rw[List.drop_eq_getElem_cons aG];unfold al;rw[List.countP_cons]
   cases hb:l[i].2.1.isEmpty
   ·refine ag rfl ?_;have:=ih (i+1) m (by omega) (by omega);rw[←aI aG (by omega)]at this;exact this
   ·refine af rfl ?_;have:=ih (i+1) (m+1) (by omega) (by omega);rw[←aI aG (by omega),←aI (i:=m) (n:=l.length) (by omega) (by omega)]at this;refine this.trans ?_;refine congrArg (fun q:Nat=>some ((((q:Nat):Int),()),())) ?_;unfold al;simp;omega
 have:=loop l.length 0 0 (by omega) (by omega);rw[List.drop_zero,Nat.zero_add]at this;exact this
def Fo(g:List Nat):Prop:=∀(i x:Nat),g[i]? = some x→x≤i
def root(g:List Nat)(i:Nat):Nat :=match g[i]? with
 |some x=>if h:x<i then root g x else i
 |none=>i
termination_by i
theorem eJ{g:List Nat}{i x:Nat}(h:g[i]? = some x):root g i=if x<i then root g x else i:=by rw[root,h];simp
theorem nj{g:List Nat}{i:Nat}(h:g[i]? = none):root g i=i:=by rw[root,h]
theorem P7(g:List Nat):∀i,root g i≤i:=by
 intro i
 induction i using Nat.strongRecOn with
 |_ i ih =>
  cases h:g[i]? with
  |none=>rw[nj h];exact ack _
  |some x =>
   rw[eJ h]
   split
   ·rename_i hx;have:=ih x hx;omega
   ·exact ack _
theorem Mh{g:List Nat}(hf:Fo g):∀i,i<g.length→g[root g i]? = some (root g i):=by
 intro i
 induction i using Nat.strongRecOn with
 |_ i ih =>
  intro hi;have h:=aa4 hi;rw[eJ h]
  split
  ·rename_i hx;exact ih _ hx (by omega)
  ·have:=hf i _ h;rw[h];congr 1;omega
theorem nk{g:List Nat}{i:Nat}(h:g[i]? = some i):root g i=i:=by rw[eJ h,if_neg (by omega)]
theorem Fo.set{g:List Nat}(hf:Fo g){i y:Nat}(h:y≤i):Fo (g.set i y):=fun j x hj=>by
 rw[List.getElem?_set]at hj
 split at hj
 ·rename_i e;subst e
  split at hj
  ·cases hj;exact h
  ·cases hj
 ·exact hf j x hj
theorem Ov{g:List Nat}(hf:Fo g){i x y:Nat}(hi:g[i]? = some x)(hx:g[x]? = some y)(aG:x<i):∀j,root (g.set i y) j=root g j:=by
 have hyx:=hf x y hx;have pM:=(aa2.1 hi).1;intro j
 induction j using Nat.strongRecOn with
 |_ j ih =>
  by_cases e:j=i
  ·subst e;have h1:(g.set j y)[j]? = some y:=by rw[List.getElem?_set];simp[pM]
   rw[eJ h1,if_pos (by omega),ih y (by omega),eJ hi,if_pos aG,eJ hx]
   split
   ·rfl
   ·have:y=x:=by omega
    subst this;exact nk hx
  ·have h1:(g.set i y)[j]? = g[j]? := by rw[List.getElem?_set,if_neg (fun k=>e k.symm)]
   cases h:g[j]? with
   |none=>rw[nj h,nj (h1.trans h)]
   |some z =>
    rw[eJ h,eJ (h1.trans h)]
    split
    ·rename_i hz;exact ih z hz
    ·rfl
theorem Sq{g:List Nat}{a b:Nat}(ha:g[a]? = some a)(hb:g[b]? = some b):∀j,root (g.set (max a b) (min a b)) j=if root g j=max a b then min a b else root g j:=by
 have hm:g[max a b]? = some (max a b):=by rcases Nat.le_total a b with h|h<;>simp[Nat.max_eq_right,Nat.max_eq_left,h,ha,hb]
 have hn:g[min a b]? = some (min a b):=by rcases Nat.le_total a b with h|h<;>simp[Nat.min_eq_right,Nat.min_eq_left,h,ha,hb]
 have hml:=(aa2.1 hm).1;have hle:min a b≤max a b:=by omega
 generalize max a b=M at *;generalize min a b=m at *;have aG:∀j,(g.set M m)[j]? = if j=M then some m else g[j]? := fun j=>by
  rw[List.getElem?_set];by_cases e:M=j
  ·subst e;simp[hml]
  ·rw[if_neg e,if_neg (fun k=>e k.symm)]
 intro j
 induction j using Nat.strongRecOn with
 |_ j ih =>
  by_cases ej:j=M
  ·subst ej;have h1:(g.set j m)[j]? = some m:=by rw[aG,if_pos rfl]
   rw[eJ h1,nk hm,if_pos rfl];by_cases e:m<j
   ·rw[if_pos e,ih m e,nk hn,if_neg (by omega)]
   ·rw[if_neg e];omega
  ·have h1:(g.set M m)[j]? = g[j]? := by rw[aG,if_neg ej]
   cases h:g[j]? with
   |none=>rw[nj h,nj (h1.trans h),if_neg ej]
   |some z =>
    rw[eJ h,eJ (h1.trans h)];by_cases hz:z<j
    ·rw[if_pos hz,if_pos hz];exact ih z hz
    ·rw[if_neg hz,if_neg hz,if_neg ej]
def fI(g:List Nat):List Int:=g.map fun n=>((n:Nat):Int)
theorem Fv(g:List Nat):(fI g).length=g.length:=by simp[fI]
theorem wX{g:List Nat}{i x:Nat}(h:g[i]? = some x):(fI g)[Int.toNat (i:Int)]? = some (x:Int):=by simp[fI,h]
theorem WA(g:List Nat)(i x:Nat):(fI g).set (Int.toNat (i:Int)) (x:Int)=fI (g.set i x):=by simp[fI,List.map_set]
theorem Fw{g:List Nat}{i:Nat}(h:i<g.length):(decide ((0:Int)≤(i:Int))&&decide ((i:Int)<(((fI g).length:Nat):Int)))=true:=by rw[Fv];exact dp (gr i) (ba h)
structure HR(g g':List Nat):Prop where
 f:Fo g'
 n:g'.length=g.length
 r:∀j,root g' j=root g j
theorem HR.trans{a b c:List Nat}(h:HR a b)(k:HR b c):HR a c:=⟨k.f,k.n.trans h.n,fun j=>(k.r j).trans (h.r j)⟩
theorem WB(hG:HG G)(g:List Nat)(i:Nat)(hf:Fo g)(hi:i<g.length):∃g',HR g g'∧FX G 260 tz (((i:Int),()),(fI g,()))=some ((((root g i:Nat):Int),()),(fI g',())):=by
 have loop:∀(i:Nat) (g:List Nat),Fo g→i<g.length→∃g',HR g g'∧LX G 260 tz Tryz.f260 uF (aS Tryz.prog 260 0) (((i:Int),()),((),(fI g,())))=some ((((root g i:Nat):Int),()),(fI g',())):=by
  intro i
  induction i using Nat.strongRecOn with
  |_ i ih =>
   intro g hf hi;have h:=aa4 hi;generalize g[i]=x at h;have hxi:=hf i x h;by_cases hx:x<i
   ·have h2:=aa4 (show x<g.length by omega);generalize g[x]=y at h2;have hyx:=hf x y h2;have hs:=Ov hf h h2 hx;have hf2:Fo (g.set i y):=hf.set (by omega);obtain⟨g',h3,h4⟩:=ih y (by omega) (g.set i y) hf2 (by rw[List.length_set];omega);refine⟨g',⟨h3.f,by rw[h3.n,List.length_set],fun j=>(h3.r j).trans (hs j)⟩,?_⟩;refine aw PC ?_;refine af (Fw hi) (aa (wX h) ?_);refine af (show(((x:Nat):Int) != (i:Int))=true by rw[bne_iff_ne];omega) ?_;refine af (Fw hi) (aa (wX h) ?_);refine af (Fw (show x<g.length by omega)) (aa (wX h2) ?_);refine af (Fw hi) (aa (wX h) ?_);have amq:=WA g i y;have key:∀f:List Int,f=fI (g.set i y)→cond ((decide ((0:Int)≤(i:Int)))&&(decide ((i:Int)<(((List.length f):Nat):Int)))) (((f)[(Int.toNat (i:Int))]?).bind fun(y5:Int)=>LX G 260 tz Tryz.f260 uF (aS Tryz.prog 260 0) ((y5,()),((),(f,())))) none=some ((((root g i:Nat):Int),()),(fI g',())):=fun f hf=>by
     subst hf;refine af (Fw (by rw[List.length_set];exact hi)) (aa (wX (x:=y) (by rw[List.getElem?_set];simp[hi])) ?_);rw[h4,hs y,eJ h,if_pos hx,eJ h2];by_cases hy:y<x
     ·rw[if_pos hy]
     ·have:y=x:=by omega
      subst this;rw[if_neg (by omega),nk h2]
    exact key _ amq
   ·have:x=i:=by omega
    subst this;refine⟨g,⟨hf,rfl,fun _=>rfl⟩,?_⟩;refine aw PC ?_;refine af (Fw hi) (aa (wX h) ?_);rw[nk h];exact ag (by simp) rfl
 obtain⟨g',h1,h2⟩:=loop i g hf hi;exact⟨g',h1,aB (hG _ _ rfl) afb h2⟩
def Fx(a b r:Nat):Nat:=if r=max a b then min a b else r
theorem agw(hG:HG G)(g:List Nat)(i k:Nat)(hf:Fo g)(hi:i<g.length)(hk:k<g.length):∃g',Fo g'∧g'.length=g.length∧(∀j,root g' j=Fx (root g i) (root g k) (root g j))∧FX G 259 Lh (((i:Int),((k:Int),())),(fI g,()))=some ((),(fI g',())):=by
 obtain⟨g1,h1,e1⟩:=WB hG g i hf hi;obtain⟨g2,h2,e2⟩:=WB hG g1 k h1.f (by rw[h1.n];exact hk);rw[h1.r k]at e2;have hs:=h1.trans h2;have ra:g2[root g i]? = some (root g i):=by have:=Mh hs.f i (by rw[hs.n];exact hi);rw[hs.r i]at this;exact this
 have rb:g2[root g k]? = some (root g k):=by have:=Mh hs.f k (by rw[hs.n];exact hk);rw[hs.r k]at this;exact this
 have hal:=(aa2.1 ra).1;have hbl:=(aa2.1 rb).1;have hm:max (root g i) (root g k)<g2.length:=by omega
 refine⟨g2.set (max (root g i) (root g k)) (min (root g i) (root g k)),hs.f.set (by omega),by rw[List.length_set,hs.n],fun j=>by rw[Sq ra rb j,hs.r j];rfl,?_⟩;refine aB (hG _ _ rfl) afa ?_;refine aa e1 (aa e2 ?_);have em:(max ((root g i:Nat):Int) ((root g k:Nat):Int):Int)=((max (root g i) (root g k):Nat):Int):=by omega
 have en:(min ((root g i:Nat):Int) ((root g k:Nat):Int):Int)=((min (root g i) (root g k):Nat):Int):=by omega
 have key:∀m n:Int,m=((max (root g i) (root g k):Nat):Int)→n=((min (root g i) (root g k):Nat):Int)→cond ((decide ((0:Int)≤m))&&(decide (m<(((List.length (fI g2)):Nat):Int)))) (((fI g2)[(Int.toNat m)]?).bind fun(y3:Int)=>(some ((),((List.set (fI g2) (Int.toNat m) n),())):Option (Unit×((List Int)×Unit)))) none=some ((),(fI (g2.set (max (root g i) (root g k)) (min (root g i) (root g k))),())):=fun m n Yb M6=>by subst Yb M6;refine af (Fw hm) (aa (wX (aa4 hm)) ?_);rw[WA]
 exact key _ _ em en
theorem Ow{α:Type}(x:ae)(es:List (ae×α)):vR bA x es=es.findIdx? fun e=>decide (e.1=x):=by
 show List.findIdx? (fun e:ae×α=>((x.1.1==e.1.1.1)&&(x.1.2==e.1.1.2))&&(x.2==e.1.2)) es=_;congr 1;funext e;rw[lW x e.1];by_cases h:x=e.1
 ·rw[decide_eq_true h,decide_eq_true h.symm]
 ·rw[decide_eq_false h,decide_eq_false (fun k=>h k.symm)]
def gR{β α:Type}[DecidableEq β](x:β):List (β×α)→Option α
 |[]=>none
 |e::r=>if e.1=x then some e.2 else gR x r
theorem Ox{β α:Type}[DecidableEq β](x:β):∀es:List (β×α),((es.findIdx? fun e=>decide (e.1=x)).bind fun i=>(es[i]?).map (·.2))=gR x es
 |[]=>rfl
 |e::r=>by
  have ih:=Ox x r;rw[List.findIdx?_cons,gR];by_cases h:e.1=x
  ·rw[if_pos (decide_eq_true h),if_pos h];rfl
  ·rw[if_neg (by simpa using h),if_neg h,←ih]
   cases r.findIdx? fun e=>decide (e.1=x)<;>simp
theorem WC{α:Type}(x:ae)(es:List (ae×α)):j7 bA x es=gR x es:=by have:=Ox x es;rw[←Ow]at this;exact this
theorem WD{α:Type}{x:ae}(v:α){es:List (ae×α)}(h:x∉es.map (·.1)):oG bA x v es=es++[(x,v)]:=by
 have e:vR bA x es=none:=by rw[Ow,List.findIdx?_eq_none_iff];intro q hq;exact decide_eq_false fun k=>h (aca.2 ⟨q,hq,k⟩)
 unfold oG
 split
 ·rename_i i k;rw[e]at k;cases k
 ·rfl
theorem Mi{β α:Type}[DecidableEq β]{x:β}{v:α}:∀{es:List (β×α)},(es.map (·.1)).Nodup→(x,v)∈es→gR x es=some v
 |[],_,h=>by cases h
 |e::r,hn,h=>by
  simp only[List.map_cons,List.nodup_cons]at hn;rw[gR];rcases abd.1 h with e1|h
  ·subst e1;rw[if_pos rfl]
  ·rw[if_neg (fun k=>hn.1 (by rw[k];exact List.mem_map.2 ⟨_,h,rfl⟩))];exact Mi hn.2 h
def jo:List ai→Nat→List (ae×Int)
 |[],_=>[]
 |v::r,i=>v.2.1.map (fun x=>(x,(i:Int)))++jo r (i+1)
theorem AG:∀(l:List ai) (i:Nat),(jo l i).map (·.1)=aq l
 |[],_=>rfl
 |v::r,i=>by
  have e:(v.2.1.map fun x=>(x,(i:Int))).map (·.1)=v.2.1:=by rw[List.map_map];exact List.map_id _
  rw[jo,jJ,List.map_append,AG r,e]
theorem Mj:∀(a b:List ai) (i:Nat),jo (a++b) i=jo a i++jo b (i+a.length)
 |[],b,i=>rfl
 |v::r,b,i=>by rw[List.cons_append,jo,jo,Mj r b,List.append_assoc];congr 3;simp;omega
theorem Mk{x:ae}{a:Int}:∀{l:List ai} {i:Nat},(x,a)∈jo l i→∃k v,l[k]? = some v∧a=((i+k:Nat):Int)∧x∈v.2.1
 |[],i,h=>by cases h
 |v::r,i,h=>by
  rw[jo]at h;rcases abw.1 h with h|h
  ·obtain⟨y,hy,e⟩:=aca.1 h
   cases e
   exact⟨0,v,rfl,rfl,hy⟩
  ·obtain⟨k,u,h1,h2,h3⟩:=Mk h;exact⟨k+1,u,by simpa using h1,by rw[h2];congr 1;omega,h3⟩
theorem P8{x:ae}:∀{l:List ai} {i k:Nat} {v:ai},l[k]? = some v→x∈v.2.1→(x,((i+k:Nat):Int))∈jo l i
 |v::r,i,0,u,h,hx=>by simp at h;subst h;rw[jo];exact abi _ (aca.2 ⟨x,hx,rfl⟩)
 |v::r,i,k+1,u,h,hx=>by
  rw[jo];refine abg _ ?_;have:=P8 (i:=i+1) (k:=k) (by simpa using h) hx
  rwa [show i+1+k=i+(k+1) by omega]at this
theorem WE(i:Nat):fI (List.range i)++[(i:Int)]=fI (List.range (i+1)):=by rw[List.range_succ];simp[fI]
section
variable {d:ak} {y:ji.B}
theorem Y6(h:Wf d){i:Nat}(hi:i<d.1.length){f:List Int}{nn:Int} (next:LX G 256 ji Tryz.f256 uE (aS Tryz.prog 256 0) ((d.1,(nn,((IntKind.wrap .i64 ((i:Int)+1)),()))),((),(f,(jo (d.1.take (i+1)) 0,()))))=some y):∀(n j:Nat) (es:List (ae×Int)),j+n=d.1[i].2.1.length→es=jo (d.1.take i) 0++(d.1[i].2.1.take j).map (fun x=>(x,(i:Int))) → LX G 256 ji Tryz.f256 yi (aS Tryz.prog 256 1) (((i:Int),(d.1,(nn,((i:Int),(d.1[i].2.1,(((d.1[i].2.1.length:Nat):Int),((j:Int),()))))))),((),(f,(es,()))))=some y:=by
 have hr:=h.wT d.1[i] (acm hi);have et:d.1.take (i+1)=d.1.take i++[d.1[i]]:=(List.take_append_getElem hi).symm;have ev:jo (d.1.take (i+1)) 0=jo (d.1.take i) 0++d.1[i].2.1.map (fun x=>(x,(i:Int))):=by
  rw[et,Mj];have:(d.1.take i).length=i:=by rw[List.length_take];omega
  rw[this,Nat.zero_add];congr 1;show d.1[i].2.1.map (fun x=>(x,(i:Int)))++[]=_;rw[List.append_nil]
 have nd:(aq (d.1.take i)++d.1[i].2.1).Nodup:=by
  have h1:=h.rw.n;rw[←List.take_append_drop (i+1) d.1,et,qH,qH]at h1;have e2:aq [d.1[i]]=d.1[i].2.1:=by rw[jJ];exact List.append_nil _
  rw[e2]at h1;exact(ac6.1 h1).1
 intro n
 induction n with
 |zero =>intro j es hj he;refine aw Py ?_;refine ag (decide_eq_false (show ¬((j:Int)<((d.1[i].2.1.length:Nat):Int)) by omega)) ?_;have e:d.1[i].2.1.take j=d.1[i].2.1:=List.take_of_length_le (by omega);rw[e,←ev]at he;subst he;exact next
 |succ n ih =>
  intro j es hj he;have aG:j<d.1[i].2.1.length:=by omega
  refine aw Py ?_;refine af (ba aG) (aa (aC (aa4 aG)) ?_);have F9:d.1[i].2.1[j]∉es.map (·.1):=by
   have e3:((d.1[i].2.1.take j).map fun x=>(x,(i:Int))).map (·.1)=d.1[i].2.1.take j:=by rw[List.map_map];exact List.map_id _
   rw[he,List.map_append,AG,e3,List.mem_append];rintro(k|k)
   ·exact(ac6.1 nd).2.2 _ k _ (acm aG) rfl
   ·obtain⟨q,hq,he⟩:=ado k;have hq1:q<j:=by rw[List.length_take]at hq;omega
    rw[List.getElem_take]at he;have:=(List.getElem_inj (ac6.1 nd).2.1).1 he;omega
  have:=ih (j+1) (oG bA d.1[i].2.1[j] (i:Int) es) (by omega) (by rw[WD _ F9,he,←List.take_append_getElem aG,List.map_append,List.append_assoc];rfl);rw[←aI aG (by omega)]at this;exact this
theorem Y7(h:Wf d) (next:LX G 256 ji Tryz.f256 rD (aS Tryz.prog 256 2) ((jo d.1 0,()),((),(fI (List.range d.1.length),((none,jo d.1 0),()))))=some y):∀(n i:Nat),i+n=d.1.length → LX G 256 ji Tryz.f256 uE (aS Tryz.prog 256 0) ((d.1,(((d.1.length:Nat):Int),((i:Int),()))),((),(fI (List.range i),(jo (d.1.take i) 0,()))))=some y:=by
 have hn:=h.nv;intro n
 induction n with
 |zero =>
  intro i hi;have e:i=d.1.length:=by omega
  subst e;refine aw Px ?_;refine ag (decide_eq_false (show ¬(((d.1.length:Nat):Int)<((d.1.length:Nat):Int)) by omega)) ?_;rw[List.take_length];exact next
 |succ n ih =>
  intro i hi;have aG:i<d.1.length:=by omega
  refine aw Px ?_;refine af (ba aG) (aa (aC (aa4 aG)) ?_);refine af (fits (by show(fI (List.range i)).length+1≤_;rw[Fv];simp;omega)) ?_;have nx:=ih (i+1) (by omega);rw[←aI aG (by omega),←WE]at nx;exact Y6 (G:=G) h aG nx d.1[i].2.1.length 0 _ (by omega) (by simp)
end
end Go.Vs
namespace Go.Vs
open Go.Proofs
variable {G:(f:FuncId)→(g:aX)→Option (g.A→Option g.B)}
theorem Fy(a b:Nat):Fx a b a=min a b∧Fx a b b=min a b:=by unfold Fx;constructor<;>split<;>omega
structure FoI(d:ak)(rem:List (ae×Int))(g:List Nat):Prop where
 f:Fo g
 n:g.length=d.1.length
 c:∀i,i<d.1.length→cI d (dh d i) (dh d (root g i))
 p:∀(z:ae) (i k:Nat),(z,(i:Int))∈jo d.1 0→(ah z,(k:Int))∈jo d.1 0→(z,(i:Int))∉rem→root g i=root g k
theorem yK{d:ak}(h:Wf d){z:ae}{a:Int}(hm:(z,a)∈jo d.1 0):∃i:Nat,i<d.1.length∧a=(i:Int)∧z∈aq d.1∧bJ d z=some (dh d i):=by obtain⟨k,v,h1,h2,h3⟩:=Mk hm;rw[Nat.zero_add]at h2;have hv:=ab6 h1;refine⟨k,(aa2.1 h1).1,h2,aM.2 ⟨v,hv,h3⟩,?_⟩;rw[o4 h1];exact dq h.rw hv h3
theorem Oy{d:ak}(h:Wf d){z:ae}(hz:z∈aq d.1):∃i:Nat,(z,(i:Int))∈jo d.1 0:=by obtain⟨v,hv,hx⟩:=aM.1 hz;obtain⟨k,hk⟩:=adi hv;have:=P8 (i:=0) hk hx;rw[Nat.zero_add]at this;exact⟨k,this⟩
theorem P9{d:ak}(h:Wf d){z:ae}{a:Int}(hm:(z,a)∈jo d.1 0):j7 bA z (jo d.1 0)=some a:=by rw[WC];refine Mi ?_ hm;rw[AG];exact h.rw.n
theorem FoI.same{d:ak}(h:Wf d){g:List Nat}(hg:FoI d [] g){a b:ID}(k:cI d a b):∀i j,i<d.1.length→j<d.1.length→dh d i=a→dh d j=b→root g i=root g j:=by
 induction k with
 |refl=>intro i j hi hj h1 h2;rw[kD h.sv hi hj (h1.trans h2.symm)]
 |tail _ s ih =>
  intro i j hi hj h1 h2;obtain⟨z,hz,s1,s2⟩:=s;obtain⟨m,hm⟩:=Oy h hz;obtain⟨q,hq⟩:=Oy h (h.other hz);obtain⟨m',m1,m2,_,m3⟩:=yK h hm;obtain⟨q',q1,q2,_,q3⟩:=yK h hq;have em:m'=m:=by omega
  have eq:q'=q:=by omega
  subst em;subst eq;rw[s1]at m3;rw[s2]at q3;have r1:=ih i m' hi m1 h1 (aby m3).symm;have r2:=hg.p z m' q' hm hq (by simp);have ej:q'=j:=kD h.sv q1 hj ((aby q3).symm.trans h2.symm);rw[r1,r2,ej]
theorem FoI.can{d:ak}(h:Wf d){g:List Nat}(hg:FoI d [] g):Mb d (fI ((List.range d.1.length).map (root g))):=by
 have pz:∀i,i<d.1.length→(fI ((List.range d.1.length).map (root g))).getD i 0=((root g i:Nat):Int):=fun i hi=>by unfold fI;simp[List.getD,hi]
 refine⟨⟨by rw[Fv];simp,fun i hi=>⟨root g i,P7 g i,pz i hi,hg.c i hi⟩⟩,fun i hi j hj k=>?_⟩;rw[pz i hi,hg.same h k i j hi hj rfl rfl];have:=P7 g j;omega
theorem Y8(hG:HG G){d:ak}(h:Wf d){g:List Nat}:∀(n i:Nat) (g':List Nat),i+n=d.1.length→Fo g'→g'.length=d.1.length→(∀j,root g' j=root g j) → LX G 256 ji Tryz.f256 yj (aS Tryz.prog 256 3) ((((d.1.length:Nat):Int),((i:Int),())),((),(fI g',(fI ((List.range i).map (root g)),()))))=some ((fI ((List.range d.1.length).map (root g)),()),()):=by
 have QH:=h.nv;intro n
 induction n with
 |zero =>
  intro i g' hi h1 h2 h3;have e:i=d.1.length:=by omega
  subst e;refine aw PA ?_;exact ag (decide_eq_false (show ¬(((d.1.length:Nat):Int)<((d.1.length:Nat):Int)) by omega)) rfl
 |succ n ih =>
  intro i g' hi h1 h2 h3;have aG:i<d.1.length:=by omega
  obtain⟨g2,s,e⟩:=WB hG g' i h1 (by omega);refine aw PA ?_;refine af (ba aG) (aa e ?_);refine af (fits (by show(fI _).length+1≤_;rw[Fv];simp;omega)) ?_;have:=ih (i+1) g2 (by omega) s.f (by rw[s.n,h2]) (fun j=>(s.r j).trans (h3 j));have e2:fI ((List.range (i+1)).map (root g))=fI ((List.range i).map (root g))++[((root g' i:Nat):Int)]:=by rw[List.range_succ,h3 i];simp[fI]
  rw[e2,←aI aG (by omega)]at this;exact this
theorem Y9(hG:HG G){d:ak}(h:Wf d):∀(n:Nat) (rem:List (ae×Int)) (g:List Nat) (o:Option (ae×Int)),rem.length=n→(∀e∈rem,e∈jo d.1 0)→FoI d rem g → LX G 256 ji Tryz.f256 rD (aS Tryz.prog 256 2) ((jo d.1 0,()),((),(fI g,((o,rem),()))))=some ((labels d,()),()):=by
 intro n
 induction n with
 |zero =>
  intro rem g o hn hr hg;have e:rem=[]:=acg hn;subst e;refine aw Pz ?_;refine af rfl ?_;have:=Y8 (G:=G) hG h (g:=g) d.1.length 0 g (by omega) hg.f hg.n (fun _=>rfl);rw[(hg.can h).uniq h (fL h)]at this;have e2:((fI g).length:Int)=((d.1.length:Nat):Int):=by rw[Fv,hg.n]
  rw[←e2]at this;exact this
 |succ n ih =>
  intro rem g o hn hr hg;refine aw Pz ?_;refine ag (show rem.isEmpty=false by cases rem with|nil=>simp at hn|cons _ _=>rfl) ?_;refine oW (show 0<rem.length by omega) fun j hj=>?_;have hj':j<rem.length:=hj;refine aa (aa4 hj') ?_;have hm:=hr _ (acm hj');generalize he:rem[j]=e at hm;obtain⟨z,a⟩:=e;obtain⟨i,hi,ha,hz,haz⟩:=yK h hm;subst ha;obtain⟨k,hk⟩:=Oy h (h.other hz);obtain⟨k',yZ,ek,_,hak⟩:=yK h hk;have ek':k'=k:=by omega
  subst ek';refine aa (LV (hG _ _ rfl) z (h.side hz)) ?_;have pz:j7 bA (ah z) (jo d.1 0)=some (k':Int):=P9 h hk;refine af (show(j7 bA (ah z) (jo d.1 0)).isSome=true by rw[pz];rfl) ?_;obtain⟨g',h1,h2,h3,h4⟩:=agw hG g i k' hg.f (by rw[hg.n];exact hi) (by rw[hg.n];exact yZ);refine aa (a:=((),(fI g',()))) (by
   have:(j7 bA (ah z) (jo d.1 0)).getD (0:Int)=(k':Int):=by rw[pz];rfl
   rw[←this]at h4;exact h4) ?_
  have ams:BO d (dh d i) (dh d k'):=⟨z,hz,haz,hak⟩;have cij:cI d (dh d (root g i)) (dh d (root g k')):=((hg.c i hi).symm h).trans (ams.conn.trans (hg.c k' yZ));refine ih (rem.eraseIdx j) g' _ (by rw[List.length_eraseIdx,if_pos hj'];omega) (fun e he=>hr e (List.mem_of_mem_eraseIdx he)) ⟨h1,h2.trans hg.n,fun q hq=>?_,fun y p q hp hq hy=>?_⟩
  ·rw[h3 q];unfold Fx
   split
   ·rename_i e;refine(hg.c q hq).trans ?_;rw[e];rcases Nat.le_total (root g i) (root g k') with hle|hle
    ·rw[Nat.max_eq_right hle,Nat.min_eq_left hle];exact cij.symm h
    ·rw[Nat.max_eq_left hle,Nat.min_eq_right hle];exact cij
   ·exact hg.c q hq
  ·rw[h3 p,h3 q];by_cases oE:(y,(p:Int))∈rem
   ·
    have e:(y,(p:Int))=(z,(i:Int)):=by apply Classical.byContradiction;intro ne;apply hy;rw[List.mem_eraseIdx_iff_getElem];obtain⟨t,ht,hte⟩:=ado oE;refine⟨t,ht,fun k=>?_,hte⟩;subst k;exact ne (hte.symm.trans he)
    have e1:y=z:=congrArg Prod.fst e;have e2:p=i:=by have:=congrArg Prod.snd e;simp at this;omega
    subst e1;subst e2;have h5:=P9 h hq;rw[pz]at h5;have e3:q=k':=by have:=aby h5;omega
    subst e3;rw[(Fy _ _).1,(Fy _ _).2]
   ·rw[hg.p y p q hp hq oE]
theorem Oz(n:Nat):∀i,root (List.range n) i=i:=fun i=>by
 cases h:(List.range n)[i]? with
 |none=>exact nj h
 |some x =>
  have:x=i:=by rw[List.getElem?_range (by have:=(List.getElem?_eq_some_iff.1 h).1;simpa using this)]at h;exact(aby h).symm
  subst this;exact nk h
theorem agy(hG:HG G)(d:ak)(h:Wf d):FX G 256 ji ((d,()),())=some ((labels d,()),()):=by
 refine aB (hG _ _ rfl) ae8 ?_;refine Y7 (G:=G) h ?_ d.1.length 0 (by omega);refine Y9 hG h _ (jo d.1 0) (List.range d.1.length) none rfl (fun _ k=>k) ⟨fun i x hx=>?_,by simp,fun i hi=>?_,fun z i k h1 h2 h3=>absurd h1 h3⟩
 ·have:=(aa2.1 hx).1;rw[List.getElem?_range (by simpa using this)]at hx;have:=aby hx;omega
 ·rw[Oz];exact .refl _
structure PG(G:(f:FuncId)→(g:aX)→Option (g.A→Option g.B)):Prop where
 h:HG G
 f:∀d,Wf d→FX G 240 BA ((d,()),())=some ((b5 d,()),())
 c:∀d,Wf d→FX G 241 BB ((d,()),())=some ((gh d,()),())
theorem agz(hp:PG G)(d:ak)(h:Wf d):FX G 226 Le ((d,()),())=some ((((d.1.length:Nat):Int),(((d.2.length:Nat):Int),(((ft d:Nat):Int),(gh d,())))),()):=by
 have hn:=h.nv;have hf:=yJ h;have ha:al d.1≤d.1.length:=adu;refine aB (hp.h _ _ rfl) ae1 ?_;refine aa (Wz hp.h d.1 (by omega)) ?_;refine aa (hp.f d h) (aa (hp.c d h) ?_);have e:IntKind.wrap .i64 ((((b5 d).length:Nat):Int)+((al d.1:Nat):Int))=((ft d:Nat):Int):=by rw[wrap_small (by omega) (by omega)];rfl
 exact congrArg (fun n:Int=>some ((((d.1.length:Nat):Int),(((d.2.length:Nat):Int),(n,(gh d,())))),())) e
theorem agA(hp:PG G)(d:ak)(h:Wf d):FX G 204 La ((d,()),())=some ((bK d,()),()):=by
 have hn:=h.nv;have bq:=h.ne;have hf:=yJ h;have ha:al d.1≤d.1.length:=adu;refine aB (hp.h _ _ rfl) aeQ ?_;refine aa (agz hp d h) (ag rfl ?_);have hr:=mg h (fL h);obtain⟨k,e1,e2⟩:=Ft h hr;have ec:=uU h;have SZ:(my d (labels d)).length≤d.1.length:=by unfold my;rw[List.length_map];refine acN (ac9 _ _) ?_;simp
 have hft:ft d≤80+d.1.length:=by unfold ft;omega
 refine congrArg (fun n:Int=>some ((n,()),())) ?_;show IntKind.wrap .i64 (gh d-IntKind.wrap .i64 (Int.tdiv (IntKind.wrap .i64 ((IntKind.wrap .i64 (((d.1.length:Nat):Int)-((d.2.length:Nat):Int)))+((ft d:Nat):Int))) 2))=bK d;rw[e1,ec];have hk:(k:Int)≤1000:=by omega
 rw[wrap_small (n:=((d.1.length:Nat):Int)-((d.2.length:Nat):Int)) (by omega) (by omega)];rw[wrap_small (n:=((d.1.length:Nat):Int)-((d.2.length:Nat):Int)+((ft d:Nat):Int)) (by omega) (by omega)];have e3:((d.1.length:Nat):Int)-((d.2.length:Nat):Int)+((ft d:Nat):Int)=2*((((my d (labels d)).length:Nat):Int)-(k:Int)):=by omega
 rw[e3,Int.mul_tdiv_cancel_left _ (by decide)];rw[wrap_small (n:=(((my d (labels d)).length:Nat):Int)-(k:Int)) (by omega) (by omega)];rw[wrap_small (by omega) (by omega)];omega
theorem Za(hp:PG G):Ot G:=fun d h=>by refine aB (hp.h _ _ rfl) aez ?_;refine aa (agA hp d h) ?_;refine congrArg (fun b:Bool=>some ((b,()),())) ?_;show(bK d==0)=decide (bK d=0);rw[Bool.eq_iff_iff];simp
end Go.Vs
