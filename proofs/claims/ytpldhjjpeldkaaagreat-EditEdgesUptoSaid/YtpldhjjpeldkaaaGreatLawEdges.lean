/- EditEdges answers true, of data. -/
import Derived.Test.YtpldhjjpeldkaaaGreatSplits
import Derived.Test.YtpldhjjpeldkaaaGreatPlane
import Derived.Test.YtpldhjjpeldkaaaGreatPartsB
import Derived.Test.YtpldhjjpeldkaaaGreatFormed
import Derived.Test.YtpldhjjpeldkaaaGreatTop
set_option linter.unusedVariables false
set_option linter.unusedSimpArgs false
namespace Go.Vs
open Go.Proofs
variable {G:(f:FuncId)→(g:aL)→Option (g.A→Option g.B)}
def amt(x v:ID)(n:Int):bL:=(5,(x,(v,(v,(zC,(zC,(false,(e0,n))))))))
def amu(v w:ID):bL:=(6,(v,(zI,(w,(zC,(zC,(false,(e0,0))))))))
theorem C1(v:ah):∀{l:List ah},aU l v.1=none→cE (cF v l) v.1=l
 |[],_=>by simp[cF,cE]
 |w::r,hf=>by
  have bp:¬w.1=v.1:=fun e=>by simp[aU,e]at hf
  have z6:aU r v.1=none:=by simpa[aU,List.find?_cons,bp] using hf
  unfold cF
  split
  ·unfold cE
   rw[List.filter_cons_of_neg (by simp)]
   exact Kw hf
  ·have:=C1 v z6
   unfold cE at this ⊢
   rw[List.filter_cons_of_pos (by simpa using bp),this]
end Go.Vs
namespace Go.Vs
open Go.Proofs Go.Cy
theorem Gt{f:ab→ab}{n z:ab}{P:List ab}(h:Path f (n::P) z)(hP:P≠[]):∃p P',P=p::P'∧f n=p:=by
 cases P with
 |nil=>exact absurd rfl hP
 |cons p P'=>exact⟨p,P',rfl,h.1⟩
theorem SF{d:ai}(h:Wf d){z:ab}(hz:z∈ak d.1):∃r c,c∈bU d∧gS (ph d) (z::r)∧(z::r).Perm c∧(z::r).Nodup:=by
 have a:=bE h
 obtain⟨c,hc,VH⟩:=List.mem_flatten.1 (a.p.mem_iff.2 hz)
 obtain⟨r,h1,h2⟩:=(a.c c hc).head VH
 refine⟨r,c,hc,h1,h2,h2.nodup_iff.2 ?_⟩
 have:=a.p.nodup_iff.2 h.rw.n
 obtain⟨p,q,uO⟩:=List.append_of_mem hc
 rw[uO]at this
 exact(List.nodup_append.1 ((fF p q c).nodup_iff.1 this)).1
theorem U7{t:ai}{e:ID}{x y:ab}(h:bV t e)(hx:x∈ak (bW t e).1)(hy:y∈ak (bW t e).1)(Fb:x≠y)(sx:sg t x=(e,0))(sy:sg t y=(e,1)) :
  Gb t (e,0) (e,1)↔af y∉bf (bW t e) (af x):=by
 obtain⟨X,hX⟩:∃X,X=af x:=⟨_,rfl⟩
 obtain⟨Y,hY⟩:∃Y,Y=af y:=⟨_,rfl⟩
 have hXd:X∈ak (bW t e).1:=hX▸h.w.other hx
 have hYd:Y∈ak (bW t e).1:=hY▸h.w.other hy
 have hXt:=h.sub hXd
 have hYt:=h.sub hYd
 have nd:=h.p.nodup_iff.1 h.wf.rw.n
 have n0t:=h.x0
 have n1t:=h.x1
 have Yp:∀z∈ak (bW t e).1,z≠(e,0):=fun z hz q=>(List.nodup_cons.1 nd).1 (q▸List.mem_cons_of_mem _ hz)
 have Yq:∀z∈ak (bW t e).1,z≠(e,1):=fun z hz q=>(List.nodup_cons.1 (List.nodup_cons.1 nd).2).1 (q▸hz)
 have pX:ph t X=(e,0):=by rw[ig hXt,hX,bN (h.w.side hx)];exact sx
 have pY:ph t Y=(e,1):=by rw[ig hYt,hY,bN (h.w.side hy)];exact sy
 have in0:∀z∈ak t.1,ph t z=(e,0)→z=X:=fun z hz q=>KG h.wf hz hXt (q.trans pX.symm)
 have YU:∀z∈ak t.1,ph t z=(e,1)→z=Y:=fun z hz q=>KG h.wf hz hYt (q.trans pY.symm)
 have ne0:ph t (e,0)≠(e,0):=fun q=>Yp X hXd (in0 _ n0t q).symm
 have ne1:ph t (e,1)≠(e,1):=fun q=>Yq Y hYd (YU _ n1t q).symm
 have n01:=Us e
 have dX:ph (bW t e) X=ph t (e,1):=by rw[h.ph hXd];unfold rO;rw[if_pos pX,if_neg ne1]
 have dY:ph (bW t e) Y=ph t (e,0):=by rw[h.ph hYd];unfold rO;rw[if_neg (by rw[pY];exact fun q=>n01 q.symm),if_pos pY,if_neg ne0]
 have dz:∀z∈ak (bW t e).1,ph t z≠(e,0)→ph t z≠(e,1)→ph (bW t e) z=ph t z:=fun z hz q1 q2=>by
  rw[h.ph hz];unfold rO;rw[if_neg q1,if_neg q2]
 have ind:∀z∈ak t.1,z≠(e,0)→z≠(e,1)→z∈ak (bW t e).1:=fun z hz q1 q2=>by
  rcases List.mem_cons.1 (h.p.mem_iff.1 hz) with k|k
  ·exact absurd k q1
  ·exact(List.mem_cons.1 k).resolve_left q2
 have a:=bE h.wf
 have inT:∀c∈bU t,∀z∈c,z∈ak t.1:=fun c hc z hz=>a.p.mem_iff.1 (List.mem_flatten.2 ⟨c,hc,hz⟩)
 obtain⟨r0,Sd,C5,bz,hcy⟩:=uI h.w hXd
 rw[←hX,←hY]
 obtain⟨P0,c0,Js,cy0,pm0,nd0⟩:=SF h.wf n0t
 constructor
 ·rintro⟨c,hc,k0,k1⟩ jS
  have VM:(e,1)∈(e,0)::P0:=(a.c c hc).same cy0 k0 List.mem_cons_self k1
  have hP:(e,1)∈P0:=(List.mem_cons.1 VM).resolve_left fun q=>n01 q.symm
  obtain⟨P,Q,hPQ⟩:=List.append_of_mem hP
  subst hPQ
  obtain⟨w1,w2⟩:=(gS.two (x:=(e,0)) (a:=P) (y:=(e,1)) (b:=Q)).1 cy0
  have all:∀z∈(e,0)::(P++(e,1)::Q),z∈ak t.1:=fun z hz=>inT c0 Js z (pm0.mem_iff.1 hz)
  have Yr:P≠[]:=fun q=>by
   subst q
   have:ph t (e,0)=(e,1):=w1.1
   exact Yp Y hYd (YU _ n0t this).symm
  obtain⟨p,P',rfl,hp⟩:=Gt w1 Yr
  have wP:Path (ph t) (p::P') (e,1):=w1.2
  have ndP:=(List.nodup_cons.1 nd0).2
  have acQ:=(List.nodup_append.1 ndP)
  have SH:∀z∈p::P',z∈ak (bW t e).1:=fun z hz=>ind z (all z (by simp at hz ⊢;rcases hz with k|k<;>simp[k])) (fun q=>(List.nodup_cons.1 nd0).1 (q▸List.mem_append_left _ hz)) (fun q=>acQ.2.2 z hz (e,1) List.mem_cons_self q)
  obtain⟨lx,hlx,Ys⟩:=lT w2 (by simp)
  have hlX:lx=X:=in0 lx (all lx (List.mem_cons_of_mem _ (List.mem_append_right _ hlx))) Ys
  have hXP:X∉p::P':=fun q=>acQ.2.2 X q lx hlx (by rw[hlX])
  obtain⟨ly,hly,Yt⟩:=lT wP (by simp)
  have hlY:ly=Y:=YU ly (h.sub (SH ly hly)) Yt
  have cyP:gS (ph (bW t e)) (p::P'):=by
   refine Path.gR (f:=ph t) (z:=(e,1)) wP (fun q=>?_) (fun u hu q=>dz u (SH u hu) (fun q2=>hXP ((in0 u (h.sub (SH u hu)) q2)▸hu)) q) (fun u hu q=>?_)
   ·exact Yq _ (SH _ (List.mem_of_mem_tail q)) rfl
   ·rw[YU u (h.sub (SH u hu)) q,dY,hp]
  have hYP:Y∈p::P':=hlY▸hly
  rw[Sd]at jS
  exact hXP (hcy.same cyP jS hYP List.mem_cons_self)
 ·intro jS
  refine Classical.byContradiction fun ho=>jS ?_
  have mN:(e,1)∉(e,0)::P0:=fun q=>ho ⟨c0,Js,pm0.mem_iff.1 List.mem_cons_self,pm0.mem_iff.1 q⟩
  obtain⟨Q0,c1,SL,cy1,pm1,nd1⟩:=SF h.wf n1t
  have Um:(e,0)∉(e,1)::Q0:=fun q=>ho ⟨c1,SL,pm1.mem_iff.1 q,pm1.mem_iff.1 List.mem_cons_self⟩
  have w1:Path (ph t) ((e,0)::P0) (e,0):=cy0
  have w2:Path (ph t) ((e,1)::Q0) (e,1):=cy1
  have Yr:P0≠[]:=fun q=>by subst q;exact ne0 w1.1
  have aip:Q0≠[]:=fun q=>by subst q;exact ne1 w2.1
  obtain⟨p,P,rfl,hp⟩:=Gt w1 Yr
  obtain⟨q,Q,rfl,hq⟩:=Gt w2 aip
  have wP:Path (ph t) (p::P) (e,0):=w1.2
  have wQ:Path (ph t) (q::Q) (e,1):=w2.2
  have tP:∀z∈p::P,z∈ak t.1:=fun z hz=>inT c0 Js z (pm0.mem_iff.1 (List.mem_cons_of_mem _ hz))
  have tQ:∀z∈q::Q,z∈ak t.1:=fun z hz=>inT c1 SL z (pm1.mem_iff.1 (List.mem_cons_of_mem _ hz))
  have dP:∀z∈p::P,z∈ak (bW t e).1:=fun z hz=>ind z (tP z hz) (fun k=>(List.nodup_cons.1 nd0).1 (k▸hz)) (fun k=>mN (k▸List.mem_cons_of_mem _ hz))
  have dQ:∀z∈q::Q,z∈ak (bW t e).1:=fun z hz=>ind z (tQ z hz) (fun k=>Um (k▸List.mem_cons_of_mem _ hz)) (fun k=>(List.nodup_cons.1 nd1).1 (k▸hz))
  obtain⟨lx,hlx,Ys⟩:=lT wP (by simp)
  have hlX:lx=X:=in0 lx (tP lx hlx) Ys
  obtain⟨ly,hly,Yt⟩:=lT wQ (by simp)
  have hlY:ly=Y:=YU ly (tQ ly hly) Yt
  have vP:Path (ph (bW t e)) (p::P) q:=by
   refine Path.gR (f:=ph t) (z:=(e,0)) wP (fun k=>Yp _ (dP _ (List.mem_of_mem_tail k)) rfl) (fun u hu k=>dz u (dP u hu) k fun k2=>?_) (fun u hu k=>?_)
   ·have:=cy0.step (List.mem_cons_of_mem _ hu)
    rw[k2]at this
    exact mN this
   ·rw[in0 u (tP u hu) k,dX,hq]
  have vQ:Path (ph (bW t e)) (q::Q) p:=by
   refine Path.gR (f:=ph t) (z:=(e,1)) wQ (fun k=>Yq _ (dQ _ (List.mem_of_mem_tail k)) rfl) (fun u hu k=>dz u (dQ u hu) (fun k2=>?_) k) (fun u hu k=>?_)
   ·have:=cy1.step (List.mem_cons_of_mem _ hu)
    rw[k2]at this
    exact Um this
   ·rw[YU u (tQ u hu) k,dY,hp]
  have cyc:gS (ph (bW t e)) ((p::P)++(q::Q)):=gS.two.2 ⟨vP,vQ⟩
  rw[Sd]
  exact cyc.same hcy (List.mem_append_left _ (hlX▸hlx)) List.mem_cons_self (List.mem_append_right _ (hlY▸hly))
end Go.Vs
namespace Go.Vs
open Go.Proofs Go.Cy
theorem rS{L:List ab}(hn:L.Nodup)(p:ab→Bool):bZ ((bZ L).filter p)=bZ (L.filter p):=by
 obtain⟨j,hj,he⟩:=kY L
 rw[he]
 unfold qv
 rw[List.filter_append]
 have e:L.filter p=(L.take j).filter p++(L.drop j).filter p:=by rw[←List.filter_append,List.take_append_drop]
 have nd:(L.filter p).Nodup:=hn.filter _
 have k:=RE (row:=L.filter p) nd (j:=((L.take j).filter p).length) (by rw[e];simp)
 rw[←k]
 congr 1
 unfold qv
 rw[e,List.drop_left,List.take_left]
theorem U8{row A B:List ab}{x q:ab}(hn:row.Nodup)(e:row=A++x::B)(hq:q∉row):dI row x q=bZ (A++x::q::B):=by
 have hi:idx x row 0=((A.length:Nat):Int):=F9 hn (by rw[e];simp)
 have hm:(max 0 ((A.length:Nat):Int)).toNat+1=A.length+1:=by omega
 unfold dI
 rw[if_neg hq,hi,hm]
 congr 1
 have e2:row=(A++[x])++B:=by rw[e];simp
 have hl:A.length+1=(A++[x]).length:=by simp
 rw[e2,hl,List.take_left,List.drop_left]
 simp
theorem C2{row:List ab}{x q:ab}(hn:row.Nodup)(hx:x∈row)(hq:q∉row):(dI row x q).Nodup∧q∈dI row x q∧(∀z∈row,z∈dI row x q)∧cy (dI row x q) x=q∧(∀z∈row,z≠x→cy (dI row x q) z=cy row z)∧(bZ row=row→c6 (dI row x q) q=row):=by
 obtain⟨A,B,e⟩:=List.append_of_mem hx
 have hi:=U8 hn e hq
 have pm:(A++x::q::B).Perm (q::row):=by
  rw[e]
  have e3:A++x::q::B=(A++[x])++q::B:=by simp
  have e4:A++x::B=(A++[x])++B:=by simp
  rw[e3,e4]
  exact List.perm_middle
 have ndL:(A++x::q::B).Nodup:=pm.nodup_iff.2 (List.nodup_cons.2 ⟨hq,hn⟩)
 have nd:(dI row x q).Nodup:=by rw[hi];exact(gZ _).nodup_iff.2 ndL
 have mem:∀z,z∈dI row x q↔z=q∨z∈row:=fun z=>by
  rw[hi,jL,pm.mem_iff,List.mem_cons]
 have vp:cy (dI row x q) x=q:=by
  obtain⟨j,hj,he⟩:=kY (A++x::q::B)
  have c1:gS (cy (dI row x q)) (A++x::q::B):=by
   have:=k9 nd (List.ne_nil_of_mem ((mem x).2 (.inr hx)))
   rw[hi,he]at this ⊢
   exact wu this
  have e3:A++x::q::B=(A++[x])++(q::B):=by simp
  rw[e3]at c1
  cases A with
  |nil=>exact(gS.two.1 (show gS _ ((x::[])++(q::B)) from c1)).1.1
  |cons a A =>
   have:=(gS.two.1 (show gS _ ((a::(A++[x]))++(q::B)) from c1)).1
   have h2:Path (cy (dI row x q)) ((a::A)++[x]) q:=this
   exact(Path.app.1 h2).2.1
 have hr:c6 (dI row x q) q=bZ row:=by
  unfold c6
  rw[hi,rS ndL]
  congr 1
  rw[e]
  have hA:∀z∈A,z≠q:=fun z hz k=>hq (by rw[e,←k];simp[hz])
  have hB:∀z∈B,z≠q:=fun z hz k=>hq (by rw[e,←k];simp[hz])
  have hxq:x≠q:=fun k=>hq (k▸hx)
  have fA:A.filter (fun z=>decide (z≠q))=A:=List.filter_eq_self.2 fun z hz=>by simpa using hA z hz
  have fB:B.filter (fun z=>decide (z≠q))=B:=List.filter_eq_self.2 fun z hz=>by simpa using hB z hz
  rw[List.filter_append,fA,List.filter_cons_of_pos (by simpa using hxq),List.filter_cons_of_neg (by simp),fB]
 refine⟨nd,(mem q).2 (.inl rfl),fun z hz=>(mem z).2 (.inr hz),vp,fun z hz hzx=>?_,fun ht=>hr.trans ht⟩
 have hzq:z≠q:=fun k=>hq (k▸hz)
 have hzi:=(mem z).2 (.inr hz)
 have:=EI nd ((mem q).2 (.inl rfl)) hzi hzq
 rw[hr]at this
 have hnt:cy (bZ row) z=cy row z:=by
  obtain⟨j,hj,he⟩:=kY row
  have c1:gS (cy (bZ row)) row:=by
   have:=k9 ((gZ row).nodup_iff.2 hn) (List.ne_nil_of_mem (jL.2 hz))
   rw[he]at this ⊢
   exact wu this
  exact xV c1 (k9 hn (List.ne_nil_of_mem hz)) z hz
 rw[hnt]at this
 unfold skip at this
 rw[if_neg (fun k=>hzx (EH nd hzi ((mem x).2 (.inr hx)) (k.trans vp.symm)))]at this
 exact this.symm
theorem My(u:ID)(a b:List ab)(v:ag):gr u a (gr u b v)=gr u a v:=by
 unfold gr
 by_cases h:v.1=u
 ·rw[if_pos h,if_pos h,if_pos h]
 ·rw[if_neg h,if_neg h]
theorem EU{D:ai}(h:Rw D.1){u:ag}{z q:ab}(hu:u∈D.1)(hz:z∈u.2.1)(hq:q∉ak D.1)(ht:bZ u.2.1=u.2.1) :
  Rw (aX D (u.1,z) q).1∧(ak (aX D (u.1,z) q).1).Perm (q::ak D.1)∧sg (aX D (u.1,z) q) z=q∧(∀y∈ak D.1,y≠z→sg (aX D (u.1,z) q) y=sg D y)∧az (aX D (u.1,z) q) q=D:=by
 have hf:=dS h.s hu
 obtain⟨p1,q1⟩:=nS (c:=(u.1,z)) (x:=q) h hf hq
 have YS:q∉u.2.1:=fun k=>hq (aG.2 ⟨u,hu,k⟩)
 obtain⟨f1,f2,f3,f4,f5,f6⟩:=C2 (h.ring hu) hz YS
 have e:aX D (u.1,z) q=bM D u.1 (dI u.2.1 z q):=by
  unfold aX
  show bM D u.1 (dI (bA D u.1) z q)=_
  rw[g8 h.s hu]
 have TY:(u.1,(dI u.2.1 z q,u.2.2))∈(aX D (u.1,z) q).1:=by
  rw[e]
  exact List.mem_map.2 ⟨u,hu,by unfold gr;rw[if_pos rfl]⟩
 refine⟨q1,p1,(eY q1 TY (f3 z hz)).trans f4,fun y hy hyz=>?_,?_⟩
 ·obtain⟨w,hw,Jt⟩:=aG.1 hy
  by_cases k:w.1=u.1
  ·have:=wq h.s hu hw k
   subst this
   rw[eY q1 TY (f3 y Jt),eY h hw Jt]
   exact f5 y Jt hyz
  ·have G4:w∈(aX D (u.1,z) q).1:=by
    rw[e]
    exact List.mem_map.2 ⟨w,hw,by unfold gr;rw[if_neg k]⟩
   rw[eY q1 G4 Jt,eY h hw Jt]
 ·rw[da q1 TY f2,e]
  show bM (bM D u.1 (dI u.2.1 z q)) u.1 (c6 (dI u.2.1 z q) q)=D
  rw[f6 ht]
  unfold bM
  have:(D.1.map (gr u.1 (dI u.2.1 z q))).map (gr u.1 u.2.1)=D.1:=by
   rw[List.map_map]
   conv=>rhs;rw[←List.map_id D.1]
   refine List.map_congr_left fun w hw=>?_
   show gr u.1 u.2.1 (gr u.1 (dI u.2.1 z q) w)=w
   rw[My]
   unfold gr
   by_cases k:w.1=u.1
   ·rw[if_pos k,wq h.s hu hw k]
   ·rw[if_neg k]
  exact congrArg (fun l:List ag=>((l,D.2):ai)) this
end Go.Vs
namespace Go.Vs
open Go.Proofs Go.Cy
theorem On{r:List ab}(hn:r.Nodup)(p q:ab):c6 (c6 r p) q=c6 (c6 r q) p:=by
 unfold c6
 rw[rS (hn.filter _),rS (hn.filter _),List.filter_filter,List.filter_filter]
 congr 1
 apply List.filter_congr
 intro z _
 rw[Bool.and_comm]
theorem Ji{r:List ab}{p z:ab}:z∈c6 r p↔z∈r∧z≠p:=by
 unfold c6
 rw[jL,List.mem_filter]
 simp
theorem Gu{u:ID}{l:List ab}{v:ag}(h:v.1=u):gr u l v=(v.1,(l,v.2.2)):=if_pos h
theorem mM{u:ID}{l:List ab}{v:ag}(h:¬v.1=u):gr u l v=v:=if_neg h
theorem Gv{D:ai}(h:Rw D.1){p q:ab}(hp:p∈ak D.1)(hq:q∈ak D.1)(uO:p≠q):az (az D p) q=az (az D q) p:=by
 obtain⟨u,hu,hpu⟩:=aG.1 hp
 obtain⟨w,hw,TK⟩:=aG.1 hq
 obtain⟨_,r1⟩:=dB h hp
 obtain⟨_,r2⟩:=dB h hq
 have e1:=da h hu hpu
 have e2:=da h hw TK
 by_cases k:w.1=u.1
 ·have:=wq h.s hu hw k
  subst this
  have m1:(w.1,(c6 w.2.1 p,w.2.2))∈(az D p).1:=by
   rw[e1];exact List.mem_map.2 ⟨w,hw,by unfold gr;rw[if_pos rfl]⟩
  have m2:(w.1,(c6 w.2.1 q,w.2.2))∈(az D q).1:=by
   rw[e2];exact List.mem_map.2 ⟨w,hw,by unfold gr;rw[if_pos rfl]⟩
  rw[da r1 m1 (Ji.2 ⟨TK,fun k=>uO k.symm⟩),da r2 m2 (Ji.2 ⟨hpu,uO⟩),e1,e2]
  unfold bM
  have c:∀a b c':List ab,(D.1.map (gr w.1 a)).map (gr w.1 b)=D.1.map (gr w.1 b):=fun a b _=>by
   rw[List.map_map]
   exact List.map_congr_left fun v _=>My w.1 b a v
  show(((D.1.map (gr w.1 (c6 w.2.1 p))).map (gr w.1 (c6 (c6 w.2.1 p) q)),D.2):ai)=((D.1.map (gr w.1 (c6 w.2.1 q))).map (gr w.1 (c6 (c6 w.2.1 q) p)),D.2)
  rw[c _ _ [],c _ _ [],On (h.ring hw)]
 ·have m1:w∈(az D p).1:=by
   rw[e1];exact List.mem_map.2 ⟨w,hw,by unfold gr;rw[if_neg k]⟩
  have m2:u∈(az D q).1:=by
   rw[e2];exact List.mem_map.2 ⟨u,hu,by unfold gr;rw[if_neg (fun e=>k e.symm)]⟩
  rw[da r1 m1 TK,da r2 m2 hpu,e1,e2]
  unfold bM
  show(((D.1.map (gr u.1 _)).map (gr w.1 _),D.2):ai)=((D.1.map (gr w.1 _)).map (gr u.1 _),D.2)
  have:(D.1.map (gr u.1 (c6 u.2.1 p))).map (gr w.1 (c6 w.2.1 q))=(D.1.map (gr w.1 (c6 w.2.1 q))).map (gr u.1 (c6 u.2.1 p)):=by
   rw[List.map_map,List.map_map]
   refine List.map_congr_left fun v _=>?_
   show gr w.1 _ (gr u.1 _ v)=gr u.1 _ (gr w.1 _ v)
   by_cases a:v.1=u.1
   ·have b:¬v.1=w.1:=fun b=>k (b.symm.trans a)
    rw[Gu a,mM (show ¬(v.1,(c6 u.2.1 p,v.2.2)).1=w.1 from b),mM b,Gu a]
   ·by_cases b:v.1=w.1
    ·rw[mM a,Gu b,mM (show ¬(v.1,(c6 w.2.1 q,v.2.2)).1=u.1 from a)]
    ·rw[mM a,mM b,mM a]
  rw[this]
structure Lk(d t:ai)(e:ID)(v w:ag)(x y:ab):Prop where
 c:bV t e
 b:bW t e=d
 sx:sg t x=(e,0)
 sy:sg t y=(e,1)
theorem Lc{d:ai}(h:Wf d){e:ID}(he:cZ e=true)(hn:aU d.2 e=none)(Te:¬40≤d.2.length){v w:ag}{x y:ab}(hv:v∈d.1)(hw:w∈d.1)(hx:x∈v.2.1)(hy:y∈w.2.1)(Fb:x≠y) :
  Lk d (aX (aX (d.1,cF (e,(e0,0)) d.2) (v.1,x) (e,0)) (w.1,y) (e,1)) e v w x y:=by
 have wf:=h.link he hn Te (a:=(v.1,x)) (b:=(w.1,y)) (by show(aQ d.1 v.1).isSome=true;rw[dS h.sv hv];rfl) (by show(aQ d.1 w.1).isSome=true;rw[dS h.sv hw];rfl)
 have n0:=h.nu hn 0
 have n1:=h.nu hn 1
 have KD:x∈ak d.1:=aG.2 ⟨v,hv,hx⟩
 have IS:y∈ak d.1:=aG.2 ⟨w,hw,hy⟩
 have rw0:Rw ((d.1,cF (e,(e0,0)) d.2):ai).1:=h.rw
 obtain⟨a1,a2,a3,a4,a5⟩:=EU (D:=(d.1,cF (e,(e0,0)) d.2)) rw0 hv hx n0 (h.gv v hv).t
 obtain⟨D1,X1⟩:∃D1,D1=aX (d.1,cF (e,(e0,0)) d.2) (v.1,x) (e,0):=⟨_,rfl⟩
 rw[←X1]at a1 a2 a3 a4 a5 wf ⊢
 have gv1:∀z∈D1.1,GV z:=by rw[X1];exact rL (d:=(d.1,cF (e,(e0,0)) d.2)) h.gv _ _
 have up:∀z∈ak d.1,z∈ak D1.1:=fun z hz=>a2.mem_iff.2 (List.mem_cons_of_mem _ hz)
 have n1':(e,1)∉ak D1.1:=fun k=>by
  rcases List.mem_cons.1 (a2.mem_iff.1 k) with k|k
  ·cases k
  ·exact n1 k
 obtain⟨w1,D7,Yu⟩:=aG.1 (up y IS)
 have bT:w1.1=w.1:=by
  have jS:aX (d.1,cF (e,(e0,0)) d.2) (v.1,x) (e,0)=bM (d.1,cF (e,(e0,0)) d.2) v.1 (dI v.2.1 x (e,0)):=by
   unfold aX
   show bM _ v.1 (dI (bA (d.1,cF (e,(e0,0)) d.2) v.1) x (e,0))=_
   rw[g8 (d:=(d.1,cF (e,(e0,0)) d.2)) h.sv hv]
  by_cases k:w.1=v.1
  ·have:=wq h.sv hv hw k
   subst this
   have m:(w.1,(dI w.2.1 x (e,0),w.2.2))∈D1.1:=by
    rw[X1,jS];exact List.mem_map.2 ⟨w,hw,by unfold gr;rw[if_pos rfl]⟩
   have hq:(e,0)∉w.2.1:=fun q=>n0 (aG.2 ⟨w,hw,q⟩)
   have q1:w1=(w.1,(dI w.2.1 x (e,0),w.2.2)):=a1.one m D7 ((C2 (h.rw.ring hw) hx hq).2.2.1 y hy) Yu
   rw[q1]
  ·have m:w∈D1.1:=by
    rw[X1,jS];exact List.mem_map.2 ⟨w,hw,by unfold gr;rw[if_neg k]⟩
   exact congrArg Prod.fst (a1.one m D7 hy Yu)
 rw[←bT]at wf ⊢
 obtain⟨b1,b2,b3,b4,b5⟩:=EU (D:=D1) a1 D7 Yu n1' (gv1 w1 D7).t
 have vv:(aU (aX D1 (w1.1,y) (e,1)).2 e).isSome=true:=by
  rw[X1]
  show(aU (cF (e,(e0,0)) d.2) e).isSome=true
  unfold aU
  rw[List.find?_isSome]
  exact⟨(e,(e0,0)),rI.2 (.inl rfl),by simp⟩
 have cut:bV (aX D1 (w1.1,y) (e,1)) e:=⟨wf,vv⟩
 refine⟨cut,?_,(b4 x (up x KD) Fb).trans a3,b3⟩
 unfold bW
 rw[Gv b1 cut.x0 cut.x1 (Us e),b5,a5]
 unfold aJ
 show(cT d.1 zI,cE (cF (e,(e0,0)) d.2) e)=d
 rw[qc h.gv,C1 (e,(e0,0)) hn]
theorem Mz{t:ai}(h:Wf t){x:ab}(hx:x∈ak t.1):bY t (sg t x)=bY t x:=by
 obtain⟨v,hv,js⟩:=aG.1 hx
 rw[eY h.rw hv js]
 exact(cQ h.rw hv (hM (h.rw.ring hv) js)).trans (cQ h.rw hv js).symm
variable {d t:ai} {e:ID} {v w:ag} {x y:ab}
theorem Lk.ends(k:Lk d t e v w x y)(h:Wf d)(hv:v∈d.1)(hw:w∈d.1)(hx:x∈v.2.1)(hy:y∈w.2.1):bY t (e,0)=some v.1∧bY t (e,1)=some w.1:=by
 have KD:x∈ak (bW t e).1:=by rw[k.b];exact aG.2 ⟨v,hv,hx⟩
 have IS:y∈ak (bW t e).1:=by rw[k.b];exact aG.2 ⟨w,hw,hy⟩
 have h1:=Mz k.c.wf (k.c.sub KD)
 have h2:=Mz k.c.wf (k.c.sub IS)
 rw[k.sx,←k.c.at KD,k.b]at h1
 rw[k.sy,←k.c.at IS,k.b]at h2
 exact⟨h1.trans (cQ h.rw hv hx),h2.trans (cQ h.rw hw hy)⟩
theorem Lk.acT(k:Lk d t e v w x y)(h:Wf d)(hg:bB d=0)(hv:v∈d.1)(hw:w∈d.1)(hx:x∈v.2.1)(hy:y∈w.2.1)(Fb:x≠y):bB t=0↔(af y∈bf d (af x)∨¬cr d v.1 w.1):=by
 obtain⟨e1,e2⟩:=k.ends h hv hw hx hy
 have KD:x∈ak (bW t e).1:=by rw[k.b];exact aG.2 ⟨v,hv,hx⟩
 have IS:y∈ak (bW t e).1:=by rw[k.b];exact aG.2 ⟨w,hw,hy⟩
 have hf:=U7 k.c KD IS Fb k.sx k.sy
 rw[k.b]at hf
 obtain⟨R,hr⟩:=oU k.c.wf
 have z:=eR k.c.wf hr
 have lv:(bW t e).1.length=t.1.length:=by have:=congrArg List.length k.c.ids;simpa using this
 have le:(bW t e).2.length+1=t.2.length:=by
  have h1:=kx k.c.wf
  have h2:=kx k.c.w
  have h3:=k.c.p.length_eq
  simp at h3;omega
 by_cases ho:Gb t (e,0) (e,1)
 ·have f1:=(k.c.same ho).1
  have qA:=hf.1 ho
  by_cases hc:cr (bW t e) v.1 w.1
  ·have C6:=k.c.zG e1 e2 hc hr
   have z2:=eR k.c.w C6
   rw[k.b]at z2 hc f1 lv le
   have:=z2.1 hg
   constructor
   ·intro q;have:=z.1 q;omega
   ·rintro(q|q)
    ·exact absurd q qA
    ·exact absurd hc q
  ·obtain⟨R2,C6,hl⟩:=k.c.L9 e1 e2 hc hr
   have z2:=eR k.c.w C6
   rw[k.b]at z2 hc f1 lv le
   have:=z2.1 hg
   exact⟨fun _=>.inr hc,fun _=>z.2 (by omega)⟩
 ·have f1:=k.c.diff ho
  have hc:=k.c.xW e1 e2 ho
  have C6:=k.c.zG e1 e2 hc hr
  have z2:=eR k.c.w C6
  rw[k.b]at z2 f1 lv le
  have:=z2.1 hg
  have jS:af y∈bf d (af x):=Classical.byContradiction fun q=>ho (hf.2 q)
  exact⟨fun _=>.inl jS,fun _=>z.2 (by omega)⟩
end Go.Vs
namespace Go.Vs
open Go.Proofs
variable {G:(f:FuncId)→(g:aL)→Option (g.A→Option g.B)}
end Go.Vs
namespace Go.Vs
open Go.Proofs
variable {G:(f:FuncId)→(g:aL)→Option (g.A→Option g.B)}
theorem Jj(hG:HG G)(UK:∀o,Ga G o)(s:StateT)(o:bL)(h:im s)(hf:Fit o):FX G 14 zo ((s,o,()),())=some (mT s o,()) :=
 RJ hG s o h hf fun hm h3=>UK o s h hm h3
end Go.Vs
namespace Go.Vs
open Go.Proofs Go.Cy
variable {G:(f:FuncId)→(g:aL)→Option (g.A→Option g.B)}
theorem air(hG:HG G){d:ai}(h:Wf d){v w:ag}(hv:v∈d.1)(hw:w∈d.1):∃b:Bool,FX G 25 PX ((d,v.1,w.1,()),())=some ((b,()),())∧(b=true↔cr d v.1 w.1):=by
 have hL:=dU h
 have hn:=h.nv
 obtain⟨i,hi⟩:=List.mem_iff_getElem?.1 hv
 obtain⟨j,hj⟩:=List.mem_iff_getElem?.1 hw
 have lE:=(List.getElem?_eq_some_iff.1 hi).1
 have AX:=(List.getElem?_eq_some_iff.1 hj).1
 have pi:yY v.1 d.1 0=(i:Int):=by rw[←gm hi];exact Ge h.sv lE
 have pj:yY w.1 d.1 0=(j:Int):=by rw[←gm hj];exact Ge h.sv AX
 have gi:(labels d)[i]? = some ((labels d).getD i 0):=by rw[List.getElem?_eq_getElem (by rw[hL.l.n];exact lE)];simp[List.getD,hL.l.n,lE]
 have gj:(labels d)[j]? = some ((labels d).getD j 0):=by rw[List.getElem?_eq_getElem (by rw[hL.l.n];exact AX)];simp[List.getD,hL.l.n,AX]
 have f1:=Ue (hG 55 vG rfl) d v.1 h.sm
 have f2:=Ue (hG 55 vG rfl) d w.1 h.sm
 rw[pi]at f1;rw[pj]at f2
 refine⟨(labels d).getD i 0==(labels d).getD j 0,aA (fn:=Tryz.f25) (hG _ _ rfl) (by kernel_rfl) (by kernel_rfl) ((aeZ _ _ _).trans ?_),?_⟩
 ·refine aa f1 (aa f2 (aa (abn hG d h.sm) ?_))
  refine ae (decide_eq_true (show(i:Int)≥0 by omega)) (ae (decide_eq_true (show(j:Int)≥0 by omega)) ?_)
  have c1:(decide ((0:Int)≤(i:Int))&&decide ((i:Int)<(((labels d).length:Nat):Int)))=true:=dq (eX i) (bm (by rw[hL.l.n];exact lE))
  have c2:(decide ((0:Int)≤(j:Int))&&decide ((j:Int)<(((labels d).length:Nat):Int)))=true:=dq (eX j) (bm (by rw[hL.l.n];exact AX))
  refine ae c1 (aa (show(labels d)[((i:Int)).toNat]? = _ by rw[Int.toNat_natCast];exact gi) ?_)
  exact ae c2 (aa (show(labels d)[((j:Int)).toNat]? = _ by rw[Int.toNat_natCast];exact gj) rfl)
 ·obtain⟨a,a1,a2,a3⟩:=hL.l.i i lE
  obtain⟨b,b1,b2,b3⟩:=hL.l.i j AX
  rw[gm hi]at a3
  rw[gm hj]at b3
  refine Iff.trans (beq_iff_eq (α:=Int)) ?_
  rw[a2,b2]
  constructor
  ·intro e
   have:a=b:=by omega
   subst this
   exact a3.trans (b3.symm h)
  ·intro c
   have r1:=hL.r i lE b (by omega) (by rw[gm hi];exact c.trans b3)
   have r2:=hL.r j AX a (by omega) (by rw[gm hj];exact(c.symm h).trans a3)
   rw[a2]at r1;rw[b2]at r2
   omega
theorem EV{row:List ab}(hn:row.Nodup){x q:ab}(hx:x∈row)(hq:cy row x=q):dd row q (row.length-1)=some x:=by
 obtain⟨i,hi⟩:=List.mem_iff_getElem?.1 hx
 have lE:=(List.getElem?_eq_some_iff.1 hi).1
 have hqm:q∈row:=hq▸hM hn hx
 have h1:=mK hn hi
 have hk:=Nat.mod_lt (i+1) (show 0<row.length by omega)
 rw[hq,List.getElem?_eq_getElem hk]at h1
 have h2:row[(i+1)%row.length]? = some q:=by rw[List.getElem?_eq_getElem hk];exact congrArg some h1.symm
 have h3:=F9 hn h2
 unfold dd
 rw[if_pos hqm,h3,Int.toNat_natCast]
 have e:((i+1)%row.length+(row.length-1))%row.length=i:=by
  by_cases c:i+1<row.length
  ·rw[Nat.mod_eq_of_lt c,show i+1+(row.length-1)=i+row.length by omega,Nat.add_mod_right,Nat.mod_eq_of_lt lE]
  ·have c2:i+1=row.length:=by omega
   rw[c2,Nat.mod_self,Nat.zero_add,Nat.mod_eq_of_lt (by omega)]
   omega
 rw[e];exact hi
def zH(n:ID)(a b:pS):bL:=(3,(n,(zI,(zI,(a,(b,(false,(e0,0))))))))
theorem SI{n:ID}{a b:pS}(hn:cZ n=true)(ha:th a=true)(hb:th b=true):c5 (zH n a b)=0:=by
 unfold c5
 rw[if_neg (by simp[zH]),if_neg (by simp[zH]),if_neg (by simp[zH,hn]),if_neg,if_pos (show(zH n a b).1=3 from rfl)]
 ·exact if_pos ⟨ha,hb⟩
 intro h
 have:wc (rG (zH n a b)) Ug=true:=(rH _ _).2 rfl
 rw[this]at h;cases h
theorem SJ{s:StateT}{x:ab}(h:(bY s.1 x).isSome=true):resolve s x=x:=by
 unfold resolve res
 rw[if_pos h]
theorem MA{d:ai}(h:Wf d){v:ag}{x:ab}(hv:v∈d.1)(hx:x∈v.2.1):th (v.1,x)=true:=by
 have hd:x∈ak d.1:=aG.2 ⟨v,hv,hx⟩
 obtain⟨e,he,h1,h2⟩:=eQ.1 (h.pd.mem_iff.1 hd)
 unfold th It
 rw[(h.gv v hv).i,←h1,(h.ge e he).i,decide_eq_true h2];rfl
theorem nD{s:StateT}(h:Wf s.1){v:ag}{x:ab}(hv:v∈s.1.1)(hx:x∈v.2.1):aW s (v.1,x)=((v.1,x),(0,())):=by
 have hd:x∈ak s.1.1:=aG.2 ⟨v,hv,hx⟩
 unfold aW
 rw[show bg s.1 (v.1,x).1=some v from dS h.sv hv]
 show((v.1,pZ s (v.1,x) v),(0,()))=_
 unfold pZ
 rw[show resolve s (v.1,x).2=x from SJ (wx hd),if_pos hx]
theorem Jk{d:ai}(h:Wf d){x:ab}(hx:x∈ak d.1):NL x.2:=by
 have:=h.side hx
 unfold NL;omega
theorem Oo(hG:HG G)(UK:∀o,Ga G o)(l:List (List bL))(x y:ab)(hl:l.length≤1073741824)(ht:∀e∈l,∀o∈e,uD o):FX G 5 YD ((l,x,y,()),())=some ((true,()),()):=by
 refine aA (fn:=Tryz.f5) (hG _ _ rfl) (by kernel_rfl) (by kernel_rfl) ((nf5 _ _ _).trans ?_)
 refine aa (agO hG) ?_
 refine aa (agK hG l hl ht) ?_
 have hw:=im.FZ l
 have hg:=Gs l
 generalize oK l=s at *
 have Ot:=hw.d.nv;have bp:=hw.d.ne;have hsn:=hw.n
 have acU:=hw.d.rN
 obtain⟨n,Tv⟩:∃n:ID,n=(8,1048576):=⟨_,rfl⟩
 refine aa (DC hG s.1 x (by omega) (fun v hv=>by have:=acU v hv;omega)) ?_
 refine aa (DC hG s.1 y (by omega) (fun v hv=>by have:=acU v hv;omega)) ?_
 refine aa (Re (hG _ _ rfl) s.1 (8,1048576) (by omega)) ?_
 have hX:(oH zI (bY s.1 x)).2.1=(bY s.1 x).isSome:=fN _ _
 have hY:(oH zI (bY s.1 y)).2.1=(bY s.1 y).isSome:=fN _ _
 have hE:(oH zE (fZ s.1 (8,1048576))).2.1=(aU s.1.2 (8,1048576)).isSome:=fN _ _
 cases hax:(bY s.1 x).isSome
 case false=>exact aS (hX.trans hax) rfl
 refine aS (hX.trans hax) (aj rfl ?_)
 cases hay:(bY s.1 y).isSome
 case false=>exact aS (hY.trans hay) rfl
 refine aS (hY.trans hay) (aj rfl ?_)
 cases Bn:(aU s.1.2 (8,1048576)).isSome
 case true=>exact ae (hE.trans Bn) rfl
 refine aj (hE.trans Bn) ?_
 have acV:=ki x y
 by_cases Fb:x=y
 ·exact ae (acV.trans (decide_eq_true Fb)) rfl
 refine aj (acV.trans (decide_eq_false Fb)) ?_
 by_cases Te:40≤s.1.2.length
 ·exact ae (decide_eq_true (show((s.1.2.length:Nat):Int)≥40 by omega)) rfl
 refine aj (decide_eq_false (show ¬((s.1.2.length:Nat):Int)≥40 by omega)) ?_
 have KD:x∈ak s.1.1:=Classical.byContradiction fun k=>by
  have:bY s.1 x=none:=wo k
  rw[this]at hax;cases hax
 have IS:y∈ak s.1.1:=Classical.byContradiction fun k=>by
  have:bY s.1 y=none:=wo k
  rw[this]at hay;cases hay
 obtain⟨v,hv,js⟩:=aG.1 KD
 obtain⟨w,Yv,Jt⟩:=aG.1 IS
 have ax:bY s.1 x=some v.1:=cQ hw.d.rw hv js
 have ay:bY s.1 y=some w.1:=cQ hw.d.rw Yv Jt
 rw[ax,ay]
 have hmn:cZ n=true:=by rw[Tv];decide
 have TN:aU s.1.2 n=none:=by rw[Tv];exact Option.not_isSome_iff_eq_none.1 (by rw[Bn];simp)
 have lk:=Lc hw.d hmn TN Te hv Yv js Jt Fb
 obtain⟨t,htt⟩:∃t,t=aX (aX (s.1.1,cF (n,(e0,0)) s.1.2) (v.1,x) (n,0)) (w.1,y) (n,1):=⟨_,rfl⟩
 rw[←htt]at lk
 have ait:=SI hmn (MA hw.d hv js) (MA hw.d Yv Jt)
 have MO:Fit (zH n (v.1,x) (w.1,y)):=⟨Jk hw.d KD,Jk hw.d IS,Uo,by show e0.size≤_;simp[e0,ByteArray.size]⟩
 have hD:jY s (zH n (v.1,x) (w.1,y))=t:=by
  unfold jY
  show aX (aX (s.1.1,cF (n,(e0,0)) s.1.2) (aW s (v.1,x)).1 (n,0)) (if(bg s.1 w.1).isSome=true∧y=(n,0) then(w.1,y) else(aW s (w.1,y)).1) (n,1)=t
  rw[nD hw.d hv js,nD hw.d Yv Jt,ite_self,htt]
 have GZ:mT s (zH n (v.1,x) (w.1,y))=if bB t≠0 then(zS,(15,())) else((t,s.2),(0,())):=by
  rw[xU,if_neg (by simp[ait])]
  show nt s (zH n (v.1,x) (w.1,y))=_
  unfold nt
  rw[hD]
  show(if(fZ s.1 n).isSome=true then(zS,(12,())) else if 40≤s.1.2.length then(zS,(3,())) else if(aW s (v.1,x)).2.1≠0 then(zS,(13,())) else if(aW s (w.1,y)).2.1≠0 then(zS,(13,())) else if bB t≠0 then(zS,(15,())) else((t,s.2),(0,())):StateT×(Int×Unit))=_
  rw[if_neg (show ¬(fZ s.1 n).isSome=true by show ¬(aU s.1.2 n).isSome=true;rw[TN];simp),if_neg Te]
  rw[if_neg (show ¬(aW s (v.1,x)).2.1≠0 by rw[nD hw.d hv js];simp),if_neg (show ¬(aW s (w.1,y)).2.1≠0 by rw[nD hw.d Yv Jt];simp)]
 have f14:=Jj hG UK s (zH n (v.1,x) (w.1,y)) hw MO
 have hwo:=hw.one (zH n (v.1,x) (w.1,y))
 rw[GZ]at f14 hwo
 rw[Tv]at f14
 refine aa f14 ?_
 have U9:=lk.acT hw.d hg hv Yv js Jt Fb
 obtain⟨tr,Sd⟩:∃tr,tr=bf s.1 (af x):=⟨_,rfl⟩
 have htl:tr.length≤82:=by rw[Sd];exact xF _ _
 refine aa (Rc (hG _ _ rfl) x) ?_
 refine aa (show FX G 22 Dt ((s.1,af x,()),())=some ((tr,()),()) by rw[Sd];exact abm hG s.1 (af x) hw.d.sm) ?_
 refine aa (Rc (hG _ _ rfl) y) ?_
 refine aa (DB (hG _ _ rfl) tr (af y) (by omega)) ?_
 obtain⟨b,QV,vj⟩:=air hG hw.d hv Yv
 refine aa QV ?_
 rw[←Sd]at U9
 have rest:bB t=0→∀(r:StateT×(Int×Unit)),r=((t,s.2),(0,())) →
   cond (r.2.1 != (0:Int)) (some ((false,()),())) ((FX G 18 kQ ((r.1.1,v.1,()),())).bind fun(nk:((ag×(Bool×Unit))×Unit))=>(FX G 18 kQ ((r.1.1,w.1,()),())).bind fun(ln:((ag×(Bool×Unit))×Unit)) =>
    (FX G 26 zq ((nk.1.1.2.1,((((8:Int),(1048576:Int)),(0:Int)),())),())).bind fun(wF:((ab×(Bool×Unit))×Unit)) =>
    (FX G 26 zq ((ln.1.1.2.1,((((8:Int),(1048576:Int)),(1:Int)),())),())).bind fun(qu:((ab×(Bool×Unit))×Unit)) =>
    (FX G 14 zo (((r.1.1,r.1.2),(C8 4 (8,1048576),())),())).bind fun(Lu:((StateT×(Int×Unit))×Unit)) =>
    (FX G 27 xh ((Lu.1.1.1,(s.1,())),())).bind fun(Nw:((Bool×Unit)×Unit)) =>
    cond true (cond (((wF.1.1.1.1==x.1.1)&&(wF.1.1.1.2==x.1.2))&&(wF.1.1.2==x.2)) (cond (((qu.1.1.1.1==y.1.1)&&(qu.1.1.1.2==y.1.2))&&(qu.1.1.2==y.2)) (cond (Lu.1.2.1==(0:Int)) (some (Nw.1,())) (some ((false,()),()))) (some ((false,()),()))) (some ((false,()),()))) (some ((false,()),())))=some ((true,()),()):=by
  intro z7 r hr
  subst hr
  have Ju:im (t,s.2):=by rw[if_neg (by simp[z7])]at hwo;exact hwo
  have QW:t.1.length≤24:=Ju.d.nv
  have acW:∀v∈t.1,v.2.1.length≤80:=Ju.d.rN
  have hxt:x∈ak t.1:=lk.c.sub (by rw[lk.b];exact KD)
  have hyt:y∈ak t.1:=lk.c.sub (by rw[lk.b];exact IS)
  obtain⟨p,hp,hxp⟩:=aG.1 hxt
  obtain⟨q,hq,hyq⟩:=aG.1 hyt
  have pid:p.1=v.1:=by
   have h1:bY t x=some p.1:=cQ Ju.d.rw hp hxp
   have h2:=lk.c.at (z:=x) (by rw[lk.b];exact KD)
   rw[lk.b,ax,h1]at h2
   exact(Option.some.inj h2).symm
  have qid:q.1=w.1:=by
   have h1:bY t y=some q.1:=cQ Ju.d.rw hq hyq
   have h2:=lk.c.at (z:=y) (by rw[lk.b];exact IS)
   rw[lk.b,ay,h1]at h2
   exact(Option.some.inj h2).symm
  have fp:bg t v.1=some p:=by rw[←pid];exact dS Ju.d.sv hp
  have fq:bg t w.1=some q:=by rw[←qid];exact dS Ju.d.sv hq
  have sp:dd p.2.1 (n,0) (p.2.1.length-1)=some x:=EV (Ju.d.rw.ring hp) hxp (by rw[←eY Ju.d.rw hp hxp];exact lk.sx)
  have sq:dd q.2.1 (n,1) (q.2.1.length-1)=some y:=EV (Ju.d.rw.ring hq) hyq (by rw[←eY Ju.d.rw hq hyq];exact lk.sy)
  rw[Tv]at sp sq
  have acX:=zF (hG 18 kQ rfl) t v.1 (by omega)
  have acY:=zF (hG 18 kQ rfl) t w.1 (by omega)
  rw[fp]at acX;rw[fq]at acY
  have acZ:=Ua hG p.2.1 ((8,1048576),0) (by have:=acW p hp;omega)
  have ac0:=Ua hG q.2.1 ((8,1048576),1) (by have:=acW q hq;omega)
  rw[sp]at acZ;rw[sq]at ac0
  refine aj rfl ?_
  refine aa acX (aa acY (aa acZ (aa ac0 ?_)))
  have o4:∃gg,mT (t,s.2) (C8 4 n)=((bW t n,gg),(0,())):=by
   refine⟨bG (bG s.2 ((n,0),c9 t (n,0))) ((n,1),c9 t (n,1)),?_⟩
   rw[xU,if_neg (by simp[UY (k:=4) (.inr (.inr rfl)) hmn])]
   show Cl (t,s.2) (C8 4 n)=_
   exact if_neg (show ¬(fZ t n).isSome=false by show ¬(aU t.2 n).isSome=false;rw[lk.c.e];simp)
  obtain⟨gg,o4⟩:=o4
  have f144:=Jj hG UK (t,s.2) (C8 4 n) Ju (acJ _ _)
  rw[o4,lk.b,Tv]at f144
  refine aa f144 (aa (agn hG s.1 s.1 hw.d.sm) ?_)
  refine ae rfl (ae ((ki x x).trans (decide_eq_true rfl)) (ae ((ki y y).trans (decide_eq_true rfl)) (ae rfl ?_)))
  exact congrArg (fun b:Bool=>some ((b,()),())) (decide_eq_true rfl)
 rcases lQ (af y) tr 0 (by omega) with⟨k1,k2⟩|⟨k,k1,k2,_⟩
 ·refine aS (decide_eq_false (show ¬idx (af y) tr 0≥0 by omega)) (ae rfl ?_)
  cases hb:b with
  |true =>
   subst hb
   have hc:=vj.1 rfl
   have XL:bB t≠0:=fun e=>(U9.1 e).elim k2 fun q=>q hc
   refine ae rfl (ae rfl ?_)
   rw[if_pos XL];rfl
  |false =>
   subst hb
   have z7:bB t=0:=U9.2 (.inr fun c=>by have:=vj.2 c;cases this)
   refine aj rfl ?_
   exact rest z7 _ (if_neg (by simp[z7]))
 ·have jS:af y∈tr:=List.mem_of_getElem? k2
  have z7:bB t=0:=U9.2 (.inl jS)
  refine aS (decide_eq_true (show idx (af y) tr 0≥0 by omega)) (aj rfl ?_)
  exact rest z7 _ (if_neg (by simp[z7]))
theorem aiw(l:List (List bL))(x y:ab)(_:NC (.sl uQ) l)(_:NC bw x)(_:NC bw y)(hb:eW (.sl uQ) l+eW bw x+eW bw y≤1048576):FX GP 5 YD ((l,x,y,()),())=some ((true,()),()):=by
 obtain⟨h1,h2⟩:=Is (l:=l) (m:=1048576) (by omega)
 exact Oo hgP acI l x y (by omega) (fun e he o ho=>Nat.le_trans (h2 e he o ho) (by omega))
end Go.Vs
