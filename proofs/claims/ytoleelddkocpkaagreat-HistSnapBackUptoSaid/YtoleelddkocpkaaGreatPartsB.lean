/- The walk of the function that -/
import Derived.Test.YtoleelddkocpkaaGreatPartsA
set_option linter.unusedSimpArgs false
set_option linter.unusedVariables false
namespace Go.Vs
open Go.Proofs
variable {Z Z' Z0:Nat→Prop} {ψ ψ' ψ0:Nat→Value} {h h':Hp} {w w' w0 W W' W1 W2 W3 Wd:World} {B0:Nat} {O N:Nat→Prop}
variable {a:Act} {lv:Value} {vs:List Value} {q:Nat}
theorem HK(i:Nat):(Array.replicate 16 false).getD i false=false:=by
 rw[Array.getD_eq_getD_getElem?,Array.getElem?_replicate]
 grind
theorem add_one(n:Nat){k i:Nat}{c j:Int}{d:ak}{p:Pm}{L:List Int}(s:Pt Z0 w0 V4 (((k:Int),((i:Int),(c,(j,())))),(((d,()),()),(p,(L,())))) vs q a W)(hk:k<vs.length)(hi:i<d.1.length)(hq:q+1≤fB) :
  (r3 10).wpIn (FW none) n Tryz.prog (fun e a' W'=>e=.normal∧∃v',Pt Z0 w0 V0 ((c,(j,())),(((d,()),()),(p,(L,())))) (vs.set k v') (q+1) a' W') a W:=by
 obtain⟨lv,Z,ψ,s⟩:=s;have hkv:vs[k]? = some vs[k]:=aa8 hk;obtain⟨Wd,hWd⟩:∃x,x={ W with drawn:=W.drawn+1 }:=⟨_,rfl⟩;have gd:∀{L:Nat→Prop},Gw L W Wd:=fun {L}=>by grind [Gw.drawn]
 have l9:Wd.heap=W.heap:=by rw[hWd]
 have jd:Jr Wd lv vs q:=s.j.sub (L:=fun _=>False) gd fun _ _ h=>h;obtain⟨g,Bq⟩:=ahf jd hkv;have gdd:Good Z ψ (aw V4 (((k:Int),((i:Int),(c,(j,())))),(((d,()),()),(p,(L,()))))).heap.get Wd w0.heap.size Fe:=s.g.same (fun _ h=>h) (fun b _=>by rw[l9]) (fun b hb hz=>(s.g.zA b hz).2 hb) fun b hb=>by rw[l9];exact s.g.kz b hb
 have r1:aA Z ψ (aw V4 (((k:Int),((i:Int),(c,(j,())))),(((d,()),()),(p,(L,()))))).heap.get Wd (.ref 20001 0 0 0) (a.tmps.getD 1 undef):=(s.t.rep 1).less (fun _ h=>h) (fun b _=>by rw[l9]) fun i hi=>⟨hi,rfl⟩;obtain⟨pD,HJ,pE,pF,Cd,rd⟩:=Zx gdd rfl r1 hi;obtain⟨ie,z,he⟩:=ahd;have anj:=Ml Wd aa6 he Cd rd.sz (.inr rfl);obtain⟨v',W2,ank,BL,gw2,oV⟩:=acR jd hkv hq rd.sz rd.one (o3 10 13).type;obtain⟨W3,vQ,j3,gw3,hX⟩:=acS jd hkv Bq gw2 BL oV;have anm:g<Wd.heap.size:=jd.o.lt Bq.b;have r7:a.tmps.getD 7 undef=.int .i64 (k:Int):=by
  have:aA Z ψ (aw V4 (((k:Int),((i:Int),(c,(j,())))),(((d,()),()),(p,(L,()))))).heap.get W (.int .i64 (k:Int)) (a.tmps.getD 7 undef):=s.t.rep 7
  grind [aA]
 have r5:a.tmps.getD 5 undef=.int .i64 (i:Int):=by
  have:aA Z ψ (aw V4 (((k:Int),((i:Int),(c,(j,())))),(((d,()),()),(p,(L,()))))).heap.get W (.int .i64 (i:Int)) (a.tmps.getD 5 undef):=s.t.rep 5
  grind [aA]
 have D:Dw Wd (Wd.alloc (.cells Cd.cells 35)) W2 W3 a lv k i vs[k] g pD HJ pE pF Cd (.slice (some ⟨Wd.heap.size,0,none⟩) 1 1) v' :=⟨s.lv,r7,r5,Bq.ix,Bq.ld _ rfl,Bq.ld _ (heap_alloc_old _ _ anm),rd,anj,ank,vQ⟩;rw[Zy];show Code.wpIn Fence.wide n Tryz.prog _ _ a W;refine wpIn_wide.2 (wp_region_any (by kernel_rfl) ?_);rw[←hWd,show(opsOf (r3 10)).size=16 from Js];have iY:=s.t.size;refine P1 (I:=Iw a (Bn lv k i vs[k] g pD HJ pE pF Cd (.slice (some ⟨Wd.heap.size,0,none⟩) 1 1) v') Wd (Wd.alloc (.cells Cd.cells 35)) W2 W3) (SF D _) (fun L a' w' I hr=>?_) 16 (Array.replicate 16 false) a Wd (by decide) ⟨by simp,fun i e h _=>?_,fun i _ h=>?_,fun _ _=>rfl,iY,s.t.defers,?_⟩
 ·have h15:L.getD 15 false=true:=by have:=WW hr 16 15 (by omega) (by omega);rw[Array.getD_eq_getD_getElem?,Array.getElem?_eq_getElem (by rw[I.n];omega)]at this ⊢;simp_all
  have hw:w'=W3:=by rw[I.w];grind [SC]
  subst hw;refine⟨rfl,v',?_⟩;have s2:=P4 (a1:=a') s (gd.trans gw3) j3 (fun b hb=>by simp_all) ((I.cI 4 (by omega)).trans s.lv) I.sz I.df (fun r hr=>?_) (fun r hr=>?_)
  ·refine P3 ⟨lv,Z,ψ,s2⟩ rfl fun r hr=>?_;have hr:r∈[(11,AV.int .i64 c),(12,AV.int .i64 j),(1,AV.ref 20001 0 0 0),(3,AV.bN 31000),(10,AV.bN 31001)]:=hr;simp only[List.mem_cons,List.not_mem_nil,or_false]at hr;rcases hr with rfl|rfl|rfl|rfl|rfl<;>rfl
  ·have hr:r∈[(7,AV.int .i64 (k:Int)),(5,AV.int .i64 (i:Int)),(11,AV.int .i64 c),(12,AV.int .i64 j),(1,AV.ref 20001 0 0 0),(3,AV.bN 31000),(10,AV.bN 31001)]:=hr;simp only[List.mem_cons,List.not_mem_nil,or_false]at hr;rcases hr with rfl|rfl|rfl|rfl|rfl|rfl|rfl<;>exact I.cI _ (by omega)
  ·have hr:r∈[(7,AV.int .i64 (k:Int)),(5,AV.int .i64 (i:Int)),(11,AV.int .i64 c),(12,AV.int .i64 j),(1,AV.ref 20001 0 0 0),(3,AV.bN 31000),(10,AV.bN 31001)]:=hr;simp only[List.mem_cons,List.not_mem_nil,or_false]at hr;rcases hr with rfl|rfl|rfl|rfl|rfl|rfl|rfl<;>rfl
 ·grind [HK]
 ·grind [HK]
 rfl
end Go.Vs
namespace Go.Vs
open Go.Proofs Go.Cy
variable {Z Z' Z0:Nat→Prop} {ψ ψ' ψ0:Nat→Value} {h h':Hp} {w w' w0 W W' W1 W2 W3 Wd:World} {B0:Nat} {O N:Nat→Prop}
variable {a:Act} {lv:Value} {vs:List Value} {q:Nat}
theorem WZ{α:Type}(x:Int)(es:List (Int×α)):sw (.int .i64) x es=es.findIdx? fun e=>decide (e.1=x):=by
 show List.findIdx? (fun e:Int×α=>x==e.1) es=_
 grind
theorem ac2{α:Type}(x:Int)(es:List (Int×α)):fM (.int .i64) x es=fF x es:=by have:=N6 x es;rw[←WZ]at this;exact this
theorem Oq{α:Type}(x z:Int)(v:α)(es:List (Int×α)):fF z (jN (.int .i64) x v es)=if x=z then some v else fF z es:=by
 have e:=WZ x es;unfold jN
 split
 ·rename_i i hi;exact Ae (e.symm.trans hi)
 ·rename_i hi;exact Af (e.symm.trans hi)
theorem ac3{d:ak}(hw:Wf d){i:Nat}(hi:i<d.1.length):∃r:Nat,r≤i∧(labels d).getD i 0=(r:Int)∧(labels d).getD r 0=(r:Int):=by
 have h:=fi hw;obtain⟨r,h1,h2,h3⟩:=h.l.i i hi;obtain⟨s,k1,k2,k3⟩:=h.l.i r (by omega);have:=h.r i hi s (by omega) (h3.trans k3)
 grind
def nf(L:List Int)(i:Nat):Nat:=((List.range i).filter fun j=>decide (L.getD j 0=(j:Int))).length
theorem P6(L:List Int)(i:Nat):nf L (i+1)=nf L i+if L.getD i 0=(i:Int) then 1 else 0:=by
 unfold nf;rw[List.range_succ,List.filter_append,List.length_append]
 grind
theorem ahx(L:List Int)(i:Nat):nf L i≤i:=by
 grind [nf,List.length_filter_le,decide,List.range]
def Pl(L:List Int)(i:Nat)(p:Pm):Prop:=∀r:Nat,r<i→L.getD r 0=(r:Int)→∃k:Nat,k<nf L i∧fF (r:Int) p=some (k:Int)
abbrev xP(n i:Int)(d:ak)(p:Pm)(L:List Int):V0.T:=((n,(i,())),(((d,()),()),(p,(L,()))))
theorem P7{sh:Shape}{x:sh.T}(s:Pt Z0 w0 sh x vs q a W){i:Nat}{b:Bool}(e:look (aw sh x).tmps i=.bool b):a.eval (.tmp i)=.bool b:=by obtain⟨lv,Z,ψ,s⟩:=s;have:=s.t.rep i;rw[e]at this;exact this
theorem ZB:r3 12=.region 12 (opsOf (r3 12)) false:=by kernel_rfl
theorem W0(n:Nat){d:ak}(wf:Wf d){i:Nat}{p:Pm}{b:Bool}(hi:i<d.1.length)(hp:Pl (labels d) i p)(hv:vs.length=nf (labels d) i)(hq:q≤i) (s:Pt Z0 w0 V1 ((b,(((d.1.length:Nat):Int),((i:Int),()))),(((d,()),()),(p,(labels d,())))) vs q a W) :
  cB3.wpIn (FW none) n Tryz.prog (fun e a' W'=>e=.normal∧∃p' iZ,Pl (labels d) (i+1) p'∧iZ.length=nf (labels d) (i+1)∧Pt Z0 w0 V0 (xP ((d.1.length:Nat):Int) (i:Int) d p' (labels d)) iZ (q+1) a' W') a W:=by
 have hn:=wf.nv;have hlen:=(fi wf).l.n;have hli:i<(labels d).length:=by omega
 obtain⟨r,hr1,Rn,hr3⟩:=ac3 wf hi;have sN:(labels d)[i]? = some (r:Int):=by simp_all
 have h5:=(m5 F1 b ((d.1.length:Nat):Int) (i:Int) d p (labels d)).trans (ae (cP (fK i) (aT hli)) (aa (a:=(r:Int)) (by simp_all) rfl));have arT:=ahx (labels d) i;refine wpIn_seq (wpIn_mono (Zt h5 n s) ?_);rintro e a1 W1 ⟨rfl,hc⟩;refine wpIn_seq (wpIn_seq (wpIn_mono hc ?_));rintro e a2 W2 ⟨rfl,s2⟩;have h19:=P7 s2 (i:=19) rfl;have drop:=P3 (sh':=V3) (y:=(((i:Int),((r:Int),(((d.1.length:Nat):Int),((i:Int),())))),(((d,()),()),(p,(labels d,()))))) s2 rfl fun t ht=>by have ht:t∈[(5,AV.int .i64 (i:Int)),(6,AV.int .i64 (r:Int)),(11,AV.int .i64 ((d.1.length:Nat):Int)),(12,AV.int .i64 (i:Int)),(1,AV.ref 20001 0 0 0),(3,AV.bN 31000),(10,AV.bN 31001)]:=ht;simp only[List.mem_cons,List.not_mem_nil,or_false]at ht;rcases ht with rfl|rfl|rfl|rfl|rfl|rfl|rfl<;>rfl
 have rest:∀(p':Pm) (iZ:List Value) (a':Act) (W':World),Pl (labels d) (i+1) p'→iZ.length=nf (labels d) (i+1)→Pt Z0 w0 V3 (((i:Int),((r:Int),(((d.1.length:Nat):Int),((i:Int),())))),(((d,()),()),(p',(labels d,())))) iZ q a' W' →(Code.seq (r3 9) (r3 10)).wpIn (FW none) n Tryz.prog (fun e a' W'=>e=.normal∧∃p' iZ,Pl (labels d) (i+1) p'∧iZ.length=nf (labels d) (i+1)∧Pt Z0 w0 V0 (xP ((d.1.length:Nat):Int) (i:Int) d p' (labels d)) iZ (q+1) a' W') a' W':=by
  intro p' iZ a' W' TP BL s';obtain⟨k,JB,qu⟩:=TP r (by omega) hr3;have h9:=m9 F1 ((d.1.length:Nat):Int) (i:Int) (r:Int) (i:Int) d p' (labels d);rw[ac2,qu]at h9;refine wpIn_seq (wpIn_mono (Om h9 n s') ?_);rintro e a3 W3 ⟨rfl,s3⟩;refine wpIn_mono (add_one n s3 (by omega) hi (by unfold fB;omega)) ?_
  grind
 by_cases hri:r=i
 ·subst hri;have ht:a2.eval (.tmp 19)=.bool true:=h19.trans (by simp);refine wpIn_cond_true ht (wpIn_seq (wpIn_mono (Zv n drop) ?_));rintro e a3 W3 ⟨rfl,s3⟩;refine wpIn_mono (Zu n (by unfold fB;omega) s3 fun t ht=>?_) ?_
  ·have ht:t∈[(5,AV.int .i64 (r:Int)),(6,AV.int .i64 (r:Int)),(11,AV.int .i64 ((d.1.length:Nat):Int)),(12,AV.int .i64 (r:Int)),(1,AV.ref 20001 0 0 0),(3,AV.bN 31000),(10,AV.bN 31001)]:=ht;simp only[List.mem_cons,List.not_mem_nil,or_false]at ht;rcases ht with rfl|rfl|rfl|rfl|rfl|rfl|rfl<;>exact⟨rfl,by simp⟩
  rintro e a4 W4 ⟨rfl,s4⟩;have h1:nf (labels d) (r+1)=nf (labels d) r+1:=by rw[P6,if_pos hr3]
  refine rest _ _ a4 W4 (fun z yC BJ=>?_) (by simp_all) s4;have gp:=Oq (r:Int) (z:Int) ((vs.length:Nat):Int) p;by_cases hz:r=z
  ·subst hz;exact⟨nf (labels d) r,by omega,gp.trans (by simp_all)⟩
  ·obtain⟨k,k1,k2⟩:=hp z (by omega) BJ;refine⟨k,by omega,?_⟩;exact gp.trans (by grind)
 ·have ht:a2.eval (.tmp 19)=.bool false:=h19.trans (by
   have:((r:Int)==(i:Int))=false:=by simp;omega
   rw[this])
  refine wpIn_cond_false ht (wpIn_skip ?_);have h1:nf (labels d) (i+1)=nf (labels d) i:=by simp_all [P6,if_neg]
  refine rest p vs a2 W2 (fun z yC BJ=>?_) (by omega) drop;rw[h1];exact hp z (by
   grind) BJ
noncomputable abbrev xE(d:ak):VE.T:=(((((labels d).length:Nat):Int),((0:Int),())),(((d,()),()),(([]:Pm),(labels d,(([]:List (List ID)),())))))
theorem ano:(o3 12 0).op=.move (.tmp 4):=by kernel_rfl
theorem anp:(o3 12 1).op=.assign (.tmp 46):=by kernel_rfl
theorem ZC(n:Nat){sh:Shape}{x:sh.T}(s:Pt Z0 w0 sh x vs q a W):(r3 12).wpIn (FW none) n Tryz.prog (fun e a' W'=>e=.normal∧a'.defers=[]∧(∃A c,a'.tmps.getD 2 undef=.slice A vs.length c)∧Gw (fun _=>False) w0 W') a W:=by
 obtain⟨lv,Z,ψ,s⟩:=s;obtain⟨A,cap,S4⟩:=s.j.o.slice;rw[ZB];show Code.wpIn Fence.wide n Tryz.prog _ _ a W;refine wpIn_wide.2 (wp_region ?_);have hs:(opsOf (r3 12)).size=2:=by kernel_rfl
 have g0:(opsOf (r3 12))[0]? = some (o3 12 0):=by kernel_rfl
 have g1:(opsOf (r3 12))[1]? = some (o3 12 1):=by kernel_rfl
 have d0:(o3 12 0).dst=some 46:=by kernel_rfl
 have d1:(o3 12 1).dst=some 2:=by kernel_rfl
 have iY:=s.t.size;rw[hs,show List.range 2=[0,1] from rfl];refine di g0 (by kernel_rfl) (lg ano) ?_;rw[d0];refine di g1 (by kernel_rfl) (uX anp) ?_;rw[d1,dU (by omega)];refine⟨rfl,by rw[put_defers,put_defers];exact s.t.defers,⟨A,cap,?_⟩,s.wk.os,s.wk.tape,s.wk.output,s.wk.size,fun b hb _=>s.wk.block b hb fun h=>h⟩;rw[iD (by rw[cJ];omega),if_pos rfl,←S4];exact s.lv
theorem ZD{d:ak}(wf:Wf d){u0:Value}{O:Nat→Prop}(hg:Good Z ψ0 (Heap.get []) w w.heap.size O)(hu:aA Z ψ0 (Heap.get []) w (b6 dK d) u0) :
  Calls Tryz.prog 225 #[u0] w fun e w'=>(∃A c,e=.returned (.slice A (nf (labels d) d.1.length) c))∧Gw (fun _=>False) w w':=by
 have ES:∀b,¬Own ψ0 (Heap.get []) b:=fun b ⟨i,h1,_⟩=>h1 rfl;refine yq (r:=none) (n:=5) (callsIn_of_wp Tryz.func225 Zs trivial ?_ rfl);obtain⟨FL,PW⟩:∃t:Array Value,t=#[u0]++Array.replicate (Tryz.f225.ntmps-(#[u0]:Array Value).size) undef:=⟨_,rfl⟩;rw[←PW];have hnt:Tryz.f225.ntmps=47:=by kernel_rfl
 have hs0:FL.size=47:=by rw[PW,hnt];simp
 have e0:FL.getD 0 undef=u0:=by rw[PW];simp
 have anq:F1 236 iE ((d,()),())=some ((labels d,()),()):=WI rfl (agV hg0 d wf);have hn:=(ana F1 d).trans (aa anq (show _=some (xE d) from rfl));have g0:Good Z ψ0 (Heap.get []) w w.heap.size Fe:=hg.WH fun b h _=>(ES b h).elim;have t0:cX Z ψ0 (Heap.get []) w 47 (look [(0,b6 dK d)]) { tmps:=FL,defers:=[] }:=by refine fD (fun p hp=>?_) hs0 rfl;simp only[List.mem_cons,List.not_mem_nil,or_false]at hp;subst hp;show aA _ _ _ _ _ (FL.getD 0 undef);rw[e0];exact hu
 have run:=eJ rC hn none 5 [] (Good.start g0) t0;rw[dX]at run;refine wpIn_seq (wpIn_mono run ?_);clear run;rintro e a1 W1 ⟨rfl,a2,rfl,_,jt,Z1,oX,q1,Zo,t1⟩;refine wpIn_seq (wpIn_mono (eJ rC q1 none 5 _ Zo t1) ?_);rintro e a3 W3 ⟨rfl,a4,rfl,_,st2,Z2,eY,q2,Fc,t2⟩;refine wpIn_seq (wpIn_mono (eJ rC q2 none 5 _ Fc t2) ?_);rintro e a5 W5 ⟨rfl,a6,rfl,_,st3,Z3,TS,q3,Zq,t3⟩;refine wpIn_seq (wpIn_seq (wpIn_mono (eJ rC q3 none 5 _ Zq t3) ?_));rintro e a7 W7 ⟨rfl,a8,rfl,_,st4,Z4,C0,q4,ok4,t4⟩;rw[dX];obtain⟨Z5,PX,ok5,t5⟩:=gW q4 ok4 t4;clear q1 q2 q3 q4 Zo Fc Zq ok4 t1 t2 t3 t4;have hlen:(labels d).length=d.1.length:=(fi wf).l.n;have g5:=ok5.Oe g0 (acf _);have wk5:Wk Z w Fe Z5 W7:=⟨ok5.gG,fun b hb=>(ok5.fj b hb).imp (fun h=>h) fun h=>h.imp (fun h=>(ES b h).elim) fun h=>h,ok5.os,ok5.tape,ok5.output,ok5.size,fun b hb _=>ok5.block b hb (ES b)⟩;have start:Pt Z w V0 (xP (((labels d).length:Nat):Int) (0:Int) d ([]:Pm) (labels d)) [] 0 a8 W7:=by
  have eh:(aw VE (xE d)).heap=(aw V0 (xP (((labels d).length:Nat):Int) (0:Int) d ([]:Pm) (labels d))).heap++[(31002,.own (.row 163 (.sl fZ)) [])]:=rfl;have sub:∀i o,(aw V0 (xP (((labels d).length:Nat):Int) (0:Int) d ([]:Pm) (labels d))).heap.get i=some o→(aw VE (xE d)).heap.get i=some o:=fun i o ho=>by rw[eh];exact Ac ho
  have vT:(aw V0 (xP (((labels d).length:Nat):Int) (0:Int) d ([]:Pm) (labels d))).heap.get 31002=none:=rfl;have h2:(aw VE (xE d)).heap.get 31002=some (.own (.row 163 (.sl fZ)) []):=rfl;have pw:=g5.row 31002 (.row 163 (.sl fZ)) [] h2;obtain⟨cs,ho,_⟩:=pw;have MX:cs=[]:=abY (by rw[ho.1];rfl);subst MX;have r4:aA Z5 PX (aw VE (xE d)).heap.get W7 (.bN 31002) (a8.tmps.getD 4 undef):=t5.rep 4;simp only[aA]at r4;have e4:=r4.2 (by rw[h2];simp);have nn:∀{i},(aw V0 (xP (((labels d).length:Nat):Int) (0:Int) d ([]:Pm) (labels d))).heap.get i≠none→(aw VE (xE d)).heap.get i≠none:=fun {i} hi=>by obtain⟨o,ho⟩:=abS.1 hi;rw[sub i o ho];simp
  refine⟨PX 31002,Z5,PX,wk5,g5.sub sub,fD (fun p hp=>?_) t5.size t5.defers,⟨ho,fun v hv=>(by cases hv),fun j k v u b h1=>(by simp at h1),fun v hv=>(by cases hv)⟩,fun b hb=>?_,fun b hb=>?_,e4⟩
  ·have hp:p∈[(11,AV.int .i64 (((labels d).length:Nat):Int)),(12,AV.int .i64 (0:Int)),(1,AV.ref 20001 0 0 0),(3,AV.bN 31000),(10,AV.bN 31001)]:=hp;simp only[List.mem_cons,List.not_mem_nil,or_false]at hp;rcases hp with rfl|rfl|rfl|rfl|rfl
   ·exact t5.rep 11
   ·exact t5.rep 12
   ·exact Jl (fun _ h=>h) (t5.rep 1) fun hi=>⟨nn hi,rfl⟩
   ·exact Cb (t5.rep 3) fun hi=>⟨nn hi,rfl⟩
   ·exact Cb (t5.rep 10) fun hi=>⟨nn hi,rfl⟩
  ·rcases hb with hb|⟨v,hv,_⟩
   ·have hl:=g5.live 31002 b (by rw[h2];simp) hb;refine⟨ho.lt hb,hl.1,fun⟨i,k1,k2⟩=>?_⟩;have:=g5.apart i 31002 b (nn k1) (by rw[h2];simp) k2 hb;subst this;exact k1 vT
   ·cases hv
  ·rcases hb with hb|⟨v,hv,_⟩
   ·exact(g5.live 31002 b (by rw[h2];simp) hb).2.elim (fun h=>h) fun h=>h.elim
   ·cases hv
 rw[hlen]at start;refine wpIn_block ?_;refine Jn (fun k a W=>∃(i:Nat) (p:Pm) (vs:List Value) (q:Nat),i≤d.1.length∧k=d.1.length-i∧q≤i∧Pl (labels d) i p∧vs.length=nf (labels d) i∧Pt Z w V0 (xP ((d.1.length:Nat):Int) (i:Int) d p (labels d)) vs q a W) (k:=d.1.length) ⟨0,[],[],0,adx _,rfl,acf _,fun r hr=>by omega,rfl,start⟩ ?_;rintro k a W ⟨i,p,vs,q,hi,rfl,hq,hp,hv,s⟩;refine wpIn_seq (wpIn_mono (Om (m4 F1 ((d.1.length:Nat):Int) (i:Int) _) 5 s) ?_);rintro e a1 W1 ⟨rfl,s1⟩;have XO:=P7 s1 (i:=13) rfl;by_cases aN:i<d.1.length
 case neg =>
  have e:i=d.1.length:=by omega
  have ef:decide ((i:Int)<((d.1.length:Nat):Int))=false:=decide_eq_false (by omega);rw[ef]at XO;refine wpIn_seq (wpIn_cond_false XO (wpIn_exit ?_));show Code.wpIn _ _ _ _ _ _ _;refine wpIn_seq (wpIn_mono (ZC 5 s1) ?_);rintro e a2 W2 ⟨rfl,hd,⟨A,c,h2⟩,gw⟩;refine wpIn_ret ?_;have xu:Tryz.f225.results=#[.tmp 2]:=by kernel_rfl
  refine⟨hd,_,results_tmp xu _ _ _,⟨A,c,?_⟩,gw⟩;rw[h2,hv,←‹i=d.1.length›]
 have et:decide ((i:Int)<((d.1.length:Nat):Int))=true:=aT aN;refine wpIn_seq (wpIn_cond_true (XO.trans (congrArg Value.bool et)) (wpIn_skip ?_));refine wpIn_seq (wpIn_block (wpIn_mono (W0 5 wf aN hp hv hq s1) ?_));rintro e a2 W2 ⟨rfl,p',iZ,TP,BL,s2⟩;have MU:=wf.nv;refine wpIn_mono (Om (m11 F1 ((d.1.length:Nat):Int) (i:Int) _) 5 s2) ?_;rintro e a3 W3 ⟨rfl,s3⟩;have ew:=aD aN (show d.1.length≤1073741824 by omega);rw[ew]at s3;exact⟨d.1.length-(i+1),by omega,i+1,p',iZ,q+1,by omega,rfl,by omega,TP,BL,s3⟩
theorem W9{d:ak}(wf:Wf d):((nf (labels d) d.1.length:Nat):Int)=fE d:=by
 grind [uV,nJ,nf,List.length_map]
theorem ac4{P:Program}{ρC:Operand→Value}{o:Oper}{t:TypeId}{x:Operand}(h:o.op=.box t x):(execOp ρC o).run P w=.ok (.value (.pointer (some ⟨w.heap.size,0,none⟩))) (w.alloc (.cells (ρC x).cells t)):=by unfold execOp;rw[h];rfl
theorem ZE{P:Program}{ops:Array Oper}{Q:Exit→Act→World→Prop}{i:Nat}{rest:List Nat}{o:Oper}{f:FuncId}{x:Operand}{t:TypeId}{v0:Value}(ho:ops[i]? = some o)(hg:o.guard=none) (OX:o.op=.call { callee:=.value (.func f),args:=#[x],argTypes:=#[t] }) (hx:a.eval x=v0) (hf:jT P f) (hc:Calls P f #[v0] w fun e w'=>∃v,e=.returned v∧wpOps P ops Q rest (a.put o.dst v) w'):wpOps P ops Q (i::rest) a w:=by
 rw[wpOps_cons];unfold wpOp;simp only[ho,mI hg,if_true];refine .inl ?_;unfold Oper.wp;have e:(execOp a.eval o).run P w=.ok (.enter f #[v0]) w:=by
  unfold execOp;rw[OX];show((do let d ←Deferred.ofValue (.func (.func f) #[] #[]) ((#[x]:Array Operand).map a.eval);invoke d.target d.args:Sem Go.Next)).run _ _=_;have hm:(#[x]:Array Operand).map a.eval=#[v0]:=by simp[hx]
  rw[hm];show(callFunc f (#[v0]++#[])).run P w=_
  grind [mj]
 rw[e,Oper.upon_enter];refine hc.mono fun en w' ⟨v,h1,h2⟩=>?_;simp_all
noncomputable abbrev r7(i:Nat):Code:=rg Tryz.f208 i
theorem ZF:Tryz.f208.body=some (.seq (r7 0) (.seq (r7 1) .ret)):=by kernel_rfl
theorem ac5:r7 0=.region 0 (opsOf (r7 0)) false:=by kernel_rfl
theorem ac6:r7 1=.region 1 (opsOf (r7 1)) false:=by kernel_rfl
noncomputable def o7(r i:Nat):Oper:=((opsOf (r7 r))[i]?).getD { dst:=none,op:=.move (.tmp 0),type:=0,pos:= "",after:=#[],guard:=none }
theorem anr:(o7 1 1).op=.call { callee:=.value (.func 225),args:=#[.tmp 3],argTypes:=#[27] }:=by kernel_rfl
theorem ant:(opsOf (r7 1))[1]? = some (o7 1 1):=by kernel_rfl
theorem anu:(o7 1 1).guard=none:=by kernel_rfl
theorem anv:jT Tryz.prog 225:=mq 225 aax (by kernel_rfl)
theorem SH{d:ak}(wf:Wf d):GF Tryz.prog 208 AZ ((d,()),()) ((fE d,()),()):=by
 intro Z ψ0 w lp hg hr;have hr:au Z ψ0 (Heap.get []) w [b6 dK d] lp:=hr;have hg:Good Z ψ0 (Heap.get []) w w.heap.size (Own ψ0 (Heap.get [])):=hg;have ES:∀b,¬Own ψ0 (Heap.get []) b:=fun b ⟨i,h1,_⟩=>h1 rfl;simp only[au]at hr;obtain⟨u0,_,rfl,hu,rfl⟩:=hr;refine yq (r:=none) (n:=5) (callsIn_of_wp Tryz.func208 ZF trivial ?_ rfl);obtain⟨FL,PW⟩:∃t:Array Value,t=[u0].toArray++Array.replicate (Tryz.f208.ntmps-([u0].toArray:Array Value).size) undef:=⟨_,rfl⟩;rw[←PW];have hnt:Tryz.f208.ntmps=6:=by kernel_rfl
 have hs0:FL.size=6:=by simp_all
 have e0:FL.getD 0 undef=u0:=by rw[PW];simp
 show Code.wpIn Fence.wide 5 Tryz.prog _ _ _ w;refine wpIn_wide.2 (wp_seq ?_);rw[ac5];refine wp_region ?_;rw[show(opsOf (r7 0)).size=2 by kernel_rfl,show List.range 2=[0,1] from rfl];refine di (o:=o7 0 0) (by kernel_rfl) (by kernel_rfl) (ac4 (t:=27) (x:=.tmp 0) (by kernel_rfl)) ?_;rw[show(o7 0 0).dst=some 1 by kernel_rfl];have ev0:({ tmps:=FL,defers:=[] }:Act).eval (.tmp 0)=u0:=e0;rw[ev0];obtain⟨a1,Tg⟩:∃a1,a1=({ tmps:=FL,defers:=[] }:Act).put (some 1) (.pointer (some ⟨w.heap.size,0,none⟩)):=⟨_,rfl⟩;rw[←Tg];have Nq:a1.tmps.size=6:=by grind [cJ]
 have Sc:a1.defers=[]:=by rw[Tg,put_defers]
 have e1:a1.eval (.tmp 1)=.pointer (some ⟨w.heap.size,0,none⟩):=by grind [dU]
 refine di (o:=o7 0 1) (by kernel_rfl) (by kernel_rfl) (uX (x:=.const (.int .i64 0)) (by kernel_rfl)) ?_;rw[show(o7 0 1).dst=some 2 by kernel_rfl];obtain⟨a2,Th⟩:∃a2,a2=a1.put (some 2) (a1.eval (.const (.int .i64 0))):=⟨_,rfl⟩;rw[←Th];have QP:a2.tmps.size=6:=by grind [cJ]
 have hd2:a2.defers=[]:=by grind [put_defers]
 have e1':a2.eval (.tmp 1)=.pointer (some ⟨w.heap.size,0,none⟩):=by grind [oC]
 show Code.wp _ _ _ a2 _;refine wp_seq ?_;rw[ac6];refine wp_region ?_;rw[show(opsOf (r7 1)).size=4 by kernel_rfl,show List.range 4=[0,1,2,3] from rfl];obtain⟨w1,MH⟩:∃x,x=w.alloc (.cells u0.cells 27):=⟨_,rfl⟩;rw[←MH];have gw1:Gw (fun _=>False) w w1:=by grind [Gw.alloc]
 have hu':∃us:Array Value,u0=.agg us∧au Z ψ0 (Heap.get []) w (enc dK d) us.toList:=by
  have:aA Z ψ0 (Heap.get []) w (.agg (enc dK d)) u0:=hu
  grind [aA]
 obtain⟨us,rfl,MC⟩:=hu';have sm1:cv Z w w1:=fun b hb=>gw1.block b (hg.kz b hb) fun h=>h;have ZG:au Z ψ0 (Heap.get []) w1 (enc dK d) us.toList:=MC.less (fun _ h=>h) sm1 fun i hi=>⟨hi,rfl⟩;have g1:Good Z ψ0 (Heap.get []) w1 w1.heap.size Fe:=(hg.same (fun _ h=>h) (fun b hb=>hb.elim (fun h=>sm1 b h) fun h=>(ES b h).elim) (fun b hb=>(ES b hb).elim) (fun b hb=>ads (hg.kz b hb) gw1.size)).WH fun b hb _=>(ES b hb).elim;have hbk:w1.heap[w.heap.size]? = some (.cells us 27 (0,0)):=by rw[MH];exact SB _ _
 obtain⟨V,hV,rV⟩:=kA (P:=Tryz.prog) (w:=w1) (t:=27) (a:=⟨w.heap.size,0,none⟩) (x:=b6 dK d) ZG (fun j u hu=>by simp_all [ct,Nat.zero_add,World.cell?]) (by kernel_rfl);refine di (o:=o7 1 0) (by kernel_rfl) (by kernel_rfl) (Cc (t:=27) (x:=.tmp 1) (by kernel_rfl) (by rw[e1'];exact hV)) ?_;rw[show(o7 1 0).dst=some 3 by kernel_rfl];obtain⟨a3,X6⟩:∃a3,a3=a2.put (some 3) V:=⟨_,rfl⟩;rw[←X6];have Td:a3.tmps.size=6:=by grind [cJ]
 have hd3:a3.defers=[]:=by grind [put_defers]
 have e3:a3.eval (.tmp 3)=V:=by grind [dU]
 refine ZE (o:=o7 1 1) (f:=225) (x:=.tmp 3) (t:=27) ant anu anr e3 anv ((ZD wf g1 rV).mono ?_);rintro e w2 ⟨⟨A,c,rfl⟩,gw2⟩;refine⟨_,rfl,?_⟩;rw[show(o7 1 1).dst=some 4 by kernel_rfl];obtain⟨a4,ha4⟩:∃a4,a4=a3.put (some 4) (.slice A (nf (labels d) d.1.length) c):=⟨_,rfl⟩;rw[←ha4];have hs4:a4.tmps.size=6:=by grind [cJ]
 have hd4:a4.defers=[]:=by grind [put_defers]
 have e4:a4.eval (.tmp 4)=.slice A (nf (labels d) d.1.length) c:=by grind [dU]
 refine di (o:=o7 1 2) (by kernel_rfl) (by kernel_rfl) (WT (t:=235) (e:=163) (x:=.tmp 4) (by kernel_rfl) Mk e4) ?_;rw[show(o7 1 2).dst=some 5 by kernel_rfl];obtain⟨a5,ha5⟩:∃a5,a5=a4.put (some 5) (.int .i64 ((nf (labels d) d.1.length:Nat):Int)):=⟨_,rfl⟩;rw[←ha5];have hs5:a5.tmps.size=6:=by grind [cJ]
 have hd5:a5.defers=[]:=by grind [put_defers]
 have e5:a5.eval (.tmp 5)=.int .i64 ((nf (labels d) d.1.length:Nat):Int):=by grind [dU]
 refine di (o:=o7 1 3) (by kernel_rfl) (by kernel_rfl) (uX (x:=.tmp 5) (by kernel_rfl)) ?_;rw[show(o7 1 3).dst=some 2 by kernel_rfl,e5];show Code.wp _ _ _ _ _;have xu:Tryz.f208.results=#[.tmp 2]:=by kernel_rfl
 refine wp_ret ?_;have gw:=gw1.trans gw2;have sm:cv Z w w2:=fun b hb=>gw.block b (hg.kz b hb) fun h=>h;refine⟨by grind [put_defers],_,results_tmp xu _ _ _,_,Z,ψ0,rfl,fun _ h=>h,fun b hb=>.inl hb,⟨gw.os,gw.tape,gw.output,gw.size,fun b hb _=>gw.block b hb fun h=>h⟩,?_,fun i hi=>(by cases hi),?_⟩
 ·exact(hg.same (fun _ h=>h) (fun b hb=>hb.elim (fun h=>sm b h) fun h=>(ES b h).elim) (fun b hb=>(ES b hb).elim) (fun b hb=>ads (hg.kz b hb) gw.size):Good Z ψ0 (Heap.get []) w2 w.heap.size (Own ψ0 (Heap.get [])))
 ·show aA Z ψ0 (Heap.get []) w2 (.int .i64 (fE d)) _;simp only[aA];rw[iD (by omega),if_pos rfl,W9 wf]
end Go.Vs
namespace Go.Vs
open Go.Proofs Go.Cy
open Classical in
noncomputable def gvF:AY.A→Option AY.B:=fun(x:(ak×Unit)×Unit)=>if Wf x.1.1 then some ((bW x.1.1,()),()) else none
open Classical in
noncomputable def gvC:AZ.A→Option AZ.B:=fun(x:(ak×Unit)×Unit)=>if Wf x.1.1 then some ((fE x.1.1,()),()) else none
open Classical in
noncomputable def GP:(f:FuncId)→(g:aO)→Option (g.A→Option g.B):=fun f g =>if h:f=207∧g=AY then some (h.2▸gvF)
 else if h:f=208∧g=AZ then some (h.2▸gvC)
 else none
theorem hgP:HG GP:=fun f g h=>by
 unfold GP;rw[dif_neg,dif_neg]
 ·rintro⟨rfl,_⟩;cases h
 ·rintro⟨rfl,_⟩;cases h
theorem ahy:GP 207 AY=some gvF:=by unfold GP;rw[dif_pos ⟨rfl,rfl⟩]
theorem ahz:GP 208 AZ=some gvC:=by unfold GP;rw[dif_neg (by rintro⟨h,_⟩;cases h),dif_pos ⟨rfl,rfl⟩]
open Classical in
theorem pg:PG GP where
 h:=hgP
 f:=fun d hd=>GS ahy (by show(if Wf d then some ((bW d,()),()) else none)=_;rw[if_pos hd];rfl)
 c:=fun d hd=>GS ahz (by show(if Wf d then some ((fE d,()),()) else none)=_;rw[if_pos hd];rfl)
open Classical in
theorem ac7{f:FuncId}{g:aO}{x:g.A}{y:g.B}(hs:Sg f=some g)(h:FX GP f g x=some y):GF Tryz.prog f g x y:=by
 refine BX VI D7 mq uF (fun f g u x y _ hu hy=>?_) hs h;unfold GP at hu
 split at hu
 ·rename_i h;obtain⟨rfl,rfl⟩:=h
  cases hu
  obtain⟨⟨d,⟨⟩⟩,⟨⟩⟩:=x;have hy:(if Wf d then some ((bW d,()),()) else none)=some y:=hy
  split at hy
  ·rename_i hw
   cases hy
   exact SA hw
  ·cases hy
 ·split at hu
  ·rename_i h;obtain⟨rfl,rfl⟩:=h
   cases hu
   obtain⟨⟨d,⟨⟩⟩,⟨⟩⟩:=x;have hy:(if Wf d then some ((fE d,()),()) else none)=some y:=hy
   split at hy
   ·rename_i hw
    cases hy
    exact SH hw
   ·cases hy
  ·cases hu
theorem aa9:oT GP:=Zj pg
theorem ahA(o:br):kb GP o:=Zb hgP aa9 o
end Go.Vs
