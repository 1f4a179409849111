/- The walk of the function that -/
import Derived.Test.YtoleelddkocpkaaGreatPartsA
set_option linter.unusedSimpArgs false
set_option linter.unusedVariables false
namespace Go.Vs
open Go.Proofs
variable {Z Z' Z0:Nat→Prop} {ψ ψ' ψ0:Nat→Value} {h h':Hp} {w w' w0 W W' W1 W2 W3 Wd:World} {B0:Nat} {O N:Nat→Prop}
variable {a:Act} {lv:Value} {vs:List Value} {q:Nat}
theorem IV(i:Nat):(Array.replicate 16 false).getD i false=false:=by
 rw[Array.getD_eq_getD_getElem?,Array.getElem?_replicate]
 grind
theorem add_one(n:Nat){k i:Nat}{c j:Int}{d:ar}{p:Pm}{L:List Int}(s:Pt Z0 w0 V4 (((k:Int),((i:Int),(c,(j,())))),(((d,()),()),(p,(L,())))) vs q a W)(hk:k<vs.length)(hi:i<d.1.length)(hq:q+1≤fH) :
  (r3 10).wpIn (FW none) n Tryz.prog (fun e a' W'=>e=.normal∧∃v',Pt Z0 w0 V0 ((c,(j,())),(((d,()),()),(p,(L,())))) (vs.set k v') (q+1) a' W') a W:=by
 obtain⟨lv,Z,ψ,s⟩:=s;have hkv:vs[k]? = some vs[k]:=abf hk;obtain⟨Wd,hWd⟩:∃x,x={ W with drawn:=W.drawn+1 }:=⟨_,rfl⟩;have gd:∀{L:Nat→Prop},Gw L W Wd:=fun {L}=>by grind [Gw.drawn]
 have mq:Wd.heap=W.heap:=by rw[hWd]
 have jd:Jr Wd lv vs q:=s.j.sub (L:=fun _=>False) gd fun _ _ h=>h;obtain⟨g,Cx⟩:=aij jd hkv;have gdd:Good Z ψ (aA V4 (((k:Int),((i:Int),(c,(j,())))),(((d,()),()),(p,(L,()))))).heap.get Wd w0.heap.size Gy:=s.g.same (fun _ h=>h) (fun b _=>by rw[mq]) (fun b hb hz=>(s.g.zA b hz).2 hb) fun b hb=>by rw[mq];exact s.g.kO b hb
 have r1:aD Z ψ (aA V4 (((k:Int),((i:Int),(c,(j,())))),(((d,()),()),(p,(L,()))))).heap.get Wd (.ref 20001 0 0 0) (a.tmps.getD 1 undef):=(s.t.rep 1).less (fun _ h=>h) (fun b _=>by rw[mq]) fun i hi=>⟨hi,rfl⟩;obtain⟨pD,IU,pE,pF,Di,rd⟩:=aaw gdd rfl r1 hi;obtain⟨ie,z,he⟩:=aih;have anT:=Nh Wd abZ he Di rd.sz (.inr rfl);obtain⟨v',W2,anU,CR,gw2,pT⟩:=adX jd hkv hq rd.sz rd.one (o3 10 13).type;obtain⟨W3,BH,j3,gw3,hX⟩:=adY jd hkv Cx gw2 CR pT;have anW:g<Wd.heap.size:=jd.o.lt Cx.b;have r7:a.tmps.getD 7 undef=.int .i64 (k:Int):=by
  have:aD Z ψ (aA V4 (((k:Int),((i:Int),(c,(j,())))),(((d,()),()),(p,(L,()))))).heap.get W (.int .i64 (k:Int)) (a.tmps.getD 7 undef):=s.t.rep 7
  grind [aD]
 have r5:a.tmps.getD 5 undef=.int .i64 (i:Int):=by
  have:aD Z ψ (aA V4 (((k:Int),((i:Int),(c,(j,())))),(((d,()),()),(p,(L,()))))).heap.get W (.int .i64 (i:Int)) (a.tmps.getD 5 undef):=s.t.rep 5
  grind [aD]
 have D:Dw Wd (Wd.alloc (.cells Di.cells 35)) W2 W3 a lv k i vs[k] g pD IU pE pF Di (.slice (some ⟨Wd.heap.size,0,none⟩) 1 1) v' :=⟨s.lv,r7,r5,Cx.ix,Cx.ld _ rfl,Cx.ld _ (heap_alloc_old _ _ anW),rd,anT,anU,BH⟩;rw[aax];show Code.wpIn Fence.wide n Tryz.prog _ _ a W;refine wpIn_wide.2 (wp_region_any (by kernel_rfl) ?_);rw[←hWd,show(opsOf (r3 10)).size=16 from Kv];have iY:=s.t.size;refine Re (I:=Iw a (Cu lv k i vs[k] g pD IU pE pF Di (.slice (some ⟨Wd.heap.size,0,none⟩) 1 1) v') Wd (Wd.alloc (.cells Di.cells 35)) W2 W3) (TL D _) (fun L a' w' I hr=>?_) 16 (Array.replicate 16 false) a Wd (by decide) ⟨by simp,fun i e h _=>?_,fun i _ h=>?_,fun _ _=>rfl,iY,s.t.defers,?_⟩
 ·have h15:L.getD 15 false=true:=by have:=XO hr 16 15 (by omega) (by omega);rw[Array.getD_eq_getD_getElem?,Array.getElem?_eq_getElem (by rw[I.n];omega)]at this ⊢;simp_all
  have hw:w'=W3:=by rw[I.w];grind [TJ]
  subst hw;refine⟨rfl,v',?_⟩;have s2:=Rh (a1:=a') s (gd.trans gw3) j3 (fun b hb=>by simp_all) ((I.dJ 4 (by omega)).trans s.lv) I.sz I.df (fun r hr=>?_) (fun r hr=>?_)
  ·refine Rg ⟨lv,Z,ψ,s2⟩ rfl fun r hr=>?_;have hr:r∈[(11,AV.int .i64 c),(12,AV.int .i64 j),(1,AV.ref 20001 0 0 0),(3,AV.bO 31000),(10,AV.bO 31001)]:=hr;simp only[List.mem_cons,List.not_mem_nil,or_false]at hr;rcases hr with rfl|rfl|rfl|rfl|rfl<;>rfl
  ·have hr:r∈[(7,AV.int .i64 (k:Int)),(5,AV.int .i64 (i:Int)),(11,AV.int .i64 c),(12,AV.int .i64 j),(1,AV.ref 20001 0 0 0),(3,AV.bO 31000),(10,AV.bO 31001)]:=hr;simp only[List.mem_cons,List.not_mem_nil,or_false]at hr;rcases hr with rfl|rfl|rfl|rfl|rfl|rfl|rfl<;>exact I.dJ _ (by omega)
  ·have hr:r∈[(7,AV.int .i64 (k:Int)),(5,AV.int .i64 (i:Int)),(11,AV.int .i64 c),(12,AV.int .i64 j),(1,AV.ref 20001 0 0 0),(3,AV.bO 31000),(10,AV.bO 31001)]:=hr;simp only[List.mem_cons,List.not_mem_nil,or_false]at hr;rcases hr with rfl|rfl|rfl|rfl|rfl|rfl|rfl<;>rfl
 ·grind [IV]
 ·grind [IV]
 rfl
end Go.Vs
namespace Go.Vs
open Go.Proofs Go.Cy
variable {Z Z' Z0:Nat→Prop} {ψ ψ' ψ0:Nat→Value} {h h':Hp} {w w' w0 W W' W1 W2 W3 Wd:World} {B0:Nat} {O N:Nat→Prop}
variable {a:Act} {lv:Value} {vs:List Value} {q:Nat}
theorem XS{α:Type}(x:Int)(es:List (Int×α)):sZ (.int .i64) x es=es.findIdx? fun e=>decide (e.1=x):=by
 show List.findIdx? (fun e:Int×α=>x==e.1) es=_
 grind
theorem ad8{α:Type}(x:Int)(es:List (Int×α)):fG (.int .i64) x es=fO x es:=by have:=Pq x es;rw[←XS]at this;exact this
theorem PI{α:Type}(x z:Int)(v:α)(es:List (Int×α)):fO z (j4 (.int .i64) x v es)=if x=z then some v else fO z es:=by
 have e:=XS x es;unfold j4
 split
 ·rename_i i hi;exact Bu (e.symm.trans hi)
 ·rename_i hi;exact Bv (e.symm.trans hi)
theorem ad9{d:ar}(hw:Wf d){i:Nat}(hi:i<d.1.length):∃r:Nat,r≤i∧(labels d).getD i 0=(r:Int)∧(labels d).getD r 0=(r:Int):=by
 have h:=fm hw;obtain⟨r,h1,h2,h3⟩:=h.l.i i hi;obtain⟨s,k1,k2,k3⟩:=h.l.i r (by omega);have:=h.r i hi s (by omega) (h3.trans k3)
 grind
def nf(L:List Int)(i:Nat):Nat:=((List.range i).filter fun j=>decide (L.getD j 0=(j:Int))).length
theorem Rj(L:List Int)(i:Nat):nf L (i+1)=nf L i+if L.getD i 0=(i:Int) then 1 else 0:=by
 unfold nf;rw[List.range_succ,List.filter_append,List.length_append]
 grind
theorem aiB(L:List Int)(i:Nat):nf L i≤i:=by
 grind [nf,List.length_filter_le,decide,List.range]
def Pl(L:List Int)(i:Nat)(p:Pm):Prop:=∀r:Nat,r<i→L.getD r 0=(r:Int)→∃k:Nat,k<nf L i∧fO (r:Int) p=some (k:Int)
abbrev xP(n i:Int)(d:ar)(p:Pm)(L:List Int):V0.T:=((n,(i,())),(((d,()),()),(p,(L,()))))
theorem Rk{sh:Shape}{x:sh.T}(s:Pt Z0 w0 sh x vs q a W){i:Nat}{b:Bool}(e:look (aA sh x).tmps i=.bool b):a.eval (.tmp i)=.bool b:=by obtain⟨lv,Z,ψ,s⟩:=s;have:=s.t.rep i;rw[e]at this;exact this
theorem aaz:r3 12=.region 12 (opsOf (r3 12)) false:=by kernel_rfl
theorem XT(n:Nat){d:ar}(wf:Wf d){i:Nat}{p:Pm}{b:Bool}(hi:i<d.1.length)(hp:Pl (labels d) i p)(hv:vs.length=nf (labels d) i)(hq:q≤i) (s:Pt Z0 w0 V1 ((b,(((d.1.length:Nat):Int),((i:Int),()))),(((d,()),()),(p,(labels d,())))) vs q a W) :
  cB3.wpIn (FW none) n Tryz.prog (fun e a' W'=>e=.normal∧∃p' jt,Pl (labels d) (i+1) p'∧jt.length=nf (labels d) (i+1)∧Pt Z0 w0 V0 (xP ((d.1.length:Nat):Int) (i:Int) d p' (labels d)) jt (q+1) a' W') a W:=by
 have hn:=wf.nv;have hlen:=(fm wf).l.n;have hli:i<(labels d).length:=by omega
 obtain⟨r,hr1,YM,hr3⟩:=ad9 wf hi;have oC:(labels d)[i]? = some (r:Int):=by simp_all
 have h5:=(m5 F1 b ((d.1.length:Nat):Int) (i:Int) d p (labels d)).trans (ae (dw (kl i) (aJ hli)) (aa (a:=(r:Int)) (by simp_all) rfl));have asz:=aiB (labels d) i;refine wpIn_seq (wpIn_mono (aas h5 n s) ?_);rintro e a1 W1 ⟨rfl,hc⟩;refine wpIn_seq (wpIn_seq (wpIn_mono hc ?_));rintro e a2 W2 ⟨rfl,s2⟩;have h19:=Rk s2 (i:=19) rfl;have drop:=Rg (sh':=V3) (y:=(((i:Int),((r:Int),(((d.1.length:Nat):Int),((i:Int),())))),(((d,()),()),(p,(labels d,()))))) s2 rfl fun t ht=>by have ht:t∈[(5,AV.int .i64 (i:Int)),(6,AV.int .i64 (r:Int)),(11,AV.int .i64 ((d.1.length:Nat):Int)),(12,AV.int .i64 (i:Int)),(1,AV.ref 20001 0 0 0),(3,AV.bO 31000),(10,AV.bO 31001)]:=ht;simp only[List.mem_cons,List.not_mem_nil,or_false]at ht;rcases ht with rfl|rfl|rfl|rfl|rfl|rfl|rfl<;>rfl
 have rest:∀(p':Pm) (jt:List Value) (a':Act) (W':World),Pl (labels d) (i+1) p'→jt.length=nf (labels d) (i+1)→Pt Z0 w0 V3 (((i:Int),((r:Int),(((d.1.length:Nat):Int),((i:Int),())))),(((d,()),()),(p',(labels d,())))) jt q a' W' →(Code.seq (r3 9) (r3 10)).wpIn (FW none) n Tryz.prog (fun e a' W'=>e=.normal∧∃p' jt,Pl (labels d) (i+1) p'∧jt.length=nf (labels d) (i+1)∧Pt Z0 w0 V0 (xP ((d.1.length:Nat):Int) (i:Int) d p' (labels d)) jt (q+1) a' W') a' W':=by
  intro p' jt a' W' UH CR s';obtain⟨k,HD,sL⟩:=UH r (by omega) hr3;have h9:=m9 F1 ((d.1.length:Nat):Int) (i:Int) (r:Int) (i:Int) d p' (labels d);rw[ad8,sL]at h9;refine wpIn_seq (wpIn_mono (PE h9 n s') ?_);rintro e a3 W3 ⟨rfl,s3⟩;refine wpIn_mono (add_one n s3 (by omega) hi (by unfold fH;omega)) ?_
  grind
 by_cases hri:r=i
 ·subst hri;have ht:a2.eval (.tmp 19)=.bool true:=h19.trans (by simp);refine wpIn_cond_true ht (wpIn_seq (wpIn_mono (aau n drop) ?_));rintro e a3 W3 ⟨rfl,s3⟩;refine wpIn_mono (aat n (by unfold fH;omega) s3 fun t ht=>?_) ?_
  ·have ht:t∈[(5,AV.int .i64 (r:Int)),(6,AV.int .i64 (r:Int)),(11,AV.int .i64 ((d.1.length:Nat):Int)),(12,AV.int .i64 (r:Int)),(1,AV.ref 20001 0 0 0),(3,AV.bO 31000),(10,AV.bO 31001)]:=ht;simp only[List.mem_cons,List.not_mem_nil,or_false]at ht;rcases ht with rfl|rfl|rfl|rfl|rfl|rfl|rfl<;>exact⟨rfl,by simp⟩
  rintro e a4 W4 ⟨rfl,s4⟩;have h1:nf (labels d) (r+1)=nf (labels d) r+1:=by rw[Rj,if_pos hr3]
  refine rest _ _ a4 W4 (fun z Ae CQ=>?_) (by simp_all) s4;have gp:=PI (r:Int) (z:Int) ((vs.length:Nat):Int) p;by_cases hz:r=z
  ·subst hz;exact⟨nf (labels d) r,by omega,gp.trans (by simp_all)⟩
  ·obtain⟨k,k1,k2⟩:=hp z (by omega) CQ;refine⟨k,by omega,?_⟩;exact gp.trans (by grind)
 ·have ht:a2.eval (.tmp 19)=.bool false:=h19.trans (by
   have:((r:Int)==(i:Int))=false:=by simp;omega
   rw[this])
  refine wpIn_cond_false ht (wpIn_skip ?_);have h1:nf (labels d) (i+1)=nf (labels d) i:=by simp_all [Rj,if_neg]
  refine rest p vs a2 W2 (fun z Ae CQ=>?_) (by omega) drop;rw[h1];exact hp z (by
   grind) CQ
noncomputable abbrev xE(d:ar):VE.T:=(((((labels d).length:Nat):Int),((0:Int),())),(((d,()),()),(([]:Pm),(labels d,(([]:List (List ID)),())))))
theorem anX:(o3 12 0).op=.move (.tmp 4):=by kernel_rfl
theorem anY:(o3 12 1).op=.assign (.tmp 46):=by kernel_rfl
theorem aaA(n:Nat){sh:Shape}{x:sh.T}(s:Pt Z0 w0 sh x vs q a W):(r3 12).wpIn (FW none) n Tryz.prog (fun e a' W'=>e=.normal∧a'.defers=[]∧(∃A c,a'.tmps.getD 2 undef=.slice A vs.length c)∧Gw (fun _=>False) w0 W') a W:=by
 obtain⟨lv,Z,ψ,s⟩:=s;obtain⟨A,cap,TZ⟩:=s.j.o.slice;rw[aaz];show Code.wpIn Fence.wide n Tryz.prog _ _ a W;refine wpIn_wide.2 (wp_region ?_);have hs:(opsOf (r3 12)).size=2:=by kernel_rfl
 have g0:(opsOf (r3 12))[0]? = some (o3 12 0):=by kernel_rfl
 have g1:(opsOf (r3 12))[1]? = some (o3 12 1):=by kernel_rfl
 have d0:(o3 12 0).dst=some 46:=by kernel_rfl
 have d1:(o3 12 1).dst=some 2:=by kernel_rfl
 have iY:=s.t.size;rw[hs,show List.range 2=[0,1] from rfl];refine dy g0 (by kernel_rfl) (lC anX) ?_;rw[d0];refine dy g1 (by kernel_rfl) (vM anY) ?_;rw[d1,eu (by omega)];refine⟨rfl,by rw[put_defers,put_defers];exact s.t.defers,⟨A,cap,?_⟩,s.wk.os,s.wk.tape,s.wk.output,s.wk.size,fun b hb _=>s.wk.block b hb fun h=>h⟩;rw[jm (by rw[cY];omega),if_pos rfl,←TZ];exact s.lv
theorem aaB{d:ar}(wf:Wf d){u0:Value}{O:Nat→Prop}(hg:Good Z ψ0 (Heap.get []) w w.heap.size O)(hu:aD Z ψ0 (Heap.get []) w (cp dX d) u0) :
  Calls Tryz.prog 225 #[u0] w fun e w'=>(∃A c,e=.returned (.slice A (nf (labels d) d.1.length) c))∧Gw (fun _=>False) w w':=by
 have F4:∀b,¬Own ψ0 (Heap.get []) b:=fun b ⟨i,h1,_⟩=>h1 rfl;refine zM (r:=none) (n:=5) (callsIn_of_wp Tryz.func225 aar trivial ?_ rfl);obtain⟨G8,QZ⟩:∃t:Array Value,t=#[u0]++Array.replicate (Tryz.f225.ntmps-(#[u0]:Array Value).size) undef:=⟨_,rfl⟩;rw[←QZ];have hnt:Tryz.f225.ntmps=47:=by kernel_rfl
 have hs0:G8.size=47:=by rw[QZ,hnt];simp
 have e0:G8.getD 0 undef=u0:=by rw[QZ];simp
 have anZ:F1 236 jn ((d,()),())=some ((labels d,()),()):=XA rfl (ahY hg0 d wf);have hn:=(anL F1 d).trans (aa anZ (show _=some (xE d) from rfl));have g0:Good Z ψ0 (Heap.get []) w w.heap.size Gy:=hg.Xz fun b h _=>(F4 b h).elim;have t0:dm Z ψ0 (Heap.get []) w 47 (look [(0,cp dX d)]) { tmps:=G8,defers:=[] }:=by refine fK (fun p hp=>?_) hs0 rfl;simp only[List.mem_cons,List.not_mem_nil,or_false]at hp;subst hp;show aD _ _ _ _ _ (G8.getD 0 undef);rw[e0];exact hu
 have run:=eR sB hn none 5 [] (Good.start g0) t0;rw[eF]at run;refine wpIn_seq (wpIn_mono run ?_);clear run;rintro e a1 W1 ⟨rfl,a2,rfl,_,jG,Z1,pV,q1,XD,t1⟩;refine wpIn_seq (wpIn_mono (eR sB q1 none 5 _ XD t1) ?_);rintro e a3 W3 ⟨rfl,a4,rfl,_,st2,Z2,fg,q2,Co,t2⟩;refine wpIn_seq (wpIn_mono (eR sB q2 none 5 _ Co t2) ?_);rintro e a5 W5 ⟨rfl,a6,rfl,_,st3,Z3,UK,q3,ok3,t3⟩;refine wpIn_seq (wpIn_seq (wpIn_mono (eR sB q3 none 5 _ ok3 t3) ?_));rintro e a7 W7 ⟨rfl,a8,rfl,_,st4,Z4,Eb,q4,ok4,t4⟩;rw[eF];obtain⟨Z5,Ra,ok5,t5⟩:=iB q4 ok4 t4;clear q1 q2 q3 q4 XD Co ok3 ok4 t1 t2 t3 t4;have hlen:(labels d).length=d.1.length:=(fm wf).l.n;have g5:=ok5.Py g0 (abX _);have wk5:Wk Z w Gy Z5 W7:=⟨ok5.g9,fun b hb=>(ok5.fq b hb).imp (fun h=>h) fun h=>h.imp (fun h=>(F4 b h).elim) fun h=>h,ok5.os,ok5.tape,ok5.output,ok5.size,fun b hb _=>ok5.block b hb (F4 b)⟩;have start:Pt Z w V0 (xP (((labels d).length:Nat):Int) (0:Int) d ([]:Pm) (labels d)) [] 0 a8 W7:=by
  have eh:(aA VE (xE d)).heap=(aA V0 (xP (((labels d).length:Nat):Int) (0:Int) d ([]:Pm) (labels d))).heap++[(31002,.own (.row 163 (.sl fQ)) [])]:=rfl;have sub:∀i o,(aA V0 (xP (((labels d).length:Nat):Int) (0:Int) d ([]:Pm) (labels d))).heap.get i=some o→(aA VE (xE d)).heap.get i=some o:=fun i o ho=>by rw[eh];exact Bq ho
  have ta:(aA V0 (xP (((labels d).length:Nat):Int) (0:Int) d ([]:Pm) (labels d))).heap.get 31002=none:=rfl;have h2:(aA VE (xE d)).heap.get 31002=some (.own (.row 163 (.sl fQ)) []):=rfl;have qf:=g5.row 31002 (.row 163 (.sl fQ)) [] h2;obtain⟨cs,ho,_⟩:=qf;have N2:cs=[]:=abD (by rw[ho.1];rfl);subst N2;have r4:aD Z5 Ra (aA VE (xE d)).heap.get W7 (.bO 31002) (a8.tmps.getD 4 undef):=t5.rep 4;simp only[aD]at r4;have e4:=r4.2 (by rw[h2];simp);have nn:∀{i},(aA V0 (xP (((labels d).length:Nat):Int) (0:Int) d ([]:Pm) (labels d))).heap.get i≠none→(aA VE (xE d)).heap.get i≠none:=fun {i} hi=>by obtain⟨o,ho⟩:=abP.1 hi;rw[sub i o ho];simp
  refine⟨Ra 31002,Z5,Ra,wk5,g5.sub sub,fK (fun p hp=>?_) t5.size t5.defers,⟨ho,fun v hv=>(by cases hv),fun j k v u b h1=>(by simp at h1),fun v hv=>(by cases hv)⟩,fun b hb=>?_,fun b hb=>?_,e4⟩
  ·have hp:p∈[(11,AV.int .i64 (((labels d).length:Nat):Int)),(12,AV.int .i64 (0:Int)),(1,AV.ref 20001 0 0 0),(3,AV.bO 31000),(10,AV.bO 31001)]:=hp;simp only[List.mem_cons,List.not_mem_nil,or_false]at hp;rcases hp with rfl|rfl|rfl|rfl|rfl
   ·exact t5.rep 11
   ·exact t5.rep 12
   ·exact Kp (fun _ h=>h) (t5.rep 1) fun hi=>⟨nn hi,rfl⟩
   ·exact Dg (t5.rep 3) fun hi=>⟨nn hi,rfl⟩
   ·exact Dg (t5.rep 10) fun hi=>⟨nn hi,rfl⟩
  ·rcases hb with hb|⟨v,hv,_⟩
   ·have hl:=g5.live 31002 b (by rw[h2];simp) hb;refine⟨ho.lt hb,hl.1,fun⟨i,k1,k2⟩=>?_⟩;have:=g5.apart i 31002 b (nn k1) (by rw[h2];simp) k2 hb;subst this;exact k1 ta
   ·cases hv
  ·rcases hb with hb|⟨v,hv,_⟩
   ·exact(g5.live 31002 b (by rw[h2];simp) hb).2.elim (fun h=>h) fun h=>h.elim
   ·cases hv
 rw[hlen]at start;refine wpIn_block ?_;refine Kr (fun k a W=>∃(i:Nat) (p:Pm) (vs:List Value) (q:Nat),i≤d.1.length∧k=d.1.length-i∧q≤i∧Pl (labels d) i p∧vs.length=nf (labels d) i∧Pt Z w V0 (xP ((d.1.length:Nat):Int) (i:Int) d p (labels d)) vs q a W) (k:=d.1.length) ⟨0,[],[],0,ac6 _,rfl,abX _,fun r hr=>by omega,rfl,start⟩ ?_;rintro k a W ⟨i,p,vs,q,hi,rfl,hq,hp,hv,s⟩;refine wpIn_seq (wpIn_mono (PE (m4 F1 ((d.1.length:Nat):Int) (i:Int) _) 5 s) ?_);rintro e a1 W1 ⟨rfl,s1⟩;have YI:=Rk s1 (i:=13) rfl;by_cases aG:i<d.1.length
 case neg =>
  have e:i=d.1.length:=by omega
  have ef:decide ((i:Int)<((d.1.length:Nat):Int))=false:=decide_eq_false (by omega);rw[ef]at YI;refine wpIn_seq (wpIn_cond_false YI (wpIn_exit ?_));show Code.wpIn _ _ _ _ _ _ _;refine wpIn_seq (wpIn_mono (aaA 5 s1) ?_);rintro e a2 W2 ⟨rfl,hd,⟨A,c,h2⟩,gw⟩;refine wpIn_ret ?_;have Cz:Tryz.f225.results=#[.tmp 2]:=by kernel_rfl
  refine⟨hd,_,results_tmp Cz _ _ _,⟨A,c,?_⟩,gw⟩;rw[h2,hv,←‹i=d.1.length›]
 have et:decide ((i:Int)<((d.1.length:Nat):Int))=true:=aJ aG;refine wpIn_seq (wpIn_cond_true (YI.trans (congrArg Value.bool et)) (wpIn_skip ?_));refine wpIn_seq (wpIn_block (wpIn_mono (XT 5 wf aG hp hv hq s1) ?_));rintro e a2 W2 ⟨rfl,p',jt,UH,CR,s2⟩;have ND:=wf.nv;refine wpIn_mono (PE (m11 F1 ((d.1.length:Nat):Int) (i:Int) _) 5 s2) ?_;rintro e a3 W3 ⟨rfl,s3⟩;have ew:=aB aG (show d.1.length≤1073741824 by omega);rw[ew]at s3;exact⟨d.1.length-(i+1),by omega,i+1,p',jt,q+1,by omega,rfl,by omega,UH,CR,s3⟩
theorem XU{d:ar}(wf:Wf d):((nf (labels d) d.1.length:Nat):Int)=fM d:=by
 grind [vK,ov,nf,List.length_map]
theorem aea{P:Program}{ρC:Operand→Value}{o:Oper}{t:TypeId}{x:Operand}(h:o.op=.box t x):(execOp ρC o).run P w=.ok (.value (.pointer (some ⟨w.heap.size,0,none⟩))) (w.alloc (.cells (ρC x).cells t)):=by unfold execOp;rw[h];rfl
theorem aaC{P:Program}{ops:Array Oper}{Q:Exit→Act→World→Prop}{i:Nat}{rest:List Nat}{o:Oper}{f:FuncId}{x:Operand}{t:TypeId}{v0:Value}(ho:ops[i]? = some o)(hg:o.guard=none) (P9:o.op=.call { callee:=.value (.func f),args:=#[x],argTypes:=#[t] }) (hx:a.eval x=v0) (hf:kb P f) (hc:Calls P f #[v0] w fun e w'=>∃v,e=.returned v∧wpOps P ops Q rest (a.put o.dst v) w'):wpOps P ops Q (i::rest) a w:=by
 rw[wpOps_cons];unfold wpOp;simp only[ho,nj hg,if_true];refine .inl ?_;unfold Oper.wp;have e:(execOp a.eval o).run P w=.ok (.enter f #[v0]) w:=by
  unfold execOp;rw[P9];show((do let d ←Deferred.ofValue (.func (.func f) #[] #[]) ((#[x]:Array Operand).map a.eval);invoke d.target d.args:Sem Go.Next)).run _ _=_;have hm:(#[x]:Array Operand).map a.eval=#[v0]:=by simp[hx]
  rw[hm];show(callFunc f (#[v0]++#[])).run P w=_
  grind [mE]
 rw[e,Oper.upon_enter];refine hc.mono fun en w' ⟨v,h1,h2⟩=>?_;simp_all
noncomputable abbrev r7(i:Nat):Code:=rg Tryz.f208 i
theorem aaD:Tryz.f208.body=some (.seq (r7 0) (.seq (r7 1) .ret)):=by kernel_rfl
theorem aeb:r7 0=.region 0 (opsOf (r7 0)) false:=by kernel_rfl
theorem aec:r7 1=.region 1 (opsOf (r7 1)) false:=by kernel_rfl
noncomputable def o7(r i:Nat):Oper:=((opsOf (r7 r))[i]?).getD { dst:=none,op:=.move (.tmp 0),type:=0,pos:= "",after:=#[],guard:=none }
theorem an0:(o7 1 1).op=.call { callee:=.value (.func 225),args:=#[.tmp 3],argTypes:=#[27] }:=by kernel_rfl
theorem an1:(opsOf (r7 1))[1]? = some (o7 1 1):=by kernel_rfl
theorem an2:(o7 1 1).guard=none:=by kernel_rfl
theorem an3:kb Tryz.prog 225:=mL 225 abo (by kernel_rfl)
theorem TM{d:ar}(wf:Wf d):HM Tryz.prog 208 B9 ((d,()),()) ((fM d,()),()):=by
 intro Z ψ0 w lJ hg hr;have hr:az Z ψ0 (Heap.get []) w [cp dX d] lJ:=hr;have hg:Good Z ψ0 (Heap.get []) w w.heap.size (Own ψ0 (Heap.get [])):=hg;have F4:∀b,¬Own ψ0 (Heap.get []) b:=fun b ⟨i,h1,_⟩=>h1 rfl;simp only[az]at hr;obtain⟨u0,_,rfl,hu,rfl⟩:=hr;refine zM (r:=none) (n:=5) (callsIn_of_wp Tryz.func208 aaD trivial ?_ rfl);obtain⟨G8,QZ⟩:∃t:Array Value,t=[u0].toArray++Array.replicate (Tryz.f208.ntmps-([u0].toArray:Array Value).size) undef:=⟨_,rfl⟩;rw[←QZ];have hnt:Tryz.f208.ntmps=6:=by kernel_rfl
 have hs0:G8.size=6:=by simp_all
 have e0:G8.getD 0 undef=u0:=by rw[QZ];simp
 show Code.wpIn Fence.wide 5 Tryz.prog _ _ _ w;refine wpIn_wide.2 (wp_seq ?_);rw[aeb];refine wp_region ?_;rw[show(opsOf (r7 0)).size=2 by kernel_rfl,show List.range 2=[0,1] from rfl];refine dy (o:=o7 0 0) (by kernel_rfl) (by kernel_rfl) (aea (t:=27) (x:=.tmp 0) (by kernel_rfl)) ?_;rw[show(o7 0 0).dst=some 1 by kernel_rfl];have ev0:({ tmps:=G8,defers:=[] }:Act).eval (.tmp 0)=u0:=e0;rw[ev0];obtain⟨a1,Ua⟩:∃a1,a1=({ tmps:=G8,defers:=[] }:Act).put (some 1) (.pointer (some ⟨w.heap.size,0,none⟩)):=⟨_,rfl⟩;rw[←Ua];have NJ:a1.tmps.size=6:=by grind [cY]
 have WX:a1.defers=[]:=by rw[Ua,put_defers]
 have e1:a1.eval (.tmp 1)=.pointer (some ⟨w.heap.size,0,none⟩):=by grind [eu]
 refine dy (o:=o7 0 1) (by kernel_rfl) (by kernel_rfl) (vM (x:=.const (.int .i64 0)) (by kernel_rfl)) ?_;rw[show(o7 0 1).dst=some 2 by kernel_rfl];obtain⟨a2,Ub⟩:∃a2,a2=a1.put (some 2) (a1.eval (.const (.int .i64 0))):=⟨_,rfl⟩;rw[←Ub];have R7:a2.tmps.size=6:=by grind [cY]
 have hd2:a2.defers=[]:=by grind [put_defers]
 have e1':a2.eval (.tmp 1)=.pointer (some ⟨w.heap.size,0,none⟩):=by grind [pw]
 show Code.wp _ _ _ a2 _;refine wp_seq ?_;rw[aec];refine wp_region ?_;rw[show(opsOf (r7 1)).size=4 by kernel_rfl,show List.range 4=[0,1,2,3] from rfl];obtain⟨w1,Qa⟩:∃x,x=w.alloc (.cells u0.cells 27):=⟨_,rfl⟩;rw[←Qa];have gw1:Gw (fun _=>False) w w1:=by grind [Gw.alloc]
 have hu':∃us:Array Value,u0=.agg us∧az Z ψ0 (Heap.get []) w (enc dX d) us.toList:=by
  have:aD Z ψ0 (Heap.get []) w (.agg (enc dX d)) u0:=hu
  grind [aD]
 obtain⟨us,rfl,hus⟩:=hu';have sm1:cG Z w w1:=fun b hb=>gw1.block b (hg.kO b hb) fun h=>h;have an5:az Z ψ0 (Heap.get []) w1 (enc dX d) us.toList:=hus.less (fun _ h=>h) sm1 fun i hi=>⟨hi,rfl⟩;have g1:Good Z ψ0 (Heap.get []) w1 w1.heap.size Gy:=(hg.same (fun _ h=>h) (fun b hb=>hb.elim (fun h=>sm1 b h) fun h=>(F4 b h).elim) (fun b hb=>(F4 b hb).elim) (fun b hb=>adf (hg.kO b hb) gw1.size)).Xz fun b hb _=>(F4 b hb).elim;have hbk:w1.heap[w.heap.size]? = some (.cells us 27 (0,0)):=by rw[Qa];exact TI _ _
 obtain⟨V,hV,rV⟩:=kP (P:=Tryz.prog) (w:=w1) (t:=27) (a:=⟨w.heap.size,0,none⟩) (x:=cp dX d) an5 (fun j u hu=>by simp_all [cF,Nat.zero_add,World.cell?]) (by kernel_rfl);refine dy (o:=o7 1 0) (by kernel_rfl) (by kernel_rfl) (Dh (t:=27) (x:=.tmp 1) (by kernel_rfl) (by rw[e1'];exact hV)) ?_;rw[show(o7 1 0).dst=some 3 by kernel_rfl];obtain⟨a3,YY⟩:∃a3,a3=a2.put (some 3) V:=⟨_,rfl⟩;rw[←YY];have T7:a3.tmps.size=6:=by grind [cY]
 have hd3:a3.defers=[]:=by grind [put_defers]
 have e3:a3.eval (.tmp 3)=V:=by grind [eu]
 refine aaC (o:=o7 1 1) (f:=225) (x:=.tmp 3) (t:=27) an1 an2 an0 e3 an3 ((aaB wf g1 rV).mono ?_);rintro e w2 ⟨⟨A,c,rfl⟩,gw2⟩;refine⟨_,rfl,?_⟩;rw[show(o7 1 1).dst=some 4 by kernel_rfl];obtain⟨a4,ha4⟩:∃a4,a4=a3.put (some 4) (.slice A (nf (labels d) d.1.length) c):=⟨_,rfl⟩;rw[←ha4];have hs4:a4.tmps.size=6:=by grind [cY]
 have hd4:a4.defers=[]:=by grind [put_defers]
 have e4:a4.eval (.tmp 4)=.slice A (nf (labels d) d.1.length) c:=by grind [eu]
 refine dy (o:=o7 1 2) (by kernel_rfl) (by kernel_rfl) (XL (t:=235) (e:=163) (x:=.tmp 4) (by kernel_rfl) Ng e4) ?_;rw[show(o7 1 2).dst=some 5 by kernel_rfl];obtain⟨a5,ha5⟩:∃a5,a5=a4.put (some 5) (.int .i64 ((nf (labels d) d.1.length:Nat):Int)):=⟨_,rfl⟩;rw[←ha5];have hs5:a5.tmps.size=6:=by grind [cY]
 have hd5:a5.defers=[]:=by grind [put_defers]
 have e5:a5.eval (.tmp 5)=.int .i64 ((nf (labels d) d.1.length:Nat):Int):=by grind [eu]
 refine dy (o:=o7 1 3) (by kernel_rfl) (by kernel_rfl) (vM (x:=.tmp 5) (by kernel_rfl)) ?_;rw[show(o7 1 3).dst=some 2 by kernel_rfl,e5];show Code.wp _ _ _ _ _;have Cz:Tryz.f208.results=#[.tmp 2]:=by kernel_rfl
 refine wp_ret ?_;have gw:=gw1.trans gw2;have sm:cG Z w w2:=fun b hb=>gw.block b (hg.kO b hb) fun h=>h;refine⟨by grind [put_defers],_,results_tmp Cz _ _ _,_,Z,ψ0,rfl,fun _ h=>h,fun b hb=>.inl hb,⟨gw.os,gw.tape,gw.output,gw.size,fun b hb _=>gw.block b hb fun h=>h⟩,?_,fun i hi=>(by cases hi),?_⟩
 ·exact(hg.same (fun _ h=>h) (fun b hb=>hb.elim (fun h=>sm b h) fun h=>(F4 b h).elim) (fun b hb=>(F4 b hb).elim) (fun b hb=>adf (hg.kO b hb) gw.size):Good Z ψ0 (Heap.get []) w2 w.heap.size (Own ψ0 (Heap.get [])))
 ·show aD Z ψ0 (Heap.get []) w2 (.int .i64 (fM d)) _;simp only[aD];rw[jm (by omega),if_pos rfl,XU wf]
end Go.Vs
namespace Go.Vs
open Go.Proofs Go.Cy
open Classical in
noncomputable def gvF:B8.A→Option B8.B:=fun(x:(ar×Unit)×Unit)=>if Wf x.1.1 then some ((cv x.1.1,()),()) else none
open Classical in
noncomputable def gvC:B9.A→Option B9.B:=fun(x:(ar×Unit)×Unit)=>if Wf x.1.1 then some ((fM x.1.1,()),()) else none
open Classical in
noncomputable def GP:(f:FuncId)→(g:aO)→Option (g.A→Option g.B):=fun f g =>if h:f=207∧g=B8 then some (h.2▸gvF)
 else if h:f=208∧g=B9 then some (h.2▸gvC)
 else none
theorem hgP:HG GP:=fun f g h=>by
 unfold GP;rw[dif_neg,dif_neg]
 ·rintro⟨rfl,_⟩;cases h
 ·rintro⟨rfl,_⟩;cases h
theorem aiC:GP 207 B8=some gvF:=by unfold GP;rw[dif_pos ⟨rfl,rfl⟩]
theorem aiD:GP 208 B9=some gvC:=by unfold GP;rw[dif_neg (by rintro⟨h,_⟩;cases h),dif_pos ⟨rfl,rfl⟩]
open Classical in
theorem pg:PG GP where
 h:=hgP
 f:=fun d hd=>HX aiC (by show(if Wf d then some ((cv d,()),()) else none)=_;rw[if_pos hd];rfl)
 c:=fun d hd=>HX aiD (by show(if Wf d then some ((fM d,()),()) else none)=_;rw[if_pos hd];rfl)
open Classical in
theorem aed{f:FuncId}{g:aO}{x:g.A}{y:g.B}(hs:Sg f=some g)(h:FX GP f g x=some y):HM Tryz.prog f g x y:=by
 refine C3 Wz Fg mL vx (fun f g u x y _ hu hy=>?_) hs h;unfold GP at hu
 split at hu
 ·rename_i h;obtain⟨rfl,rfl⟩:=h
  cases hu
  obtain⟨⟨d,⟨⟩⟩,⟨⟩⟩:=x;have hy:(if Wf d then some ((cv d,()),()) else none)=some y:=hy
  split at hy
  ·rename_i hw
   cases hy
   exact TH hw
  ·cases hy
 ·split at hu
  ·rename_i h;obtain⟨rfl,rfl⟩:=h
   cases hu
   obtain⟨⟨d,⟨⟩⟩,⟨⟩⟩:=x;have hy:(if Wf d then some ((fM d,()),()) else none)=some y:=hy
   split at hy
   ·rename_i hw
    cases hy
    exact TM hw
   ·cases hy
  ·cases hu
theorem ab1:jM GP:=aaj pg
theorem aiE(o:bP):kq GP o:=aad hgP ab1 o
end Go.Vs
