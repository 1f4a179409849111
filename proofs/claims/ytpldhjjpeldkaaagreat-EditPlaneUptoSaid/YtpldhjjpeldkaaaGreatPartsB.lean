/- The walk of the function that tells parts, by hand: the function; what is given by it. -/
import Derived.Test.YtpldhjjpeldkaaaGreatPartsA
import Derived.Test.YtpldhjjpeldkaaaGreatPlanar
set_option linter.unusedSimpArgs false
set_option linter.unusedVariables false
namespace Go.Vs
open Go.Proofs
variable {Z Z' Z0:Nat→Prop} {ψ ψ' ψ0:Nat→Value} {h h':Hp} {w w' w0 W W' W1 W2 W3 Wd:World} {B0:Nat} {O N:Nat→Prop}
variable {a:Act} {lv:Value} {vs:List Value} {q:Nat}
theorem wV(i:Nat):(Array.replicate 16 false).getD i false=false:=by
 rw [Array.getD_eq_getD_getElem?,Array.getElem?_replicate]
 by_cases h:i<16<;>simp [h]
theorem add_one(n:Nat){k i:Nat}{c j:Int}{d:ai}{p:Pm}{L:List Int}(s:Pt Z0 w0 V4 (((k:Int),((i:Int),(c,(j,())))),(((d,()),()),(p,(L,())))) vs q a W)(hk:k<vs.length)(hi:i<d.1.length)(hq:q+1≤fm) :
  (r3 10).wpIn (FW none) n Tryz.prog (fun e a' W'=>e=.normal∧∃v',Pt Z0 w0 V0 ((c,(j,())),(((d,()),()),(p,(L,())))) (vs.set k v') (q+1) a' W') a W:=by
 obtain ⟨lv,Z,ψ,s⟩:=s
 have Xs:vs[k]? = some vs[k]:=List.getElem?_eq_getElem hk
 obtain ⟨Wd,hWd⟩:∃x,x={ W with drawn:=W.drawn+1 }:=⟨_,rfl⟩
 have gd:∀{L:Nat→Prop},Gw L W Wd:=fun {L}=>by rw [hWd];exact Gw.drawn W
 have eY:Wd.heap=W.heap:=by rw [hWd]
 have jd:Jr Wd lv vs q:=s.j.sub (L:=fun _=>False) gd fun _ _ h=>h
 obtain ⟨g,xp⟩:=aaN jd Xs
 have gdd:Good Z ψ (ar V4 (((k:Int),((i:Int),(c,(j,())))),(((d,()),()),(p,(L,()))))).heap.get Wd w0.heap.size B7:=s.g.same (fun _ h=>h) (fun b _=>by rw [eY]) (fun b hb hz=>(s.g.zA b hz).2 hb) fun b hb=>by rw [eY];exact s.g.jw b hb
 have r1:av Z ψ (ar V4 (((k:Int),((i:Int),(c,(j,())))),(((d,()),()),(p,(L,()))))).heap.get Wd (.ref 20001 0 0 0) (a.tmps.getD 1 undef):=(s.t.rep 1).less (fun _ h=>h) (fun b _=>by rw [eY]) fun i hi=>⟨hi,rfl⟩
 obtain ⟨pD,DQ,pE,pF,yX,rd⟩:=S8 gdd rfl r1 hi
 obtain ⟨ie,z,he⟩:=aaL
 have agi:=HS Wd Uo he yX rd.sz (.inr rfl)
 obtain ⟨v',W2,agj,zG,gw2,jy⟩:=Wp jd Xs hq rd.sz rd.one (o3 10 13).type
 obtain ⟨W3,tP,j3,gw3,hX⟩:=Wq jd Xs xp gw2 zG jy
 have agl:g<Wd.heap.size:=jd.o.lt xp.b
 have r7:a.tmps.getD 7 undef=.int .i64 (k:Int):=by
  have:av Z ψ (ar V4 (((k:Int),((i:Int),(c,(j,())))),(((d,()),()),(p,(L,()))))).heap.get W (.int .i64 (k:Int)) (a.tmps.getD 7 undef):=s.t.rep 7
  simpa only [av] using this
 have r5:a.tmps.getD 5 undef=.int .i64 (i:Int):=by
  have:av Z ψ (ar V4 (((k:Int),((i:Int),(c,(j,())))),(((d,()),()),(p,(L,()))))).heap.get W (.int .i64 (i:Int)) (a.tmps.getD 5 undef):=s.t.rep 5
  simpa only [av] using this
 have D:Dw Wd (Wd.alloc (.cells yX.cells 30)) W2 W3 a lv k i vs[k] g pD DQ pE pF yX (.slice (some ⟨Wd.heap.size,0,none⟩) 1 1) v' :=
  ⟨s.lv,r7,r5,xp.ix,xp.ld _ rfl,xp.ld _ (heap_alloc_old _ _ agl),rd,agi,agj,tP⟩
 rw [Ta]
 show Code.wpIn Fence.wide n Tryz.prog _ _ a W
 refine wpIn_wide.2 (wp_region_any (by kernel_rfl) ?_)
 rw [←hWd,show (opsOf (r3 10)).size=16 from Ff]
 have ir:=s.t.size
 refine K7 (I:=Iw a (xZ lv k i vs[k] g pD DQ pE pF yX (.slice (some ⟨Wd.heap.size,0,none⟩) 1 1) v') Wd (Wd.alloc (.cells yX.cells 30)) W2 W3) (MZ D _) (fun L a' w' I hr => ?_) 16 (Array.replicate 16 false) a Wd (by decide) ⟨by simp,fun i e h _ => ?_,fun i _ h => ?_,fun _ _=>rfl,ir,s.t.defers,?_⟩
 ·have h15:L.getD 15 false=true:=by
   have:=QK hr 16 15 (by omega) (by omega)
   rw [Array.getD_eq_getD_getElem?,Array.getElem?_eq_getElem (by rw [I.n];omega)] at this ⊢
   simpa using this
  have hw:w'=W3:=by rw [I.w];unfold Lb;rw [h15];rfl
  subst hw
  refine ⟨rfl,v',?_⟩
  have s2:=La (a1:=a') s (gd.trans gw3) j3 (fun b hb=>by have:=hX b hb;rwa [eY] at this) ((I.dr 4 (by omega)).trans s.lv) I.sz I.df (fun r hr => ?_) (fun r hr => ?_)
  ·refine K9 ⟨lv,Z,ψ,s2⟩ rfl fun r hr => ?_
   have hr:r∈[(11,AV.int .i64 c),(12,AV.int .i64 j),(1,AV.ref 20001 0 0 0),(3,AV.bC 31000),(10,AV.bC 31001)]:=hr
   simp only [List.mem_cons,List.not_mem_nil,or_false] at hr
   rcases hr with rfl | rfl | rfl | rfl | rfl<;>rfl
  ·have hr:r∈[(7,AV.int .i64 (k:Int)),(5,AV.int .i64 (i:Int)),(11,AV.int .i64 c),(12,AV.int .i64 j),(1,AV.ref 20001 0 0 0),(3,AV.bC 31000),(10,AV.bC 31001)]:=hr
   simp only [List.mem_cons,List.not_mem_nil,or_false] at hr
   rcases hr with rfl | rfl | rfl | rfl | rfl | rfl | rfl<;>exact I.dr _ (by omega)
  ·have hr:r∈[(7,AV.int .i64 (k:Int)),(5,AV.int .i64 (i:Int)),(11,AV.int .i64 c),(12,AV.int .i64 j),(1,AV.ref 20001 0 0 0),(3,AV.bC 31000),(10,AV.bC 31001)]:=hr
   simp only [List.mem_cons,List.not_mem_nil,or_false] at hr
   rcases hr with rfl | rfl | rfl | rfl | rfl | rfl | rfl<;>rfl
 ·rw [wV] at h;cases h
 ·rw [wV] at h;cases h
 ·unfold Lb;simp [wV]
end Go.Vs
namespace Go.Vs
open Go.Proofs Go.Cy
variable {Z Z' Z0:Nat→Prop} {ψ ψ' ψ0:Nat→Value} {h h':Hp} {w w' w0 W W' W1 W2 W3 Wd:World} {B0:Nat} {O N:Nat→Prop}
variable {a:Act} {lv:Value} {vs:List Value} {q:Nat}
theorem QN{α:Type}(x:Int)(es:List (Int×α)):sI (.int .i64) x es=es.findIdx? fun e=>decide (e.1=x):=by
 show List.findIdx? (fun e:Int×α=>x==e.1) es=_
 congr 1
 funext e
 by_cases h:x=e.1
 ·rw [decide_eq_true h.symm];exact beq_iff_eq.2 h
 ·rw [decide_eq_false (fun k=>h k.symm)];exact beq_eq_false_iff_ne.2 h
theorem WC{α:Type}(x:Int)(es:List (Int×α)):iL (.int .i64) x es=fg x es:=by
 have:=JN x es
 rw [←QN] at this
 exact this
theorem J2{α:Type}(x z:Int)(v:α)(es:List (Int×α)):fg z (lQ (.int .i64) x v es)=if x=z then some v else fg z es:=by
 have e:=QN x es
 unfold lQ
 split
 ·rename_i i hi;exact wT (e.symm.trans hi)
 ·rename_i hi;exact wU (e.symm.trans hi)
theorem WD{d:ai}(hw:Wf d){i:Nat}(hi:i<d.1.length):∃r:Nat,r≤i∧(labels d).getD i 0=(r:Int)∧(labels d).getD r 0=(r:Int):=by
 have h:=dV hw
 obtain ⟨r,h1,h2,h3⟩:=h.l.i i hi
 obtain ⟨s,k1,k2,k3⟩:=h.l.i r (by omega)
 have:=h.r i hi s (by omega) (h3.trans k3)
 refine ⟨r,h1,h2,?_⟩
 rw [k2];congr 1;omega
def nf(L:List Int)(i:Nat):Nat:=((List.range i).filter fun j=>decide (L.getD j 0=(j:Int))).length
theorem Ld(L:List Int)(i:Nat):nf L (i+1)=nf L i+if L.getD i 0=(i:Int) then 1 else 0:=by
 unfold nf
 rw [List.range_succ,List.filter_append,List.length_append]
 congr 1
 by_cases h:L.getD i 0=(i:Int)
 ·rw [if_pos h,List.filter_cons_of_pos (by simpa using h)];rfl
 ·rw [if_neg h,List.filter_cons_of_neg (by simpa using h)];rfl
theorem aa5(L:List Int)(i:Nat):nf L i≤i:=by
 unfold nf
 have:=List.length_filter_le (fun j:Nat=>decide (L.getD j 0=(j:Int))) (List.range i)
 simpa using this
def Pl(L:List Int)(i:Nat)(p:Pm):Prop:=∀r:Nat,r<i→L.getD r 0=(r:Int)→∃k:Nat,k<nf L i∧fg (r:Int) p=some (k:Int)
abbrev xP(n i:Int)(d:ai)(p:Pm)(L:List Int):V0.T:=((n,(i,())),(((d,()),()),(p,(L,()))))
theorem Le{sh:Shape}{x:sh.T}(s:Pt Z0 w0 sh x vs q a W){i:Nat}{b:Bool}(e:look (ar sh x).tmps i=.bool b):a.eval (.tmp i)=.bool b:=by
 obtain ⟨lv,Z,ψ,s⟩:=s
 have:=s.t.rep i
 rw [e] at this
 exact this
theorem Td:r3 12=.region 12 (opsOf (r3 12)) false:=by kernel_rfl
theorem QO(n:Nat){d:ai}(wf:Wf d){i:Nat}{p:Pm}{b:Bool}(hi:i<d.1.length)(hp:Pl (labels d) i p)(hv:vs.length=nf (labels d) i)(hq:q≤i)
  (s:Pt Z0 w0 V1 ((b,(((d.1.length:Nat):Int),((i:Int),()))),(((d,()),()),(p,(labels d,())))) vs q a W) :
  cB3.wpIn (FW none) n Tryz.prog (fun e a' W'=>e=.normal∧∃p' gK,Pl (labels d) (i+1) p'∧gK.length=nf (labels d) (i+1)∧Pt Z0 w0 V0 (xP ((d.1.length:Nat):Int) (i:Int) d p' (labels d)) gK (q+1) a' W') a W:=by
 have hn:=wf.nv
 have hlen:=(dV wf).l.n
 have hli:i<(labels d).length:=by omega
 obtain ⟨r,Xg,H5,hr3⟩:=WD wf hi
 have mK:(labels d)[i]? = some (r:Int):=by
  rw [List.getElem?_eq_getElem hli]
  have:(labels d).getD i 0=(labels d)[i]:=by simp [List.getD,hli]
  rw [←this,H5]
 have h5:=(m5 F1 b ((d.1.length:Nat):Int) (i:Int) d p (labels d)).trans (af (dM (jf i) (ba hli)) (aa (a:=(r:Int)) (by rw [Int.toNat_natCast];exact mK) rfl))
 have akg:=aa5 (labels d) i
 refine wpIn_seq (wpIn_mono (S4 h5 n s) ?_)
 rintro e a1 W1 ⟨rfl,hc⟩
 refine wpIn_seq (wpIn_seq (wpIn_mono hc ?_))
 rintro e a2 W2 ⟨rfl,s2⟩
 have Xo:=Le s2 (i:=19) rfl
 have drop:=K9 (sh':=V3) (y:=(((i:Int),((r:Int),(((d.1.length:Nat):Int),((i:Int),())))),(((d,()),()),(p,(labels d,()))))) s2 rfl fun t ht=>by
  have ht:t∈[(5,AV.int .i64 (i:Int)),(6,AV.int .i64 (r:Int)),(11,AV.int .i64 ((d.1.length:Nat):Int)),(12,AV.int .i64 (i:Int)),(1,AV.ref 20001 0 0 0),(3,AV.bC 31000),(10,AV.bC 31001)]:=ht
  simp only [List.mem_cons,List.not_mem_nil,or_false] at ht
  rcases ht with rfl | rfl | rfl | rfl | rfl | rfl | rfl<;>rfl
 have rest:∀(p':Pm) (gK:List Value) (a':Act) (W':World),Pl (labels d) (i+1) p'→gK.length=nf (labels d) (i+1)→Pt Z0 w0 V3 (((i:Int),((r:Int),(((d.1.length:Nat):Int),((i:Int),())))),(((d,()),()),(p',(labels d,())))) gK q a' W' →
   (Code.seq (r3 9) (r3 10)).wpIn (FW none) n Tryz.prog (fun e a' W'=>e=.normal∧∃p' gK,Pl (labels d) (i+1) p'∧gK.length=nf (labels d) (i+1)∧Pt Z0 w0 V0 (xP ((d.1.length:Nat):Int) (i:Int) d p' (labels d)) gK (q+1) a' W') a' W':=by
  intro p' gK a' W' NT zG s'
  obtain ⟨k,Is,mW⟩:=NT r (by omega) hr3
  have h9:=m9 F1 ((d.1.length:Nat):Int) (i:Int) (r:Int) (i:Int) d p' (labels d)
  rw [WC,mW] at h9
  refine wpIn_seq (wpIn_mono (JZ h9 n s') ?_)
  rintro e a3 W3 ⟨rfl,s3⟩
  refine wpIn_mono (add_one n s3 (by omega) hi (by unfold fm;omega)) ?_
  rintro e a4 W4 ⟨rfl,v',s4⟩
  exact ⟨rfl,p',gK.set k v',NT,by rw [List.length_set];exact zG,s4⟩
 by_cases hri:r=i
 ·subst hri
  have ht:a2.eval (.tmp 19)=.bool true:=Xo.trans (by simp)
  refine wpIn_cond_true ht (wpIn_seq (wpIn_mono (S6 n drop) ?_))
  rintro e a3 W3 ⟨rfl,s3⟩
  refine wpIn_mono (S5 n (by unfold fm;omega) s3 fun t ht => ?_) ?_
  ·have ht:t∈[(5,AV.int .i64 (r:Int)),(6,AV.int .i64 (r:Int)),(11,AV.int .i64 ((d.1.length:Nat):Int)),(12,AV.int .i64 (r:Int)),(1,AV.ref 20001 0 0 0),(3,AV.bC 31000),(10,AV.bC 31001)]:=ht
   simp only [List.mem_cons,List.not_mem_nil,or_false] at ht
   rcases ht with rfl | rfl | rfl | rfl | rfl | rfl | rfl<;>exact ⟨rfl,by simp⟩
  rintro e a4 W4 ⟨rfl,s4⟩
  have h1:nf (labels d) (r+1)=nf (labels d) r+1:=by rw [Ld,if_pos hr3]
  refine rest _ _ a4 W4 (fun z xg BY => ?_) (by rw [List.length_append,hv,h1];rfl) s4
  have gp:=J2 (r:Int) (z:Int) ((vs.length:Nat):Int) p
  by_cases hz:r=z
  ·subst hz;exact ⟨nf (labels d) r,by omega,gp.trans (by rw [if_pos rfl,hv])⟩
  ·obtain ⟨k,k1,k2⟩:=hp z (by omega) BY
   refine ⟨k,by omega,?_⟩
   exact gp.trans (by rw [if_neg (by omega),k2])
 ·have ht:a2.eval (.tmp 19)=.bool false:=Xo.trans (by
   have:((r:Int)==(i:Int))=false:=by simp;omega
   rw [this])
  refine wpIn_cond_false ht (wpIn_skip ?_)
  have h1:nf (labels d) (i+1)=nf (labels d) i:=by rw [Ld,if_neg (by rw [H5];omega)];rfl
  refine rest p vs a2 W2 (fun z xg BY => ?_) (by rw [h1];exact hv) drop
  rw [h1]
  exact hp z (by
   rcases Nat.lt_or_ge z i with h | h
   ·exact h
   ·exfalso
    have:z=i:=by omega
    subst this
    rw [H5] at BY;omega) BY
end Go.Vs
namespace Go.Vs
open Go.Proofs Go.Cy
variable {Z Z' Z0:Nat→Prop} {ψ ψ' ψ0:Nat→Value} {h h':Hp} {w w' w0 W W' W1 W2 W3 Wd:World} {B0:Nat} {O N:Nat→Prop}
variable {a:Act} {lv:Value} {vs:List Value} {q:Nat}
noncomputable abbrev xE(d:ai):VE.T:=(((((labels d).length:Nat):Int),((0:Int),())),(((d,()),()),(([]:Pm),(labels d,(([]:List (List ID)),())))))
theorem agn:(o3 12 0).op=.move (.tmp 4):=by kernel_rfl
theorem ago:(o3 12 1).op=.assign (.tmp 46):=by kernel_rfl
theorem Te(n:Nat){sh:Shape}{x:sh.T}(s:Pt Z0 w0 sh x vs q a W):(r3 12).wpIn (FW none) n Tryz.prog (fun e a' W'=>e=.normal∧a'.defers=[]∧(∃A c,a'.tmps.getD 2 undef=.slice A vs.length c)∧Gw (fun _=>False) w0 W') a W:=by
 obtain ⟨lv,Z,ψ,s⟩:=s
 obtain ⟨A,cap,Rx⟩:=s.j.o.slice
 rw [Td]
 show Code.wpIn Fence.wide n Tryz.prog _ _ a W
 refine wpIn_wide.2 (wp_region ?_)
 have hs:(opsOf (r3 12)).size=2:=by kernel_rfl
 have g0:(opsOf (r3 12))[0]? = some (o3 12 0):=by kernel_rfl
 have g1:(opsOf (r3 12))[1]? = some (o3 12 1):=by kernel_rfl
 have d0:(o3 12 0).dst=some 46:=by kernel_rfl
 have d1:(o3 12 1).dst=some 2:=by kernel_rfl
 have ir:=s.t.size
 rw [hs,show List.range 2=[0,1] from rfl]
 refine cQ g0 (by kernel_rfl) (jU agn) ?_
 rw [d0]
 refine cQ g1 (by kernel_rfl) (rI ago) ?_
 rw [d1,dq (by omega)]
 refine ⟨rfl,by rw [put_defers,put_defers];exact s.t.defers,⟨A,cap,?_⟩,s.wk.os,s.wk.tape,s.wk.output,s.wk.size,fun b hb _=>s.wk.block b hb fun h=>h⟩
 rw [gO (by rw [cq];omega),if_pos rfl,←Rx]
 exact s.lv
theorem Tf{d:ai}(wf:Wf d){u0:Value}{O:Nat→Prop}(hg:Good Z ψ0 (Heap.get []) w w.heap.size O)(hu:av Z ψ0 (Heap.get []) w (cg cX d) u0) :
  Calls Tryz.prog 173 #[u0] w fun e w'=>(∃A c,e=.returned (.slice A (nf (labels d) d.1.length) c))∧Gw (fun _=>False) w w':=by
 have BU:∀b,¬Own ψ0 (Heap.get []) b:=fun b ⟨i,h1,_⟩=>h1 rfl
 refine u4 (r:=none) (n:=5) (callsIn_of_wp Tryz.func173 SZ trivial ?_ rfl)
 obtain ⟨yU,HO⟩:∃t:Array Value,t=#[u0]++Array.replicate (Tryz.f173.ntmps - (#[u0]:Array Value).size) undef:=⟨_,rfl⟩
 rw [←HO]
 have hnt:Tryz.f173.ntmps=47:=by kernel_rfl
 have Wi:yU.size=47:=by rw [HO,hnt];simp
 have e0:yU.getD 0 undef=u0:=by rw [HO];simp
 have agp:F1 177 gP ((d,()),())=some ((labels d,()),()):=Qz rfl (aas hg0 d wf)
 have hn:=(af8 F1 d).trans (aa agp (show _=some (xE d) from rfl))
 have g0:Good Z ψ0 (Heap.get []) w w.heap.size B7:=hg.Qy fun b h _=>(BU b h).elim
 have t0:cO Z ψ0 (Heap.get []) w 47 (look [(0,cg cX d)]) { tmps:=yU,defers:=[] }:=by
  refine eu (fun p hp => ?_) Wi rfl
  simp only [List.mem_cons,List.not_mem_nil,or_false] at hp
  subst hp
  show av _ _ _ _ _ (yU.getD 0 undef)
  rw [e0];exact hu
 have run:=dF o5 hn none 5 [] (Good.start g0) t0
 rw [dx] at run
 refine wpIn_seq (wpIn_mono run ?_)
 clear run
 rintro e a1 W1 ⟨rfl,a2,rfl,_,ib,Z1,mY,q1,SV,t1⟩
 refine wpIn_seq (wpIn_mono (dF o5 q1 none 5 _ SV t1) ?_)
 rintro e a3 W3 ⟨rfl,a4,rfl,_,st2,Z2,dL,q2,B6,t2⟩
 refine wpIn_seq (wpIn_mono (dF o5 q2 none 5 _ B6 t2) ?_)
 rintro e a5 W5 ⟨rfl,a6,rfl,_,st3,Z3,NW,q3,SX,t3⟩
 refine wpIn_seq (wpIn_seq (wpIn_mono (dF o5 q3 none 5 _ SX t3) ?_))
 rintro e a7 W7 ⟨rfl,a8,rfl,_,st4,Z4,z5,q4,Wc,t4⟩
 rw [dx]
 obtain ⟨Z5,K3,Up,t5⟩:=fP q4 Wc t4
 clear q1 q2 q3 q4 SV B6 SX Wc t1 t2 t3 t4
 have hlen:(labels d).length=d.1.length:=(dV wf).l.n
 have g5:=Up.JS g0 (Nat.le_refl _)
 have wk5:Wk Z w B7 Z5 W7:=⟨Up.fw,fun b hb=>(Up.dX b hb).imp (fun h=>h) fun h=>h.imp (fun h=>(BU b h).elim) fun h=>h,Up.os,Up.tape,Up.output,Up.size,fun b hb _=>Up.block b hb (BU b)⟩
 have start:Pt Z w V0 (xP (((labels d).length:Nat):Int) (0:Int) d ([]:Pm) (labels d)) [] 0 a8 W7:=by
  have eh:(ar VE (xE d)).heap=(ar V0 (xP (((labels d).length:Nat):Int) (0:Int) d ([]:Pm) (labels d))).heap++[(31002,.own (.row 124 (.sl gX)) [])]:=rfl
  have sub:∀i o,(ar V0 (xP (((labels d).length:Nat):Int) (0:Int) d ([]:Pm) (labels d))).heap.get i=some o→(ar VE (xE d)).heap.get i=some o:=fun i o ho=>by
   rw [eh];exact wS ho
  have qe:(ar V0 (xP (((labels d).length:Nat):Int) (0:Int) d ([]:Pm) (labels d))).heap.get 31002=none:=rfl
  have h2:(ar VE (xE d)).heap.get 31002=some (.own (.row 124 (.sl gX)) []):=rfl
  have nj:=g5.row 31002 (.row 124 (.sl gX)) [] h2
  obtain ⟨cs,ho,_⟩:=nj
  have Lt:cs=[]:=List.eq_nil_of_length_eq_zero (by rw [ho.1];rfl)
  subst Lt
  have r4:av Z5 K3 (ar VE (xE d)).heap.get W7 (.bC 31002) (a8.tmps.getD 4 undef):=t5.rep 4
  simp only [av] at r4
  have e4:=r4.2 (by rw [h2];simp)
  have nn:∀{i},(ar V0 (xP (((labels d).length:Nat):Int) (0:Int) d ([]:Pm) (labels d))).heap.get i≠none→(ar VE (xE d)).heap.get i≠none:=fun {i} hi=>by
   obtain ⟨o,ho⟩:=Option.ne_none_iff_exists'.1 hi
   rw [sub i o ho];simp
  refine ⟨K3 31002,Z5,K3,wk5,g5.sub sub,eu (fun p hp => ?_) t5.size t5.defers,⟨ho,fun v hv=>(by cases hv),fun j k v u b h1=>(by simp at h1),fun v hv=>(by cases hv)⟩,fun b hb => ?_,fun b hb => ?_,e4⟩
  ·have hp:p∈[(11,AV.int .i64 (((labels d).length:Nat):Int)),(12,AV.int .i64 (0:Int)),(1,AV.ref 20001 0 0 0),(3,AV.bC 31000),(10,AV.bC 31001)]:=hp
   simp only [List.mem_cons,List.not_mem_nil,or_false] at hp
   rcases hp with rfl | rfl | rfl | rfl | rfl
   ·exact t5.rep 11
   ·exact t5.rep 12
   ·exact E8 (fun _ h=>h) (t5.rep 1) fun hi=>⟨nn hi,rfl⟩
   ·exact yV (t5.rep 3) fun hi=>⟨nn hi,rfl⟩
   ·exact yV (t5.rep 10) fun hi=>⟨nn hi,rfl⟩
  ·rcases hb with hb | ⟨v,hv,_⟩
   ·have hl:=g5.live 31002 b (by rw [h2];simp) hb
    refine ⟨ho.lt hb,hl.1,fun ⟨i,k1,k2⟩ => ?_⟩
    have:=g5.apart i 31002 b (nn k1) (by rw [h2];simp) k2 hb
    subst this
    exact k1 qe
   ·cases hv
  ·rcases hb with hb | ⟨v,hv,_⟩
   ·exact (g5.live 31002 b (by rw [h2];simp) hb).2.elim (fun h=>h) fun h=>h.elim
   ·cases hv
 rw [hlen] at start
 refine wpIn_block ?_
 refine Fa (fun k a W=>∃(i:Nat) (p:Pm) (vs:List Value) (q:Nat),i≤d.1.length∧k=d.1.length - i∧q≤i∧Pl (labels d) i p∧vs.length=nf (labels d) i∧Pt Z w V0 (xP ((d.1.length:Nat):Int) (i:Int) d p (labels d)) vs q a W)
  (k:=d.1.length) ⟨0,[],[],0,Nat.zero_le _,rfl,Nat.le_refl _,fun r hr=>by omega,rfl,start⟩ ?_
 rintro k a W ⟨i,p,vs,q,hi,rfl,hq,hp,hv,s⟩
 refine wpIn_seq (wpIn_mono (JZ (m4 F1 ((d.1.length:Nat):Int) (i:Int) _) 5 s) ?_)
 rintro e a1 W1 ⟨rfl,s1⟩
 have Ra:=Le s1 (i:=13) rfl
 by_cases aE:i<d.1.length
 case neg =>
  have e:i=d.1.length:=by omega
  have ef:decide ((i:Int)<((d.1.length:Nat):Int))=false:=decide_eq_false (by omega)
  rw [ef] at Ra
  refine wpIn_seq (wpIn_cond_false Ra (wpIn_exit ?_))
  show Code.wpIn _ _ _ _ _ _ _
  refine wpIn_seq (wpIn_mono (Te 5 s1) ?_)
  rintro e a2 W2 ⟨rfl,hd,⟨A,c,h2⟩,gw⟩
  refine wpIn_ret ?_
  have ye:Tryz.f173.results=#[.tmp 2]:=by kernel_rfl
  refine ⟨hd,_,results_tmp ye _ _ _,⟨A,c,?_⟩,gw⟩
  rw [h2,hv,←‹i=d.1.length›]
 have et:decide ((i:Int)<((d.1.length:Nat):Int))=true:=ba aE
 refine wpIn_seq (wpIn_cond_true (Ra.trans (congrArg Value.bool et)) (wpIn_skip ?_))
 refine wpIn_seq (wpIn_block (wpIn_mono (QO 5 wf aE hp hv hq s1) ?_))
 rintro e a2 W2 ⟨rfl,p',gK,NT,zG,s2⟩
 have Ny:=wf.nv
 refine wpIn_mono (JZ (m11 F1 ((d.1.length:Nat):Int) (i:Int) _) 5 s2) ?_
 rintro e a3 W3 ⟨rfl,s3⟩
 have ew:=aO aE (show d.1.length≤1073741824 by omega)
 rw [ew] at s3
 exact ⟨d.1.length - (i+1),by omega,i+1,p',gK,q+1,by omega,rfl,by omega,NT,zG,s3⟩
end Go.Vs
namespace Go.Vs
open Go.Proofs Go.Cy
variable {Z Z' Z0:Nat→Prop} {ψ ψ' ψ0:Nat→Value} {h h':Hp} {w w' w0 W W' W1 W2 W3 Wd:World} {B0:Nat} {O N:Nat→Prop}
variable {a:Act} {lv:Value} {vs:List Value} {q:Nat}
theorem QP{d:ai}(wf:Wf d):((nf (labels d) d.1.length:Nat):Int)=eC d:=by
 rw [rG wf]
 unfold ku nf
 rw [List.length_map]
theorem WE{P:Program}{ρC:Operand→Value}{o:Oper}{t:TypeId}{x:Operand}(h:o.op=.box t x):(execOp ρC o).run P w=.ok (.value (.pointer (some ⟨w.heap.size,0,none⟩))) (w.alloc (.cells (ρC x).cells t)):=by
 unfold execOp;rw [h];rfl
theorem Tg{P:Program}{ops:Array Oper}{Q:Exit→Act→World→Prop}{i:Nat}{rest:List Nat}{o:Oper}{f:FuncId}{x:Operand}{t:TypeId}{v0:Value}(ho:ops[i]? = some o)(hg:o.guard=none)
  (Eh:o.op=.call { callee:=.value (.func f),args:=#[x],argTypes:=#[t] }) (hx:a.eval x=v0) (hf:iS P f) (hc:Calls P f #[v0] w fun e w'=>∃v,e=.returned v∧wpOps P ops Q rest (a.put o.dst v) w'):wpOps P ops Q (i::rest) a w:=by
 rw [wpOps_cons]
 unfold wpOp
 simp only [ho,kS hg,if_true]
 refine .inl ?_
 unfold Oper.wp
 have e:(execOp a.eval o).run P w=.ok (.enter f #[v0]) w:=by
  unfold execOp
  rw [Eh]
  show ((do let d ←Deferred.ofValue (.func (.func f) #[] #[]) ((#[x]:Array Operand).map a.eval);invoke d.target d.args:Sem Go.Next)).run _ _=_
  have hm:(#[x]:Array Operand).map a.eval=#[v0]:=by simp [hx]
  rw [hm]
  show (callFunc f (#[v0]++#[])).run P w=_
  have:(#[v0]:Array Value)++#[]=#[v0]:=by simp
  rw [this]
  exact iU hf _
 rw [e,Oper.upon_enter]
 refine hc.mono fun en w' ⟨v,h1,h2⟩ => ?_
 subst h1
 exact h2
noncomputable abbrev r7(i:Nat):Code:=rg Tryz.f167 i
theorem Th:Tryz.f167.body=some (.seq (r7 0) (.seq (r7 1) .ret)):=by kernel_rfl
theorem WG:r7 0=.region 0 (opsOf (r7 0)) false:=by kernel_rfl
theorem WH:r7 1=.region 1 (opsOf (r7 1)) false:=by kernel_rfl
noncomputable def o7(r i:Nat):Oper:=((opsOf (r7 r))[i]?).getD { dst:=none,op:=.move (.tmp 0),type:=0,pos:= "",after:=#[],guard:=none }
theorem agq:(o7 1 1).op=.call { callee:=.value (.func 173),args:=#[.tmp 3],argTypes:=#[25] }:=by kernel_rfl
theorem agr:(opsOf (r7 1))[1]? = some (o7 1 1):=by kernel_rfl
theorem ags:(o7 1 1).guard=none:=by kernel_rfl
theorem agt:iS Tryz.prog 173:=jc 173 TS (by kernel_rfl)
theorem M0{d:ai}(wf:Wf d):Cg Tryz.prog 167 xJ ((d,()),()) ((eC d,()),()):=by
 intro Z ψ0 w jY hg hr
 have hr:aq Z ψ0 (Heap.get []) w [cg cX d] jY:=hr
 have hg:Good Z ψ0 (Heap.get []) w w.heap.size (Own ψ0 (Heap.get [])):=hg
 have BU:∀b,¬Own ψ0 (Heap.get []) b:=fun b ⟨i,h1,_⟩=>h1 rfl
 simp only [aq] at hr
 obtain ⟨u0,_,rfl,hu,rfl⟩:=hr
 refine u4 (r:=none) (n:=5) (callsIn_of_wp Tryz.func167 Th trivial ?_ rfl)
 obtain ⟨yU,HO⟩:∃t:Array Value,t=[u0].toArray++Array.replicate (Tryz.f167.ntmps - ([u0].toArray:Array Value).size) undef:=⟨_,rfl⟩
 rw [←HO]
 have hnt:Tryz.f167.ntmps=6:=by kernel_rfl
 have Wi:yU.size=6:=by rw [HO,hnt];simp
 have e0:yU.getD 0 undef=u0:=by rw [HO];simp
 show Code.wpIn Fence.wide 5 Tryz.prog _ _ _ w
 refine wpIn_wide.2 (wp_seq ?_)
 rw [WG]
 refine wp_region ?_
 rw [show (opsOf (r7 0)).size=2 by kernel_rfl,show List.range 2=[0,1] from rfl]
 refine cQ (o:=o7 0 0) (by kernel_rfl) (by kernel_rfl) (WE (t:=25) (x:=.tmp 0) (by kernel_rfl)) ?_
 rw [show (o7 0 0).dst=some 1 by kernel_rfl]
 have ev0:({ tmps:=yU,defers:=[] }:Act).eval (.tmp 0)=u0:=e0
 rw [ev0]
 obtain ⟨a1,DK⟩:∃a1,a1=({ tmps:=yU,defers:=[] }:Act).put (some 1) (.pointer (some ⟨w.heap.size,0,none⟩)):=⟨_,rfl⟩
 rw [←DK]
 have Em:a1.tmps.size=6:=by rw [DK,cq];exact Wi
 have Js:a1.defers=[]:=by rw [DK,put_defers]
 have e1:a1.eval (.tmp 1)=.pointer (some ⟨w.heap.size,0,none⟩):=by rw [DK,dq (by show 1<yU.size;omega)]
 refine cQ (o:=o7 0 1) (by kernel_rfl) (by kernel_rfl) (rI (x:=.const (.int .i64 0)) (by kernel_rfl)) ?_
 rw [show (o7 0 1).dst=some 2 by kernel_rfl]
 obtain ⟨a2,CC⟩:∃a2,a2=a1.put (some 2) (a1.eval (.const (.int .i64 0))):=⟨_,rfl⟩
 rw [←CC]
 have Ki:a2.tmps.size=6:=by rw [CC,cq];exact Em
 have RL:a2.defers=[]:=by rw [CC,put_defers];exact Js
 have e1':a2.eval (.tmp 1)=.pointer (some ⟨w.heap.size,0,none⟩):=by rw [CC,mC (by decide)];exact e1
 show Code.wp _ _ _ a2 _
 refine wp_seq ?_
 rw [WH]
 refine wp_region ?_
 rw [show (opsOf (r7 1)).size=4 by kernel_rfl,show List.range 4=[0,1,2,3] from rfl]
 obtain ⟨w1,IP⟩:∃x,x=w.alloc (.cells u0.cells 25):=⟨_,rfl⟩
 rw [←IP]
 have gw1:Gw (fun _=>False) w w1:=by rw [IP];exact Gw.alloc _ _
 have Zo:∃us:Array Value,u0=.agg us∧aq Z ψ0 (Heap.get []) w (enc cX d) us.toList:=by
  have:av Z ψ0 (Heap.get []) w (.agg (enc cX d)) u0:=hu
  simpa only [av] using this
 obtain ⟨us,rfl,FI⟩:=Zo
 have Wn:cp Z w w1:=fun b hb=>gw1.block b (hg.jw b hb) fun h=>h
 have Ti:aq Z ψ0 (Heap.get []) w1 (enc cX d) us.toList:=FI.less (fun _ h=>h) Wn fun i hi=>⟨hi,rfl⟩
 have g1:Good Z ψ0 (Heap.get []) w1 w1.heap.size B7:=(hg.same (fun _ h=>h) (fun b hb=>hb.elim (fun h=>Wn b h) fun h=>(BU b h).elim) (fun b hb=>(BU b hb).elim) (fun b hb=>Nat.lt_of_lt_of_le (hg.jw b hb) gw1.size)).Qy fun b hb _=>(BU b hb).elim
 have XT:w1.heap[w.heap.size]? = some (.cells us 25 (0,0)):=by rw [IP];exact DP _ _
 obtain ⟨V,hV,rV⟩:=jx (P:=Tryz.prog) (w:=w1) (t:=25) (a:=⟨w.heap.size,0,none⟩) (x:=cg cX d) Ti (fun j u hu=>by
  rw [ck,Nat.zero_add]
  simp only [World.cell?,XT]
  simpa using hu) (by kernel_rfl)
 refine cQ (o:=o7 1 0) (by kernel_rfl) (by kernel_rfl) (yW (t:=25) (x:=.tmp 1) (by kernel_rfl) (by rw [e1'];exact hV)) ?_
 rw [show (o7 1 0).dst=some 3 by kernel_rfl]
 obtain ⟨a3,Fm⟩:∃a3,a3=a2.put (some 3) V:=⟨_,rfl⟩
 rw [←Fm]
 have Rg:a3.tmps.size=6:=by rw [Fm,cq];exact Ki
 have hd3:a3.defers=[]:=by rw [Fm,put_defers];exact RL
 have e3:a3.eval (.tmp 3)=V:=by rw [Fm,dq (by omega)]
 refine Tg (o:=o7 1 1) (f:=173) (x:=.tmp 3) (t:=25) agr ags agq e3 agt ((Tf wf g1 rV).mono ?_)
 rintro e w2 ⟨⟨A,c,rfl⟩,gw2⟩
 refine ⟨_,rfl,?_⟩
 rw [show (o7 1 1).dst=some 4 by kernel_rfl]
 obtain ⟨a4,Nm⟩:∃a4,a4=a3.put (some 4) (.slice A (nf (labels d) d.1.length) c):=⟨_,rfl⟩
 rw [←Nm]
 have hs4:a4.tmps.size=6:=by rw [Nm,cq];exact Rg
 have hd4:a4.defers=[]:=by rw [Nm,put_defers];exact hd3
 have e4:a4.eval (.tmp 4)=.slice A (nf (labels d) d.1.length) c:=by rw [Nm,dq (by omega)]
 refine cQ (o:=o7 1 2) (by kernel_rfl) (by kernel_rfl) (QH (t:=187) (e:=124) (x:=.tmp 4) (by kernel_rfl) HR e4) ?_
 rw [show (o7 1 2).dst=some 5 by kernel_rfl]
 obtain ⟨a5,ha5⟩:∃a5,a5=a4.put (some 5) (.int .i64 ((nf (labels d) d.1.length:Nat):Int)):=⟨_,rfl⟩
 rw [←ha5]
 have hs5:a5.tmps.size=6:=by rw [ha5,cq];exact hs4
 have hd5:a5.defers=[]:=by rw [ha5,put_defers];exact hd4
 have e5:a5.eval (.tmp 5)=.int .i64 ((nf (labels d) d.1.length:Nat):Int):=by rw [ha5,dq (by omega)]
 refine cQ (o:=o7 1 3) (by kernel_rfl) (by kernel_rfl) (rI (x:=.tmp 5) (by kernel_rfl)) ?_
 rw [show (o7 1 3).dst=some 2 by kernel_rfl,e5]
 show Code.wp _ _ _ _ _
 have ye:Tryz.f167.results=#[.tmp 2]:=by kernel_rfl
 refine wp_ret ?_
 have gw:=gw1.trans gw2
 have sm:cp Z w w2:=fun b hb=>gw.block b (hg.jw b hb) fun h=>h
 refine ⟨by rw [put_defers];exact hd5,_,results_tmp ye _ _ _,_,Z,ψ0,rfl,fun _ h=>h,fun b hb=>.inl hb,⟨gw.os,gw.tape,gw.output,gw.size,fun b hb _=>gw.block b hb fun h=>h⟩,?_,fun i hi=>(by cases hi),?_⟩
 ·exact (hg.same (fun _ h=>h) (fun b hb=>hb.elim (fun h=>sm b h) fun h=>(BU b h).elim) (fun b hb=>(BU b hb).elim) (fun b hb=>Nat.lt_of_lt_of_le (hg.jw b hb) gw.size):Good Z ψ0 (Heap.get []) w2 w.heap.size (Own ψ0 (Heap.get [])))
 ·show av Z ψ0 (Heap.get []) w2 (.int .i64 (eC d)) _
  simp only [av]
  rw [gO (by omega),if_pos rfl,QP wf]
end Go.Vs
namespace Go.Vs
open Go.Proofs Go.Cy
open Classical in
noncomputable def gvF:xI.A→Option xI.B:=fun (x:(ai×Unit)×Unit)=>if Wf x.1.1 then some ((bK x.1.1,()),()) else none
open Classical in
noncomputable def gvC:xJ.A→Option xJ.B:=fun (x:(ai×Unit)×Unit)=>if Wf x.1.1 then some ((eC x.1.1,()),()) else none
open Classical in
noncomputable def GP:(f:FuncId)→(g:aL)→Option (g.A→Option g.B):=fun f g =>
 if h:f=166∧g=xI then some (h.2▸gvF)
 else if h:f=167∧g=xJ then some (h.2▸gvC)
 else none
theorem M1:HG GP:=fun f g h=>by
 unfold GP
 rw [dif_neg,dif_neg]
 ·rintro ⟨rfl,_⟩;cases h
 ·rintro ⟨rfl,_⟩;cases h
theorem aa6:GP 166 xI=some gvF:=by
 unfold GP
 rw [dif_pos ⟨rfl,rfl⟩]
theorem aa7:GP 167 xJ=some gvC:=by
 unfold GP
 rw [dif_neg (by rintro ⟨h,_⟩;cases h),dif_pos ⟨rfl,rfl⟩]
open Classical in
theorem pg:PG GP where
 h:=M1
 f:=fun d hd=>vP aa6 (by
  show (if Wf d then some ((bK d,()),()) else none)=_
  rw [if_pos hd];rfl)
 c:=fun d hd=>vP aa7 (by
  show (if Wf d then some ((eC d,()),()) else none)=_
  rw [if_pos hd];rfl)
open Classical in
theorem WI{f:FuncId}{g:aL}{x:g.A}{y:g.B}(hs:Sg f=some g)(h:FX GP f g x=some y):Cg Tryz.prog f g x y:=by
 refine um KE wj jc nG (fun f g u x y _ hu hy => ?_) hs h
 unfold GP at hu
 split at hu
 ·rename_i h
  obtain ⟨rfl,rfl⟩:=h
  cases hu
  obtain ⟨⟨d,⟨⟩⟩,⟨⟩⟩:=x
  have hy:(if Wf d then some ((bK d,()),()) else none)=some y:=hy
  split at hy
  ·rename_i hw
   cases hy
   exact MX hw
  ·cases hy
 ·split at hu
  ·rename_i h
   obtain ⟨rfl,rfl⟩:=h
   cases hu
   obtain ⟨⟨d,⟨⟩⟩,⟨⟩⟩:=x
   have hy:(if Wf d then some ((eC d,()),()) else none)=some y:=hy
   split at hy
   ·rename_i hw
    cases hy
    exact M0 hw
   ·cases hy
  ·cases hu
theorem aa8:JI GP:=SQ pg
theorem Uq(o:bW):wN GP o:=SJ M1 aa8 o
end Go.Vs
