/- The walk of the function that -/
import Derived.Test.YtpkfpbpbkabkdaaGreatPartsA
set_option linter.unusedSimpArgs false
set_option linter.unusedVariables false
namespace Go.Vs
open Go.Proofs
variable {Z Z' Z0:Nat→Prop} {ψ ψ' ψ0:Nat→Value} {h h':Hp} {w w' w0 W W' W1 W2 W3 Wd:World} {B0:Nat} {O N:Nat→Prop}
variable {a:Act} {lv:Value} {vs:List Value} {q:Nat}
theorem AS(i:Nat):(Array.replicate 16 false).getD i false=false:=by rw[Array.getD_eq_getD_getElem?,Array.getElem?_replicate];by_cases h:i<16<;>simp[h]
theorem add_one(n:Nat){k i:Nat}{c j:Int}{d:ak}{p:Pm}{L:List Int}(s:Pt Z0 w0 V4 (((k:Int),((i:Int),(c,(j,())))),(((d,()),()),(p,(L,())))) vs q a W)(hk:k<vs.length)(hi:i<d.1.length)(hq:q+1≤gF) :
  (r3 10).wpIn (FW none) n Tryz.prog (fun e a' W'=>e=.normal∧∃v',Pt Z0 w0 V0 ((c,(j,())),(((d,()),()),(p,(L,())))) (vs.set k v') (q+1) a' W') a W:=by
 obtain⟨lv,Z,ψ,s⟩:=s;have hkv:vs[k]? = some vs[k]:=aba hk;obtain⟨Wd,hWd⟩:∃x,x={ W with drawn:=W.drawn+1 }:=⟨_,rfl⟩;have gd:∀{L:Nat→Prop},Gw L W Wd:=fun {L}=>by rw[hWd];exact Gw.drawn W
 have gP:Wd.heap=W.heap:=by rw[hWd]
 have jd:Jr Wd lv vs q:=s.j.sub (L:=fun _=>False) gd fun _ _ h=>h;obtain⟨g,Bl⟩:=ahB jd hkv;have gdd:Good Z ψ (aA V4 (((k:Int),((i:Int),(c,(j,())))),(((d,()),()),(p,(L,()))))).heap.get Wd w0.heap.size Gh:=s.g.same (fun _ h=>h) (fun b _=>by rw[gP]) (fun b hb hz=>(s.g.zA b hz).2 hb) fun b hb=>by rw[gP];exact s.g.kT b hb
 have r1:aD Z ψ (aA V4 (((k:Int),((i:Int),(c,(j,())))),(((d,()),()),(p,(L,()))))).heap.get Wd (.ref 20001 0 0 0) (a.tmps.getD 1 undef):=(s.t.rep 1).less (fun _ h=>h) (fun b _=>by rw[gP]) fun i hi=>⟨hi,rfl⟩;obtain⟨pD,Ic,pE,pF,CY,rd⟩:=ZR gdd rfl r1 hi;obtain⟨ie,z,he⟩:=ahz;have anR:=ML Wd abw he CY rd.sz (.inr rfl);obtain⟨v',W2,anS,Du,gw2,oJ⟩:=acX jd hkv hq rd.sz rd.one (o3 10 13).type;obtain⟨W3,xH,j3,gw3,hX⟩:=acY jd hkv Bl gw2 Du oJ;have anU:g<Wd.heap.size:=jd.o.lt Bl.b;have r7:a.tmps.getD 7 undef=.int .i64 (k:Int):=by have:aD Z ψ (aA V4 (((k:Int),((i:Int),(c,(j,())))),(((d,()),()),(p,(L,()))))).heap.get W (.int .i64 (k:Int)) (a.tmps.getD 7 undef):=s.t.rep 7;simpa only[aD] using this
 have r5:a.tmps.getD 5 undef=.int .i64 (i:Int):=by have:aD Z ψ (aA V4 (((k:Int),((i:Int),(c,(j,())))),(((d,()),()),(p,(L,()))))).heap.get W (.int .i64 (i:Int)) (a.tmps.getD 5 undef):=s.t.rep 5;simpa only[aD] using this
 have D:Dw Wd (Wd.alloc (.cells CY.cells 31)) W2 W3 a lv k i vs[k] g pD Ic pE pF CY (.slice (some ⟨Wd.heap.size,0,none⟩) 1 1) v' :=⟨s.lv,r7,r5,Bl.ix,Bl.ld _ rfl,Bl.ld _ (heap_alloc_old _ _ anU),rd,anR,anS,xH⟩;rw[ZS];show Code.wpIn Fence.wide n Tryz.prog _ _ a W;refine wpIn_wide.2 (wp_region_any (by kernel_rfl) ?_);rw[←hWd,show(opsOf (r3 10)).size=16 from JY];have j8:=s.t.size;refine QH (I:=Iw a (BZ lv k i vs[k] g pD Ic pE pF CY (.slice (some ⟨Wd.heap.size,0,none⟩) 1 1) v') Wd (Wd.alloc (.cells CY.cells 31)) W2 W3) (Tf D _) (fun L a' w' I hr=>?_) 16 (Array.replicate 16 false) a Wd (by decide) ⟨by simp,fun i e h _=>?_,fun i _ h=>?_,fun _ _=>rfl,j8,s.t.defers,?_⟩
 ·have h15:L.getD 15 false=true:=by have:=Xv hr 16 15 (by omega) (by omega);rw[Array.getD_eq_getD_getElem?,Array.getElem?_eq_getElem (by rw[I.n];omega)]at this ⊢;simpa using this
  have hw:w'=W3:=by rw[I.w];unfold QL;rw[h15];rfl
  subst hw;refine⟨rfl,v',?_⟩;have s2:=QK (a1:=a') s (gd.trans gw3) j3 (fun b hb=>by have:=hX b hb;rwa [gP]at this) ((I.dv 4 (by omega)).trans s.lv) I.sz I.df (fun r hr=>?_) (fun r hr=>?_)
  ·refine QJ ⟨lv,Z,ψ,s2⟩ rfl fun r hr=>?_;have hr:r∈[(11,AV.int .i64 c),(12,AV.int .i64 j),(1,AV.ref 20001 0 0 0),(3,AV.bY 31000),(10,AV.bY 31001)]:=hr;simp only[List.mem_cons,List.not_mem_nil,or_false]at hr;rcases hr with rfl|rfl|rfl|rfl|rfl<;>rfl
  ·have hr:r∈[(7,AV.int .i64 (k:Int)),(5,AV.int .i64 (i:Int)),(11,AV.int .i64 c),(12,AV.int .i64 j),(1,AV.ref 20001 0 0 0),(3,AV.bY 31000),(10,AV.bY 31001)]:=hr;simp only[List.mem_cons,List.not_mem_nil,or_false]at hr;rcases hr with rfl|rfl|rfl|rfl|rfl|rfl|rfl<;>exact I.dv _ (by omega)
  ·have hr:r∈[(7,AV.int .i64 (k:Int)),(5,AV.int .i64 (i:Int)),(11,AV.int .i64 c),(12,AV.int .i64 j),(1,AV.ref 20001 0 0 0),(3,AV.bY 31000),(10,AV.bY 31001)]:=hr;simp only[List.mem_cons,List.not_mem_nil,or_false]at hr;rcases hr with rfl|rfl|rfl|rfl|rfl|rfl|rfl<;>rfl
 ·rw[AS]at h;cases h
 ·rw[AS]at h;cases h
 ·unfold QL;simp[AS]
end Go.Vs
namespace Go.Vs
open Go.Proofs Go.Cy
variable {Z Z' Z0:Nat→Prop} {ψ ψ' ψ0:Nat→Value} {h h':Hp} {w w' w0 W W' W1 W2 W3 Wd:World} {B0:Nat} {O N:Nat→Prop}
variable {a:Act} {lv:Value} {vs:List Value} {q:Nat}
theorem Xy{α:Type}(x:Int)(es:List (Int×α)):wy (.int .i64) x es=es.findIdx? fun e=>decide (e.1=x):=by
 show List.findIdx? (fun e:Int×α=>x==e.1) es=_;congr 1;funext e;by_cases h:x=e.1
 ·rw[decide_eq_true h.symm];exact beq_iff_eq.2 h
 ·rw[decide_eq_false (fun k=>h k.symm)];exact beq_eq_false_iff_ne.2 h
theorem ada{α:Type}(x:Int)(es:List (Int×α)):kd (.int .i64) x es=gV x es:=by have:=OY x es;rw[←Xy]at this;exact this
theorem Pe{α:Type}(x z:Int)(v:α)(es:List (Int×α)):gV z (oO (.int .i64) x v es)=if x=z then some v else gV z es:=by
 have e:=Xy x es;unfold oO
 split
 ·rename_i i hi;exact AQ (e.symm.trans hi)
 ·rename_i hi;exact AR (e.symm.trans hi)
theorem adb{d:ak}(hw:Wf d){i:Nat}(hi:i<d.1.length):∃r:Nat,r≤i∧(labels d).getD i 0=(r:Int)∧(labels d).getD r 0=(r:Int):=by have h:=fQ hw;obtain⟨r,h1,h2,h3⟩:=h.l.i i hi;obtain⟨s,k1,k2,k3⟩:=h.l.i r (by omega);have:=h.r i hi s (by omega) (h3.trans k3);refine⟨r,h1,h2,?_⟩;rw[k2];congr 1;omega
def nf(L:List Int)(i:Nat):Nat:=((List.range i).filter fun j=>decide (L.getD j 0=(j:Int))).length
theorem QN(L:List Int)(i:Nat):nf L (i+1)=nf L i+if L.getD i 0=(i:Int) then 1 else 0:=by
 unfold nf;rw[List.range_succ,List.filter_append,List.length_append];congr 1;by_cases h:L.getD i 0=(i:Int)
 ·rw[if_pos h,List.filter_cons_of_pos (by simpa using h)];rfl
 ·rw[if_neg h,List.filter_cons_of_neg (by simpa using h)];rfl
theorem ahT(L:List Int)(i:Nat):nf L i≤i:=by unfold nf;have:=adx (fun j:Nat=>decide (L.getD j 0=(j:Int))) (List.range i);simpa using this
def Pl(L:List Int)(i:Nat)(p:Pm):Prop:=∀r:Nat,r<i→L.getD r 0=(r:Int)→∃k:Nat,k<nf L i∧gV (r:Int) p=some (k:Int)
abbrev xP(n i:Int)(d:ak)(p:Pm)(L:List Int):V0.T:=((n,(i,())),(((d,()),()),(p,(L,()))))
theorem QO{sh:Shape}{x:sh.T}(s:Pt Z0 w0 sh x vs q a W){i:Nat}{b:Bool}(e:look (aA sh x).tmps i=.bool b):a.eval (.tmp i)=.bool b:=by obtain⟨lv,Z,ψ,s⟩:=s;have:=s.t.rep i;rw[e]at this;exact this
theorem ZU:r3 12=.region 12 (opsOf (r3 12)) false:=by kernel_rfl
theorem Xz(n:Nat){d:ak}(wf:Wf d){i:Nat}{p:Pm}{b:Bool}(hi:i<d.1.length)(hp:Pl (labels d) i p)(hv:vs.length=nf (labels d) i)(hq:q≤i) (s:Pt Z0 w0 V1 ((b,(((d.1.length:Nat):Int),((i:Int),()))),(((d,()),()),(p,(labels d,())))) vs q a W) :
  cB3.wpIn (FW none) n Tryz.prog (fun e a' W'=>e=.normal∧∃p' jo,Pl (labels d) (i+1) p'∧jo.length=nf (labels d) (i+1)∧Pt Z0 w0 V0 (xP ((d.1.length:Nat):Int) (i:Int) d p' (labels d)) jo (q+1) a' W') a W:=by
 have hn:=wf.nv;have hlen:=(fQ wf).l.n;have hli:i<(labels d).length:=by omega
 obtain⟨r,hr1,DU,hr3⟩:=adb wf hi;have pN:(labels d)[i]? = some (r:Int):=by
  rw[List.getElem?_eq_getElem hli];have:(labels d).getD i 0=(labels d)[i]:=by simp[List.getD,hli]
  rw[←this,DU]
 have h5:=(m5 F1 b ((d.1.length:Nat):Int) (i:Int) d p (labels d)).trans (ae (dU (gy i) (bj hli)) (aa (a:=(r:Int)) (by rw[Int.toNat_natCast];exact pN) rfl));have asi:=ahT (labels d) i;refine wpIn_seq (wpIn_mono (ZN h5 n s) ?_);rintro e a1 W1 ⟨rfl,hc⟩;refine wpIn_seq (wpIn_seq (wpIn_mono hc ?_));rintro e a2 W2 ⟨rfl,s2⟩;have h19:=QO s2 (i:=19) rfl;have drop:=QJ (sh':=V3) (y:=(((i:Int),((r:Int),(((d.1.length:Nat):Int),((i:Int),())))),(((d,()),()),(p,(labels d,()))))) s2 rfl fun t ht=>by have ht:t∈[(5,AV.int .i64 (i:Int)),(6,AV.int .i64 (r:Int)),(11,AV.int .i64 ((d.1.length:Nat):Int)),(12,AV.int .i64 (i:Int)),(1,AV.ref 20001 0 0 0),(3,AV.bY 31000),(10,AV.bY 31001)]:=ht;simp only[List.mem_cons,List.not_mem_nil,or_false]at ht;rcases ht with rfl|rfl|rfl|rfl|rfl|rfl|rfl<;>rfl
 have rest:∀(p':Pm) (jo:List Value) (a':Act) (W':World),Pl (labels d) (i+1) p'→jo.length=nf (labels d) (i+1)→Pt Z0 w0 V3 (((i:Int),((r:Int),(((d.1.length:Nat):Int),((i:Int),())))),(((d,()),()),(p',(labels d,())))) jo q a' W' →(Code.seq (r3 9) (r3 10)).wpIn (FW none) n Tryz.prog (fun e a' W'=>e=.normal∧∃p' jo,Pl (labels d) (i+1) p'∧jo.length=nf (labels d) (i+1)∧Pt Z0 w0 V0 (xP ((d.1.length:Nat):Int) (i:Int) d p' (labels d)) jo (q+1) a' W') a' W':=by intro p' jo a' W' Uh Du s';obtain⟨k,Gn,pS⟩:=Uh r (by omega) hr3;have h9:=m9 F1 ((d.1.length:Nat):Int) (i:Int) (r:Int) (i:Int) d p' (labels d);rw[ada,pS]at h9;refine wpIn_seq (wpIn_mono (Pb h9 n s') ?_);rintro e a3 W3 ⟨rfl,s3⟩;refine wpIn_mono (add_one n s3 (by omega) hi (by unfold gF;omega)) ?_;rintro e a4 W4 ⟨rfl,v',s4⟩;exact⟨rfl,p',jo.set k v',Uh,by rw[List.length_set];exact Du,s4⟩
 by_cases hri:r=i
 ·subst hri;have ht:a2.eval (.tmp 19)=.bool true:=h19.trans (by simp);refine wpIn_cond_true ht (wpIn_seq (wpIn_mono (ZP n drop) ?_));rintro e a3 W3 ⟨rfl,s3⟩;refine wpIn_mono (ZO n (by unfold gF;omega) s3 fun t ht=>?_) ?_
  ·have ht:t∈[(5,AV.int .i64 (r:Int)),(6,AV.int .i64 (r:Int)),(11,AV.int .i64 ((d.1.length:Nat):Int)),(12,AV.int .i64 (r:Int)),(1,AV.ref 20001 0 0 0),(3,AV.bY 31000),(10,AV.bY 31001)]:=ht;simp only[List.mem_cons,List.not_mem_nil,or_false]at ht;rcases ht with rfl|rfl|rfl|rfl|rfl|rfl|rfl<;>exact⟨rfl,by simp⟩
  rintro e a4 W4 ⟨rfl,s4⟩;have h1:nf (labels d) (r+1)=nf (labels d) r+1:=by rw[QN,if_pos hr3]
  refine rest _ _ a4 W4 (fun z Bc Gb=>?_) (by rw[List.length_append,hv,h1];rfl) s4;have gp:=Pe (r:Int) (z:Int) ((vs.length:Nat):Int) p;by_cases hz:r=z
  ·subst hz;exact⟨nf (labels d) r,by omega,gp.trans (by rw[if_pos rfl,hv])⟩
  ·obtain⟨k,k1,k2⟩:=hp z (by omega) Gb;refine⟨k,by omega,?_⟩;exact gp.trans (by rw[if_neg (by omega),k2])
 ·have ht:a2.eval (.tmp 19)=.bool false:=h19.trans (by
   have:((r:Int)==(i:Int))=false:=by simp;omega
   rw[this])
  refine wpIn_cond_false ht (wpIn_skip ?_);have h1:nf (labels d) (i+1)=nf (labels d) i:=by rw[QN,if_neg (by rw[DU];omega)];rfl
  refine rest p vs a2 W2 (fun z Bc Gb=>?_) (by rw[h1];exact hv) drop;rw[h1];exact hp z (by
   rcases adT z i with h|h
   ·exact h
   ·exfalso;have:z=i:=by omega
    subst this;rw[DU]at Gb;omega) Gb
noncomputable abbrev xE(d:ak):VE.T:=(((((labels d).length:Nat):Int),((0:Int),())),(((d,()),()),(([]:Pm),(labels d,(([]:List (List ID)),())))))
theorem anW:(o3 12 0).op=.move (.tmp 4):=by kernel_rfl
theorem anX:(o3 12 1).op=.assign (.tmp 46):=by kernel_rfl
theorem ZV(n:Nat){sh:Shape}{x:sh.T}(s:Pt Z0 w0 sh x vs q a W):(r3 12).wpIn (FW none) n Tryz.prog (fun e a' W'=>e=.normal∧a'.defers=[]∧(∃A c,a'.tmps.getD 2 undef=.slice A vs.length c)∧Gw (fun _=>False) w0 W') a W:=by
 obtain⟨lv,Z,ψ,s⟩:=s;obtain⟨A,cap,Yt⟩:=s.j.o.slice;rw[ZU];show Code.wpIn Fence.wide n Tryz.prog _ _ a W;refine wpIn_wide.2 (wp_region ?_);have hs:(opsOf (r3 12)).size=2:=by kernel_rfl
 have g0:(opsOf (r3 12))[0]? = some (o3 12 0):=by kernel_rfl
 have g1:(opsOf (r3 12))[1]? = some (o3 12 1):=by kernel_rfl
 have d0:(o3 12 0).dst=some 46:=by kernel_rfl
 have d1:(o3 12 1).dst=some 2:=by kernel_rfl
 have j8:=s.t.size;rw[hs,show List.range 2=[0,1] from rfl];refine dC g0 (by kernel_rfl) (lL anW) ?_;rw[d0];refine dC g1 (by kernel_rfl) (vm anX) ?_;rw[d1,eL (by omega)];refine⟨rfl,by rw[put_defers,put_defers];exact s.t.defers,⟨A,cap,?_⟩,s.wk.os,s.wk.tape,s.wk.output,s.wk.size,fun b hb _=>s.wk.block b hb fun h=>h⟩;rw[jt (by rw[cX];omega),if_pos rfl,←Yt];exact s.lv
theorem ZW{d:ak}(wf:Wf d){u0:Value}{O:Nat→Prop}(hg:Good Z ψ0 (Heap.get []) w w.heap.size O)(hu:aD Z ψ0 (Heap.get []) w (cM eV d) u0) :
  Calls Tryz.prog 251 #[u0] w fun e w'=>(∃A c,e=.returned (.slice A (nf (labels d) d.1.length) c))∧Gw (fun _=>False) w w':=by
 have FO:∀b,¬Own ψ0 (Heap.get []) b:=fun b ⟨i,h1,_⟩=>h1 rfl;refine y0 (r:=none) (n:=5) (callsIn_of_wp Tryz.func251 ZM trivial ?_ rfl);obtain⟨CV,MH⟩:∃t:Array Value,t=#[u0]++Array.replicate (Tryz.f251.ntmps-(#[u0]:Array Value).size) undef:=⟨_,rfl⟩;rw[←MH];have hnt:Tryz.f251.ntmps=47:=by kernel_rfl
 have hs0:CV.size=47:=by rw[MH,hnt];simp
 have e0:CV.getD 0 undef=u0:=by rw[MH];simp
 have anZ:F1 256 ju ((d,()),())=some ((labels d,()),()):=Xk rfl (ahf hg0 d wf);have hn:=(anI F1 d).trans (aa anZ (show _=some (xE d) from rfl));have g0:Good Z ψ0 (Heap.get []) w w.heap.size Gh:=hg.Xi fun b h _=>(FO b h).elim;have t0:dq Z ψ0 (Heap.get []) w 47 (look [(0,cM eV d)]) { tmps:=CV,defers:=[] }:=by refine gh (fun p hp=>?_) hs0 rfl;simp only[List.mem_cons,List.not_mem_nil,or_false]at hp;subst hp;show aD _ _ _ _ _ (CV.getD 0 undef);rw[e0];exact hu
 have run:=fi sj hn none 5 [] (Good.start g0) t0;rw[eQ]at run;refine wpIn_seq (wpIn_mono run ?_);clear run;rintro e a1 W1 ⟨rfl,a2,rfl,_,jN,Z1,qf,q1,ZI,t1⟩;refine wpIn_seq (wpIn_mono (fi sj q1 none 5 _ ZI t1) ?_);rintro e a3 W3 ⟨rfl,a4,rfl,_,st2,Z2,fz,q2,Gg,t2⟩;refine wpIn_seq (wpIn_mono (fi sj q2 none 5 _ Gg t2) ?_);rintro e a5 W5 ⟨rfl,a6,rfl,_,st3,Z3,Uk,q3,ZK,t3⟩;refine wpIn_seq (wpIn_seq (wpIn_mono (fi sj q3 none 5 _ ZK t3) ?_));rintro e a7 W7 ⟨rfl,a8,rfl,_,st4,Z4,DN,q4,ok4,t4⟩;rw[eQ];obtain⟨Z5,QD,ok5,t5⟩:=iA q4 ok4 t4;clear q1 q2 q3 q4 ZI Gg ZK ok4 t1 t2 t3 t4;have hlen:(labels d).length=d.1.length:=(fQ wf).l.n;have g5:=ok5.O4 g0 (abZ _);have wk5:Wk Z w Gh Z5 W7:=⟨ok5.g9,fun b hb=>(ok5.fS b hb).imp (fun h=>h) fun h=>h.imp (fun h=>(FO b h).elim) fun h=>h,ok5.os,ok5.tape,ok5.output,ok5.size,fun b hb _=>ok5.block b hb (FO b)⟩;have start:Pt Z w V0 (xP (((labels d).length:Nat):Int) (0:Int) d ([]:Pm) (labels d)) [] 0 a8 W7:=by
  have eh:(aA VE (xE d)).heap=(aA V0 (xP (((labels d).length:Nat):Int) (0:Int) d ([]:Pm) (labels d))).heap++[(31002,.own (.row 28 (.sl jP)) [])]:=rfl;have sub:∀i o,(aA V0 (xP (((labels d).length:Nat):Int) (0:Int) d ([]:Pm) (labels d))).heap.get i=some o→(aA VE (xE d)).heap.get i=some o:=fun i o ho=>by rw[eh];exact AP ho
  have sM:(aA V0 (xP (((labels d).length:Nat):Int) (0:Int) d ([]:Pm) (labels d))).heap.get 31002=none:=rfl;have h2:(aA VE (xE d)).heap.get 31002=some (.own (.row 28 (.sl jP)) []):=rfl;have qq:=g5.row 31002 (.row 28 (.sl jP)) [] h2;obtain⟨cs,ho,_⟩:=qq;have Rm:cs=[]:=abU (by rw[ho.1];rfl);subst Rm;have r4:aD Z5 QD (aA VE (xE d)).heap.get W7 (.bY 31002) (a8.tmps.getD 4 undef):=t5.rep 4;simp only[aD]at r4;have e4:=r4.2 (by rw[h2];simp);have nn:∀{i},(aA V0 (xP (((labels d).length:Nat):Int) (0:Int) d ([]:Pm) (labels d))).heap.get i≠none→(aA VE (xE d)).heap.get i≠none:=fun {i} hi=>by obtain⟨o,ho⟩:=abT.1 hi;rw[sub i o ho];simp
  refine⟨QD 31002,Z5,QD,wk5,g5.sub sub,gh (fun p hp=>?_) t5.size t5.defers,⟨ho,fun v hv=>(by cases hv),fun j k v u b h1=>(by simp at h1),fun v hv=>(by cases hv)⟩,fun b hb=>?_,fun b hb=>?_,e4⟩
  ·have hp:p∈[(11,AV.int .i64 (((labels d).length:Nat):Int)),(12,AV.int .i64 (0:Int)),(1,AV.ref 20001 0 0 0),(3,AV.bY 31000),(10,AV.bY 31001)]:=hp;simp only[List.mem_cons,List.not_mem_nil,or_false]at hp;rcases hp with rfl|rfl|rfl|rfl|rfl
   ·exact t5.rep 11
   ·exact t5.rep 12
   ·exact JR (fun _ h=>h) (t5.rep 1) fun hi=>⟨nn hi,rfl⟩
   ·exact CW (t5.rep 3) fun hi=>⟨nn hi,rfl⟩
   ·exact CW (t5.rep 10) fun hi=>⟨nn hi,rfl⟩
  ·rcases hb with hb|⟨v,hv,_⟩
   ·have hl:=g5.live 31002 b (by rw[h2];simp) hb;refine⟨ho.lt hb,hl.1,fun⟨i,k1,k2⟩=>?_⟩;have:=g5.apart i 31002 b (nn k1) (by rw[h2];simp) k2 hb;subst this;exact k1 sM
   ·cases hv
  ·rcases hb with hb|⟨v,hv,_⟩
   ·exact(g5.live 31002 b (by rw[h2];simp) hb).2.elim (fun h=>h) fun h=>h.elim
   ·cases hv
 rw[hlen]at start;refine wpIn_block ?_;refine JU (fun k a W=>∃(i:Nat) (p:Pm) (vs:List Value) (q:Nat),i≤d.1.length∧k=d.1.length-i∧q≤i∧Pl (labels d) i p∧vs.length=nf (labels d) i∧Pt Z w V0 (xP ((d.1.length:Nat):Int) (i:Int) d p (labels d)) vs q a W) (k:=d.1.length) ⟨0,[],[],0,adL _,rfl,abZ _,fun r hr=>by omega,rfl,start⟩ ?_;rintro k a W ⟨i,p,vs,q,hi,rfl,hq,hp,hv,s⟩;refine wpIn_seq (wpIn_mono (Pb (m4 F1 ((d.1.length:Nat):Int) (i:Int) _) 5 s) ?_);rintro e a1 W1 ⟨rfl,s1⟩;have Ya:=QO s1 (i:=13) rfl;by_cases aK:i<d.1.length
 case neg =>
  have e:i=d.1.length:=by omega
  have ef:decide ((i:Int)<((d.1.length:Nat):Int))=false:=decide_eq_false (by omega);rw[ef]at Ya;refine wpIn_seq (wpIn_cond_false Ya (wpIn_exit ?_));show Code.wpIn _ _ _ _ _ _ _;refine wpIn_seq (wpIn_mono (ZV 5 s1) ?_);rintro e a2 W2 ⟨rfl,hd,⟨A,c,h2⟩,gw⟩;refine wpIn_ret ?_;have yh:Tryz.f251.results=#[.tmp 2]:=by kernel_rfl
  refine⟨hd,_,results_tmp yh _ _ _,⟨A,c,?_⟩,gw⟩;rw[h2,hv,←‹i=d.1.length›]
 have et:decide ((i:Int)<((d.1.length:Nat):Int))=true:=bj aK;refine wpIn_seq (wpIn_cond_true (Ya.trans (congrArg Value.bool et)) (wpIn_skip ?_));refine wpIn_seq (wpIn_block (wpIn_mono (Xz 5 wf aK hp hv hq s1) ?_));rintro e a2 W2 ⟨rfl,p',jo,Uh,Du,s2⟩;have Rj:=wf.nv;refine wpIn_mono (Pb (m11 F1 ((d.1.length:Nat):Int) (i:Int) _) 5 s2) ?_;rintro e a3 W3 ⟨rfl,s3⟩;have ew:=aN aK (show d.1.length≤1073741824 by omega);rw[ew]at s3;exact⟨d.1.length-(i+1),by omega,i+1,p',jo,q+1,by omega,rfl,by omega,Uh,Du,s3⟩
theorem XA{d:ak}(wf:Wf d):((nf (labels d) d.1.length:Nat):Int)=gi d:=by rw[vj wf];unfold mF nf;rw[List.length_map]
theorem ade{P:Program}{ρC:Operand→Value}{o:Oper}{t:TypeId}{x:Operand}(h:o.op=.box t x):(execOp ρC o).run P w=.ok (.value (.pointer (some ⟨w.heap.size,0,none⟩))) (w.alloc (.cells (ρC x).cells t)):=by unfold execOp;rw[h];rfl
theorem ZX{P:Program}{ops:Array Oper}{Q:Exit→Act→World→Prop}{i:Nat}{rest:List Nat}{o:Oper}{f:FuncId}{x:Operand}{t:TypeId}{v0:Value}(ho:ops[i]? = some o)(hg:o.guard=none) (IT:o.op=.call { callee:=.value (.func f),args:=#[x],argTypes:=#[t] }) (hx:a.eval x=v0) (hf:kj P f) (hc:Calls P f #[v0] w fun e w'=>∃v,e=.returned v∧wpOps P ops Q rest (a.put o.dst v) w'):wpOps P ops Q (i::rest) a w:=by
 rw[wpOps_cons];unfold wpOp;simp only[ho,nD hg,if_true];refine .inl ?_;unfold Oper.wp;have e:(execOp a.eval o).run P w=.ok (.enter f #[v0]) w:=by
  unfold execOp;rw[IT];show((do let d ←Deferred.ofValue (.func (.func f) #[] #[]) ((#[x]:Array Operand).map a.eval);invoke d.target d.args:Sem Go.Next)).run _ _=_;have hm:(#[x]:Array Operand).map a.eval=#[v0]:=by simp[hx]
  rw[hm];show(callFunc f (#[v0]++#[])).run P w=_;have:(#[v0]:Array Value)++#[]=#[v0]:=by simp
  rw[this];exact kl hf _
 rw[e,Oper.upon_enter];refine hc.mono fun en w' ⟨v,h1,h2⟩=>?_;subst h1;exact h2
noncomputable abbrev r7(i:Nat):Code:=rg Tryz.f241 i
theorem ZY:Tryz.f241.body=some (.seq (r7 0) (.seq (r7 1) .ret)):=by kernel_rfl
theorem adf:r7 0=.region 0 (opsOf (r7 0)) false:=by kernel_rfl
theorem adg:r7 1=.region 1 (opsOf (r7 1)) false:=by kernel_rfl
noncomputable def o7(r i:Nat):Oper:=((opsOf (r7 r))[i]?).getD { dst:=none,op:=.move (.tmp 0),type:=0,pos:= "",after:=#[],guard:=none }
theorem an0:(o7 1 1).op=.call { callee:=.value (.func 251),args:=#[.tmp 3],argTypes:=#[41] }:=by kernel_rfl
theorem an1:(opsOf (r7 1))[1]? = some (o7 1 1):=by kernel_rfl
theorem an2:(o7 1 1).guard=none:=by kernel_rfl
theorem an3:kj Tryz.prog 251:=mP 251 aaR (by kernel_rfl)
theorem Tg{d:ak}(wf:Wf d):Hd Tryz.prog 241 BC ((d,()),()) ((gi d,()),()):=by
 intro Z ψ0 w lP hg hr;have hr:ax Z ψ0 (Heap.get []) w [cM eV d] lP:=hr;have hg:Good Z ψ0 (Heap.get []) w w.heap.size (Own ψ0 (Heap.get [])):=hg;have FO:∀b,¬Own ψ0 (Heap.get []) b:=fun b ⟨i,h1,_⟩=>h1 rfl;simp only[ax]at hr;obtain⟨u0,_,rfl,hu,rfl⟩:=hr;refine y0 (r:=none) (n:=5) (callsIn_of_wp Tryz.func241 ZY trivial ?_ rfl);obtain⟨CV,MH⟩:∃t:Array Value,t=[u0].toArray++Array.replicate (Tryz.f241.ntmps-([u0].toArray:Array Value).size) undef:=⟨_,rfl⟩;rw[←MH];have hnt:Tryz.f241.ntmps=6:=by kernel_rfl
 have hs0:CV.size=6:=by rw[MH,hnt];simp
 have e0:CV.getD 0 undef=u0:=by rw[MH];simp
 show Code.wpIn Fence.wide 5 Tryz.prog _ _ _ w;refine wpIn_wide.2 (wp_seq ?_);rw[adf];refine wp_region ?_;rw[show(opsOf (r7 0)).size=2 by kernel_rfl,show List.range 2=[0,1] from rfl];refine dC (o:=o7 0 0) (by kernel_rfl) (by kernel_rfl) (ade (t:=41) (x:=.tmp 0) (by kernel_rfl)) ?_;rw[show(o7 0 0).dst=some 1 by kernel_rfl];have ev0:({ tmps:=CV,defers:=[] }:Act).eval (.tmp 0)=u0:=e0;rw[ev0];obtain⟨a1,H6⟩:∃a1,a1=({ tmps:=CV,defers:=[] }:Act).put (some 1) (.pointer (some ⟨w.heap.size,0,none⟩)):=⟨_,rfl⟩;rw[←H6];have Nd:a1.tmps.size=6:=by rw[H6,cX];exact hs0
 have Ow:a1.defers=[]:=by rw[H6,put_defers]
 have e1:a1.eval (.tmp 1)=.pointer (some ⟨w.heap.size,0,none⟩):=by rw[H6,eL (by show 1<CV.size;omega)]
 refine dC (o:=o7 0 1) (by kernel_rfl) (by kernel_rfl) (vm (x:=.const (.int .i64 0)) (by kernel_rfl)) ?_;rw[show(o7 0 1).dst=some 2 by kernel_rfl];obtain⟨a2,GQ⟩:∃a2,a2=a1.put (some 2) (a1.eval (.const (.int .i64 0))):=⟨_,rfl⟩;rw[←GQ];have TF:a2.tmps.size=6:=by rw[GQ,cX];exact Nd
 have YG:a2.defers=[]:=by rw[GQ,put_defers];exact Ow
 have e1':a2.eval (.tmp 1)=.pointer (some ⟨w.heap.size,0,none⟩):=by rw[GQ,pz (by decide)];exact e1
 show Code.wp _ _ _ a2 _;refine wp_seq ?_;rw[adg];refine wp_region ?_;rw[show(opsOf (r7 1)).size=4 by kernel_rfl,show List.range 4=[0,1,2,3] from rfl];obtain⟨w1,Gv⟩:∃x,x=w.alloc (.cells u0.cells 41):=⟨_,rfl⟩;rw[←Gv];have gw1:Gw (fun _=>False) w w1:=by rw[Gv];exact Gw.alloc _ _
 have V9:∃us:Array Value,u0=.agg us∧ax Z ψ0 (Heap.get []) w (enc eV d) us.toList:=by have:aD Z ψ0 (Heap.get []) w (.agg (enc eV d)) u0:=hu;simpa only[aD] using this
 obtain⟨us,rfl,Kw⟩:=V9;have sm1:cW Z w w1:=fun b hb=>gw1.block b (hg.kT b hb) fun h=>h;have ZZ:ax Z ψ0 (Heap.get []) w1 (enc eV d) us.toList:=Kw.less (fun _ h=>h) sm1 fun i hi=>⟨hi,rfl⟩;have g1:Good Z ψ0 (Heap.get []) w1 w1.heap.size Gh:=(hg.same (fun _ h=>h) (fun b hb=>hb.elim (fun h=>sm1 b h) fun h=>(FO b h).elim) (fun b hb=>(FO b hb).elim) (fun b hb=>adB (hg.kT b hb) gw1.size)).Xi fun b hb _=>(FO b hb).elim;have hbk:w1.heap[w.heap.size]? = some (.cells us 41 (0,0)):=by rw[Gv];exact Ib _ _
 obtain⟨V,hV,rV⟩:=kU (P:=Tryz.prog) (w:=w1) (t:=41) (a:=⟨w.heap.size,0,none⟩) (x:=cM eV d) ZZ (fun j u hu=>by rw[dp,Nat.zero_add];simp only[World.cell?,hbk];simpa using hu) (by kernel_rfl);refine dC (o:=o7 1 0) (by kernel_rfl) (by kernel_rfl) (CX (t:=41) (x:=.tmp 1) (by kernel_rfl) (by rw[e1'];exact hV)) ?_;rw[show(o7 1 0).dst=some 3 by kernel_rfl];obtain⟨a3,Ke⟩:∃a3,a3=a2.put (some 3) V:=⟨_,rfl⟩;rw[←Ke];have Sk:a3.tmps.size=6:=by rw[Ke,cX];exact TF
 have hd3:a3.defers=[]:=by rw[Ke,put_defers];exact YG
 have e3:a3.eval (.tmp 3)=V:=by rw[Ke,eL (by omega)]
 refine ZX (o:=o7 1 1) (f:=251) (x:=.tmp 3) (t:=41) an1 an2 an0 e3 an3 ((ZW wf g1 rV).mono ?_);rintro e w2 ⟨⟨A,c,rfl⟩,gw2⟩;refine⟨_,rfl,?_⟩;rw[show(o7 1 1).dst=some 4 by kernel_rfl];obtain⟨a4,TP⟩:∃a4,a4=a3.put (some 4) (.slice A (nf (labels d) d.1.length) c):=⟨_,rfl⟩;rw[←TP];have hs4:a4.tmps.size=6:=by rw[TP,cX];exact Sk
 have hd4:a4.defers=[]:=by rw[TP,put_defers];exact hd3
 have e4:a4.eval (.tmp 4)=.slice A (nf (labels d) d.1.length) c:=by rw[TP,eL (by omega)]
 refine dC (o:=o7 1 2) (by kernel_rfl) (by kernel_rfl) (Xs (t:=243) (e:=28) (x:=.tmp 4) (by kernel_rfl) MK e4) ?_;rw[show(o7 1 2).dst=some 5 by kernel_rfl];obtain⟨a5,ha5⟩:∃a5,a5=a4.put (some 5) (.int .i64 ((nf (labels d) d.1.length:Nat):Int)):=⟨_,rfl⟩;rw[←ha5];have hs5:a5.tmps.size=6:=by rw[ha5,cX];exact hs4
 have hd5:a5.defers=[]:=by rw[ha5,put_defers];exact hd4
 have e5:a5.eval (.tmp 5)=.int .i64 ((nf (labels d) d.1.length:Nat):Int):=by rw[ha5,eL (by omega)]
 refine dC (o:=o7 1 3) (by kernel_rfl) (by kernel_rfl) (vm (x:=.tmp 5) (by kernel_rfl)) ?_;rw[show(o7 1 3).dst=some 2 by kernel_rfl,e5];show Code.wp _ _ _ _ _;have yh:Tryz.f241.results=#[.tmp 2]:=by kernel_rfl
 refine wp_ret ?_;have gw:=gw1.trans gw2;have sm:cW Z w w2:=fun b hb=>gw.block b (hg.kT b hb) fun h=>h;refine⟨by rw[put_defers];exact hd5,_,results_tmp yh _ _ _,_,Z,ψ0,rfl,fun _ h=>h,fun b hb=>.inl hb,⟨gw.os,gw.tape,gw.output,gw.size,fun b hb _=>gw.block b hb fun h=>h⟩,?_,fun i hi=>(by cases hi),?_⟩
 ·exact(hg.same (fun _ h=>h) (fun b hb=>hb.elim (fun h=>sm b h) fun h=>(FO b h).elim) (fun b hb=>(FO b hb).elim) (fun b hb=>adB (hg.kT b hb) gw.size):Good Z ψ0 (Heap.get []) w2 w.heap.size (Own ψ0 (Heap.get [])))
 ·show aD Z ψ0 (Heap.get []) w2 (.int .i64 (gi d)) _;simp only[aD];rw[jt (by omega),if_pos rfl,XA wf]
end Go.Vs
namespace Go.Vs
open Go.Proofs Go.Cy
open Classical in
noncomputable def gvF:BB.A→Option BB.B:=fun(x:(ak×Unit)×Unit)=>if Wf x.1.1 then some ((cg x.1.1,()),()) else none
open Classical in
noncomputable def gvC:BC.A→Option BC.B:=fun(x:(ak×Unit)×Unit)=>if Wf x.1.1 then some ((gi x.1.1,()),()) else none
open Classical in
noncomputable def GP:(f:FuncId)→(g:aX)→Option (g.A→Option g.B):=fun f g =>if h:f=240∧g=BB then some (h.2▸gvF)
 else if h:f=241∧g=BC then some (h.2▸gvC)
 else none
theorem hgP:HG GP:=fun f g h=>by
 unfold GP;rw[dif_neg,dif_neg]
 ·rintro⟨rfl,_⟩;cases h
 ·rintro⟨rfl,_⟩;cases h
theorem ahU:GP 240 BB=some gvF:=by unfold GP;rw[dif_pos ⟨rfl,rfl⟩]
theorem ahV:GP 241 BC=some gvC:=by unfold GP;rw[dif_neg (by rintro⟨h,_⟩;cases h),dif_pos ⟨rfl,rfl⟩]
open Classical in
theorem pg:PG GP where
 h:=hgP
 f:=fun d hd=>Hr ahU (by show(if Wf d then some ((cg d,()),()) else none)=_;rw[if_pos hd];rfl)
 c:=fun d hd=>Hr ahV (by show(if Wf d then some ((gi d,()),()) else none)=_;rw[if_pos hd];rfl)
open Classical in
theorem adh{f:FuncId}{g:aX}{x:g.A}{y:g.B}(hs:Sg f=some g)(h:FX GP f g x=some y):Hd Tryz.prog f g x y:=by
 refine CC Wi E0 mP u4 (fun f g u x y _ hu hy=>?_) hs h;unfold GP at hu
 split at hu
 ·rename_i h;obtain⟨rfl,rfl⟩:=h
  cases hu
  obtain⟨⟨d,⟨⟩⟩,⟨⟩⟩:=x;have hy:(if Wf d then some ((cg d,()),()) else none)=some y:=hy
  split at hy
  ·rename_i hw
   cases hy
   exact Td hw
  ·cases hy
 ·split at hu
  ·rename_i h;obtain⟨rfl,rfl⟩:=h
   cases hu
   obtain⟨⟨d,⟨⟩⟩,⟨⟩⟩:=x;have hy:(if Wf d then some ((gi d,()),()) else none)=some y:=hy
   split at hy
   ·rename_i hw
    cases hy
    exact Tg hw
   ·cases hy
  ·cases hu
theorem ahW:OT GP:=ZE pg
theorem ahX(o:aE):fP GP o:=Zx hgP ahW o
end Go.Vs
