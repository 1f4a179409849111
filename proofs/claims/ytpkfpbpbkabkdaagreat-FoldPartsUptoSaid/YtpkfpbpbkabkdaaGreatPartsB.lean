/- The walk of the function that -/
import Derived.Test.YtpkfpbpbkabkdaaGreatPartsA
set_option linter.unusedSimpArgs false
set_option linter.unusedVariables false
namespace Go.Vs
open Go.Proofs
variable {Z Z' Z0:Nat→Prop} {ψ ψ' ψ0:Nat→Value} {h h':Hp} {w w' w0 W W' W1 W2 W3 Wd:World} {B0:Nat} {O N:Nat→Prop}
variable {a:Act} {lv:Value} {vs:List Value} {q:Nat}
theorem xY(i:Nat):(Array.replicate 16 false).getD i false=false:=by rw[Array.getD_eq_getD_getElem?,Array.getElem?_replicate];by_cases h:i<16<;>simp[h]
theorem add_one(n:Nat){k i:Nat}{c j:Int}{d:ak}{p:Pm}{L:List Int}(s:Pt Z0 w0 V4 (((k:Int),((i:Int),(c,(j,())))),(((d,()),()),(p,(L,())))) vs q a W)(hk:k<vs.length)(hi:i<d.1.length)(hq:q+1≤eE) :
  (r3 10).wpIn (FW none) n Tryz.prog (fun e a' W'=>e=.normal∧∃v',Pt Z0 w0 V0 ((c,(j,())),(((d,()),()),(p,(L,())))) (vs.set k v') (q+1) a' W') a W:=by
 obtain⟨lv,Z,ψ,s⟩:=s;have Zv:vs[k]? = some vs[k]:=abv hk;obtain⟨Wd,hWd⟩:∃x,x={ W with drawn:=W.drawn+1 }:=⟨_,rfl⟩;have gd:∀{L:Nat→Prop},Gw L W Wd:=fun {L}=>by rw[hWd];exact Gw.drawn W
 have fw:Wd.heap=W.heap:=by rw[hWd]
 have jd:Jr Wd lv vs q:=s.j.sub (L:=fun _=>False) gd fun _ _ h=>h;obtain⟨g,yx⟩:=acK jd Zv;have gdd:Good Z ψ (ar V4 (((k:Int),((i:Int),(c,(j,())))),(((d,()),()),(p,(L,()))))).heap.get Wd w0.heap.size C7:=s.g.same (fun _ h=>h) (fun b _=>by rw[fw]) (fun b hb hz=>(s.g.zA b hz).2 hb) fun b hb=>by rw[fw];exact s.g.jO b hb
 have r1:au Z ψ (ar V4 (((k:Int),((i:Int),(c,(j,())))),(((d,()),()),(p,(L,()))))).heap.get Wd (.ref 20001 0 0 0) (a.tmps.getD 1 undef):=(s.t.rep 1).less (fun _ h=>h) (fun b _=>by rw[fw]) fun i hi=>⟨hi,rfl⟩;obtain⟨pD,E8,pE,pF,Al,rd⟩:=Vt gdd rfl r1 hi;obtain⟨ie,z,he⟩:=acI;have ahA:=Jm Wd WY he Al rd.sz (.inr rfl);obtain⟨v',W2,ahB,zn,gw2,la⟩:=YD jd Zv hq rd.sz rd.one (o3 10 13).type;obtain⟨W3,u6,j3,gw3,hX⟩:=YE jd Zv yx gw2 zn la;have ahD:g<Wd.heap.size:=jd.o.lt yx.b;have r7:a.tmps.getD 7 undef=.int .i64 (k:Int):=by have:au Z ψ (ar V4 (((k:Int),((i:Int),(c,(j,())))),(((d,()),()),(p,(L,()))))).heap.get W (.int .i64 (k:Int)) (a.tmps.getD 7 undef):=s.t.rep 7;simpa only[au] using this
 have r5:a.tmps.getD 5 undef=.int .i64 (i:Int):=by have:au Z ψ (ar V4 (((k:Int),((i:Int),(c,(j,())))),(((d,()),()),(p,(L,()))))).heap.get W (.int .i64 (i:Int)) (a.tmps.getD 5 undef):=s.t.rep 5;simpa only[au] using this
 have D:Dw Wd (Wd.alloc (.cells Al.cells 31)) W2 W3 a lv k i vs[k] g pD E8 pE pF Al (.slice (some ⟨Wd.heap.size,0,none⟩) 1 1) v' :=⟨s.lv,r7,r5,yx.ix,yx.ld _ rfl,yx.ld _ (heap_alloc_old _ _ ahD),rd,ahA,ahB,u6⟩;rw[Vu];show Code.wpIn Fence.wide n Tryz.prog _ _ a W;refine wpIn_wide.2 (wp_region_any (by kernel_rfl) ?_);rw[←hWd,show(opsOf (r3 10)).size=16 from GB];have gE:=s.t.size;refine MN (I:=Iw a (zi lv k i vs[k] g pD E8 pE pF Al (.slice (some ⟨Wd.heap.size,0,none⟩) 1 1) v') Wd (Wd.alloc (.cells Al.cells 31)) W2 W3) (Pb D _) (fun L a' w' I hr=>?_) 16 (Array.replicate 16 false) a Wd (by decide) ⟨by simp,fun i e h _=>?_,fun i _ h=>?_,fun _ _=>rfl,gE,s.t.defers,?_⟩
 ·have h15:L.getD 15 false=true:=by have:=SH hr 16 15 (by omega) (by omega);rw[Array.getD_eq_getD_getElem?,Array.getElem?_eq_getElem (by rw[I.n];omega)]at this ⊢;simpa using this
  have hw:w'=W3:=by rw[I.w];unfold MR;rw[h15];rfl
  subst hw;refine⟨rfl,v',?_⟩;have s2:=MQ (a1:=a') s (gd.trans gw3) j3 (fun b hb=>by have:=hX b hb;rwa [fw]at this) ((I.cQ 4 (by omega)).trans s.lv) I.sz I.df (fun r hr=>?_) (fun r hr=>?_)
  ·refine MP ⟨lv,Z,ψ,s2⟩ rfl fun r hr=>?_;have hr:r∈[(11,AV.int .i64 c),(12,AV.int .i64 j),(1,AV.ref 20001 0 0 0),(3,AV.bC 31000),(10,AV.bC 31001)]:=hr;simp only[List.mem_cons,List.not_mem_nil,or_false]at hr;rcases hr with rfl|rfl|rfl|rfl|rfl<;>rfl
  ·have hr:r∈[(7,AV.int .i64 (k:Int)),(5,AV.int .i64 (i:Int)),(11,AV.int .i64 c),(12,AV.int .i64 j),(1,AV.ref 20001 0 0 0),(3,AV.bC 31000),(10,AV.bC 31001)]:=hr;simp only[List.mem_cons,List.not_mem_nil,or_false]at hr;rcases hr with rfl|rfl|rfl|rfl|rfl|rfl|rfl<;>exact I.cQ _ (by omega)
  ·have hr:r∈[(7,AV.int .i64 (k:Int)),(5,AV.int .i64 (i:Int)),(11,AV.int .i64 c),(12,AV.int .i64 j),(1,AV.ref 20001 0 0 0),(3,AV.bC 31000),(10,AV.bC 31001)]:=hr;simp only[List.mem_cons,List.not_mem_nil,or_false]at hr;rcases hr with rfl|rfl|rfl|rfl|rfl|rfl|rfl<;>rfl
 ·rw[xY]at h;cases h
 ·rw[xY]at h;cases h
 ·unfold MR;simp[xY]
end Go.Vs
namespace Go.Vs
open Go.Proofs Go.Cy
variable {Z Z' Z0:Nat→Prop} {ψ ψ' ψ0:Nat→Value} {h h':Hp} {w w' w0 W W' W1 W2 W3 Wd:World} {B0:Nat} {O N:Nat→Prop}
variable {a:Act} {lv:Value} {vs:List Value} {q:Nat}
theorem SK{α:Type}(x:Int)(es:List (Int×α)):qQ (.int .i64) x es=es.findIdx? fun e=>decide (e.1=x):=by
 show List.findIdx? (fun e:Int×α=>x==e.1) es=_;congr 1;funext e;by_cases h:x=e.1
 ·rw[decide_eq_true h.symm];exact beq_iff_eq.2 h
 ·rw[decide_eq_false (fun k=>h k.symm)];exact beq_eq_false_iff_ne.2 h
theorem YQ{α:Type}(x:Int)(es:List (Int×α)):fW (.int .i64) x es=eR x es:=by have:=Lk x es;rw[←SK]at this;exact this
theorem LB{α:Type}(x z:Int)(v:α)(es:List (Int×α)):eR z (jn (.int .i64) x v es)=if x=z then some v else eR z es:=by
 have e:=SK x es;unfold jn
 split
 ·rename_i i hi;exact xW (e.symm.trans hi)
 ·rename_i hi;exact xX (e.symm.trans hi)
theorem YR{d:ak}(hw:Wf d){i:Nat}(hi:i<d.1.length):∃r:Nat,r≤i∧(labels d).getD i 0=(r:Int)∧(labels d).getD r 0=(r:Int):=by have h:=ep hw;obtain⟨r,h1,h2,h3⟩:=h.l.i i hi;obtain⟨s,k1,k2,k3⟩:=h.l.i r (by omega);have:=h.r i hi s (by omega) (h3.trans k3);refine⟨r,h1,h2,?_⟩;rw[k2];congr 1;omega
def nf(L:List Int)(i:Nat):Nat:=((List.range i).filter fun j=>decide (L.getD j 0=(j:Int))).length
theorem MT(L:List Int)(i:Nat):nf L (i+1)=nf L i+if L.getD i 0=(i:Int) then 1 else 0:=by
 unfold nf;rw[List.range_succ,List.filter_append,List.length_append];congr 1;by_cases h:L.getD i 0=(i:Int)
 ·rw[if_pos h,List.filter_cons_of_pos (by simpa using h)];rfl
 ·rw[if_neg h,List.filter_cons_of_neg (by simpa using h)];rfl
theorem ac2(L:List Int)(i:Nat):nf L i≤i:=by unfold nf;have:=adI (fun j:Nat=>decide (L.getD j 0=(j:Int))) (List.range i);simpa using this
def Pl(L:List Int)(i:Nat)(p:Pm):Prop:=∀r:Nat,r<i→L.getD r 0=(r:Int)→∃k:Nat,k<nf L i∧eR (r:Int) p=some (k:Int)
abbrev xP(n i:Int)(d:ak)(p:Pm)(L:List Int):V0.T:=((n,(i,())),(((d,()),()),(p,(L,()))))
theorem MU{sh:Shape}{x:sh.T}(s:Pt Z0 w0 sh x vs q a W){i:Nat}{b:Bool}(e:look (ar sh x).tmps i=.bool b):a.eval (.tmp i)=.bool b:=by obtain⟨lv,Z,ψ,s⟩:=s;have:=s.t.rep i;rw[e]at this;exact this
theorem Vw:r3 12=.region 12 (opsOf (r3 12)) false:=by kernel_rfl
theorem SL(n:Nat){d:ak}(wf:Wf d){i:Nat}{p:Pm}{b:Bool}(hi:i<d.1.length)(hp:Pl (labels d) i p)(hv:vs.length=nf (labels d) i)(hq:q≤i) (s:Pt Z0 w0 V1 ((b,(((d.1.length:Nat):Int),((i:Int),()))),(((d,()),()),(p,(labels d,())))) vs q a W) :
  cB3.wpIn (FW none) n Tryz.prog (fun e a' W'=>e=.normal∧∃p' hM,Pl (labels d) (i+1) p'∧hM.length=nf (labels d) (i+1)∧Pt Z0 w0 V0 (xP ((d.1.length:Nat):Int) (i:Int) d p' (labels d)) hM (q+1) a' W') a W:=by
 have hn:=wf.nv;have hlen:=(ep wf).l.n;have hli:i<(labels d).length:=by omega
 obtain⟨r,Zk,JJ,hr3⟩:=YR wf hi;have nJ:(labels d)[i]? = some (r:Int):=by
  rw[List.getElem?_eq_getElem hli];have:(labels d).getD i 0=(labels d)[i]:=by simp[List.getD,hli]
  rw[←this,JJ]
 have h5:=(m5 F1 b ((d.1.length:Nat):Int) (i:Int) d p (labels d)).trans (ae (cY (kS i) (bg hli)) (aa (a:=(r:Int)) (by rw[Int.toNat_natCast];exact nJ) rfl));have alE:=ac2 (labels d) i;refine wpIn_seq (wpIn_mono (Vo h5 n s) ?_);rintro e a1 W1 ⟨rfl,hc⟩;refine wpIn_seq (wpIn_seq (wpIn_mono hc ?_));rintro e a2 W2 ⟨rfl,s2⟩;have Zr:=MU s2 (i:=19) rfl;have drop:=MP (sh':=V3) (y:=(((i:Int),((r:Int),(((d.1.length:Nat):Int),((i:Int),())))),(((d,()),()),(p,(labels d,()))))) s2 rfl fun t ht=>by have ht:t∈[(5,AV.int .i64 (i:Int)),(6,AV.int .i64 (r:Int)),(11,AV.int .i64 ((d.1.length:Nat):Int)),(12,AV.int .i64 (i:Int)),(1,AV.ref 20001 0 0 0),(3,AV.bC 31000),(10,AV.bC 31001)]:=ht;simp only[List.mem_cons,List.not_mem_nil,or_false]at ht;rcases ht with rfl|rfl|rfl|rfl|rfl|rfl|rfl<;>rfl
 have rest:∀(p':Pm) (hM:List Value) (a':Act) (W':World),Pl (labels d) (i+1) p'→hM.length=nf (labels d) (i+1)→Pt Z0 w0 V3 (((i:Int),((r:Int),(((d.1.length:Nat):Int),((i:Int),())))),(((d,()),()),(p',(labels d,())))) hM q a' W' →(Code.seq (r3 9) (r3 10)).wpIn (FW none) n Tryz.prog (fun e a' W'=>e=.normal∧∃p' hM,Pl (labels d) (i+1) p'∧hM.length=nf (labels d) (i+1)∧Pt Z0 w0 V0 (xP ((d.1.length:Nat):Int) (i:Int) d p' (labels d)) hM (q+1) a' W') a' W':=by intro p' hM a' W' P7 zn s';obtain⟨k,GK,mY⟩:=P7 r (by omega) hr3;have h9:=m9 F1 ((d.1.length:Nat):Int) (i:Int) (r:Int) (i:Int) d p' (labels d);rw[YQ,mY]at h9;refine wpIn_seq (wpIn_mono (Lx h9 n s') ?_);rintro e a3 W3 ⟨rfl,s3⟩;refine wpIn_mono (add_one n s3 (by omega) hi (by unfold eE;omega)) ?_;rintro e a4 W4 ⟨rfl,v',s4⟩;exact⟨rfl,p',hM.set k v',P7,by rw[List.length_set];exact zn,s4⟩
 by_cases hri:r=i
 ·subst hri;have ht:a2.eval (.tmp 19)=.bool true:=Zr.trans (by simp);refine wpIn_cond_true ht (wpIn_seq (wpIn_mono (Vq n drop) ?_));rintro e a3 W3 ⟨rfl,s3⟩;refine wpIn_mono (Vp n (by unfold eE;omega) s3 fun t ht=>?_) ?_
  ·have ht:t∈[(5,AV.int .i64 (r:Int)),(6,AV.int .i64 (r:Int)),(11,AV.int .i64 ((d.1.length:Nat):Int)),(12,AV.int .i64 (r:Int)),(1,AV.ref 20001 0 0 0),(3,AV.bC 31000),(10,AV.bC 31001)]:=ht;simp only[List.mem_cons,List.not_mem_nil,or_false]at ht;rcases ht with rfl|rfl|rfl|rfl|rfl|rfl|rfl<;>exact⟨rfl,by simp⟩
  rintro e a4 W4 ⟨rfl,s4⟩;have h1:nf (labels d) (r+1)=nf (labels d) r+1:=by rw[MT,if_pos hr3]
  refine rest _ _ a4 W4 (fun z ve zG=>?_) (by rw[List.length_append,hv,h1];rfl) s4;have gp:=LB (r:Int) (z:Int) ((vs.length:Nat):Int) p;by_cases hz:r=z
  ·subst hz;exact⟨nf (labels d) r,by omega,gp.trans (by rw[if_pos rfl,hv])⟩
  ·obtain⟨k,k1,k2⟩:=hp z (by omega) zG;refine⟨k,by omega,?_⟩;exact gp.trans (by rw[if_neg (by omega),k2])
 ·have ht:a2.eval (.tmp 19)=.bool false:=Zr.trans (by
   have:((r:Int)==(i:Int))=false:=by simp;omega
   rw[this])
  refine wpIn_cond_false ht (wpIn_skip ?_);have h1:nf (labels d) (i+1)=nf (labels d) i:=by rw[MT,if_neg (by rw[JJ];omega)];rfl
  refine rest p vs a2 W2 (fun z ve zG=>?_) (by rw[h1];exact hv) drop;rw[h1];exact hp z (by
   rcases ad3 z i with h|h
   ·exact h
   ·exfalso;have:z=i:=by omega
    subst this;rw[JJ]at zG;omega) zG
noncomputable abbrev xE(d:ak):VE.T:=(((((labels d).length:Nat):Int),((0:Int),())),(((d,()),()),(([]:Pm),(labels d,(([]:List (List ID)),())))))
theorem ahF:(o3 12 0).op=.move (.tmp 4):=by kernel_rfl
theorem ahG:(o3 12 1).op=.assign (.tmp 46):=by kernel_rfl
theorem Vx(n:Nat){sh:Shape}{x:sh.T}(s:Pt Z0 w0 sh x vs q a W):(r3 12).wpIn (FW none) n Tryz.prog (fun e a' W'=>e=.normal∧a'.defers=[]∧(∃A c,a'.tmps.getD 2 undef=.slice A vs.length c)∧Gw (fun _=>False) w0 W') a W:=by
 obtain⟨lv,Z,ψ,s⟩:=s;obtain⟨A,cap,TZ⟩:=s.j.o.slice;rw[Vw];show Code.wpIn Fence.wide n Tryz.prog _ _ a W;refine wpIn_wide.2 (wp_region ?_);have hs:(opsOf (r3 12)).size=2:=by kernel_rfl
 have g0:(opsOf (r3 12))[0]? = some (o3 12 0):=by kernel_rfl
 have g1:(opsOf (r3 12))[1]? = some (o3 12 1):=by kernel_rfl
 have d0:(o3 12 0).dst=some 46:=by kernel_rfl
 have d1:(o3 12 1).dst=some 2:=by kernel_rfl
 have gE:=s.t.size;rw[hs,show List.range 2=[0,1] from rfl];refine cP g0 (by kernel_rfl) (kr ahF) ?_;rw[d0];refine cP g1 (by kernel_rfl) (te ahG) ?_;rw[d1,dw (by omega)];refine⟨rfl,by rw[put_defers,put_defers];exact s.t.defers,⟨A,cap,?_⟩,s.wk.os,s.wk.tape,s.wk.output,s.wk.size,fun b hb _=>s.wk.block b hb fun h=>h⟩;rw[ib (by rw[cp];omega),if_pos rfl,←TZ];exact s.lv
theorem Vy{d:ak}(wf:Wf d){u0:Value}{O:Nat→Prop}(hg:Good Z ψ0 (Heap.get []) w w.heap.size O)(hu:au Z ψ0 (Heap.get []) w (b5 kZ d) u0) :
  Calls Tryz.prog 251 #[u0] w fun e w'=>(∃A c,e=.returned (.slice A (nf (labels d) d.1.length) c))∧Gw (fun _=>False) w w':=by
 have CT:∀b,¬Own ψ0 (Heap.get []) b:=fun b ⟨i,h1,_⟩=>h1 rfl;refine wA (r:=none) (n:=5) (callsIn_of_wp Tryz.func251 Vn trivial ?_ rfl);obtain⟨Ai,Ji⟩:∃t:Array Value,t=#[u0]++Array.replicate (Tryz.f251.ntmps-(#[u0]:Array Value).size) undef:=⟨_,rfl⟩;rw[←Ji];have hnt:Tryz.f251.ntmps=47:=by kernel_rfl
 have Yx:Ai.size=47:=by rw[Ji,hnt];simp
 have e0:Ai.getD 0 undef=u0:=by rw[Ji];simp
 have ahI:F1 256 ic ((d,()),())=some ((labels d,()),()):=Ss rfl (aco hg0 d wf);have hn:=(ahr F1 d).trans (aa ahI (show _=some (xE d) from rfl));have g0:Good Z ψ0 (Heap.get []) w w.heap.size C7:=hg.Sr fun b h _=>(CT b h).elim;have t0:cK Z ψ0 (Heap.get []) w 47 (look [(0,b5 kZ d)]) { tmps:=Ai,defers:=[] }:=by refine eL (fun p hp=>?_) Yx rfl;simp only[List.mem_cons,List.not_mem_nil,or_false]at hp;subst hp;show au _ _ _ _ _ (Ai.getD 0 undef);rw[e0];exact hu
 have run:=dK qh hn none 5 [] (Good.start g0) t0;rw[dB]at run;refine wpIn_seq (wpIn_mono run ?_);clear run;rintro e a1 W1 ⟨rfl,a2,rfl,_,iL,Z1,nW,q1,Vj,t1⟩;refine wpIn_seq (wpIn_mono (dK qh q1 none 5 _ Vj t1) ?_);rintro e a3 W3 ⟨rfl,a4,rfl,_,st2,Z2,dR,q2,C6,t2⟩;refine wpIn_seq (wpIn_mono (dK qh q2 none 5 _ C6 t2) ?_);rintro e a5 W5 ⟨rfl,a6,rfl,_,st3,Z3,Qa,q3,Vl,t3⟩;refine wpIn_seq (wpIn_seq (wpIn_mono (dK qh q3 none 5 _ Vl t3) ?_));rintro e a7 W7 ⟨rfl,a8,rfl,_,st4,Z4,Bf,q4,Yt,t4⟩;rw[dB];obtain⟨Z5,MJ,WZ,t5⟩:=gq q4 Yt t4;clear q1 q2 q3 q4 Vj C6 Vl Yt t1 t2 t3 t4;have hlen:(labels d).length=d.1.length:=(ep wf).l.n;have g5:=WZ.Lr g0 (acn _);have wk5:Wk Z w C7 Z5 W7:=⟨WZ.fN,fun b hb=>(WZ.eC b hb).imp (fun h=>h) fun h=>h.imp (fun h=>(CT b h).elim) fun h=>h,WZ.os,WZ.tape,WZ.output,WZ.size,fun b hb _=>WZ.block b hb (CT b)⟩;have start:Pt Z w V0 (xP (((labels d).length:Nat):Int) (0:Int) d ([]:Pm) (labels d)) [] 0 a8 W7:=by
  have eh:(ar VE (xE d)).heap=(ar V0 (xP (((labels d).length:Nat):Int) (0:Int) d ([]:Pm) (labels d))).heap++[(31002,.own (.row 28 (.sl jZ)) [])]:=rfl;have sub:∀i o,(ar V0 (xP (((labels d).length:Nat):Int) (0:Int) d ([]:Pm) (labels d))).heap.get i=some o→(ar VE (xE d)).heap.get i=some o:=fun i o ho=>by rw[eh];exact xV ho
  have qG:(ar V0 (xP (((labels d).length:Nat):Int) (0:Int) d ([]:Pm) (labels d))).heap.get 31002=none:=rfl;have h2:(ar VE (xE d)).heap.get 31002=some (.own (.row 28 (.sl jZ)) []):=rfl;have mR:=g5.row 31002 (.row 28 (.sl jZ)) [] h2;obtain⟨cs,ho,_⟩:=mR;have Fq:cs=[]:=ace (by rw[ho.1];rfl);subst Fq;have r4:au Z5 MJ (ar VE (xE d)).heap.get W7 (.bC 31002) (a8.tmps.getD 4 undef):=t5.rep 4;simp only[au]at r4;have e4:=r4.2 (by rw[h2];simp);have nn:∀{i},(ar V0 (xP (((labels d).length:Nat):Int) (0:Int) d ([]:Pm) (labels d))).heap.get i≠none→(ar VE (xE d)).heap.get i≠none:=fun {i} hi=>by obtain⟨o,ho⟩:=acf.1 hi;rw[sub i o ho];simp
  refine⟨MJ 31002,Z5,MJ,wk5,g5.sub sub,eL (fun p hp=>?_) t5.size t5.defers,⟨ho,fun v hv=>(by cases hv),fun j k v u b h1=>(by simp at h1),fun v hv=>(by cases hv)⟩,fun b hb=>?_,fun b hb=>?_,e4⟩
  ·have hp:p∈[(11,AV.int .i64 (((labels d).length:Nat):Int)),(12,AV.int .i64 (0:Int)),(1,AV.ref 20001 0 0 0),(3,AV.bC 31000),(10,AV.bC 31001)]:=hp;simp only[List.mem_cons,List.not_mem_nil,or_false]at hp;rcases hp with rfl|rfl|rfl|rfl|rfl
   ·exact t5.rep 11
   ·exact t5.rep 12
   ·exact Gu (fun _ h=>h) (t5.rep 1) fun hi=>⟨nn hi,rfl⟩
   ·exact Aj (t5.rep 3) fun hi=>⟨nn hi,rfl⟩
   ·exact Aj (t5.rep 10) fun hi=>⟨nn hi,rfl⟩
  ·rcases hb with hb|⟨v,hv,_⟩
   ·have hl:=g5.live 31002 b (by rw[h2];simp) hb;refine⟨ho.lt hb,hl.1,fun⟨i,k1,k2⟩=>?_⟩;have:=g5.apart i 31002 b (nn k1) (by rw[h2];simp) k2 hb;subst this;exact k1 qG
   ·cases hv
  ·rcases hb with hb|⟨v,hv,_⟩
   ·exact(g5.live 31002 b (by rw[h2];simp) hb).2.elim (fun h=>h) fun h=>h.elim
   ·cases hv
 rw[hlen]at start;refine wpIn_block ?_;refine Gx (fun k a W=>∃(i:Nat) (p:Pm) (vs:List Value) (q:Nat),i≤d.1.length∧k=d.1.length-i∧q≤i∧Pl (labels d) i p∧vs.length=nf (labels d) i∧Pt Z w V0 (xP ((d.1.length:Nat):Int) (i:Int) d p (labels d)) vs q a W) (k:=d.1.length) ⟨0,[],[],0,adO _,rfl,acn _,fun r hr=>by omega,rfl,start⟩ ?_;rintro k a W ⟨i,p,vs,q,hi,rfl,hq,hp,hv,s⟩;refine wpIn_seq (wpIn_mono (Lx (m4 F1 ((d.1.length:Nat):Int) (i:Int) _) 5 s) ?_);rintro e a1 W1 ⟨rfl,s1⟩;have TD:=MU s1 (i:=13) rfl;by_cases aF:i<d.1.length
 case neg =>
  have e:i=d.1.length:=by omega
  have ef:decide ((i:Int)<((d.1.length:Nat):Int))=false:=decide_eq_false (by omega);rw[ef]at TD;refine wpIn_seq (wpIn_cond_false TD (wpIn_exit ?_));show Code.wpIn _ _ _ _ _ _ _;refine wpIn_seq (wpIn_mono (Vx 5 s1) ?_);rintro e a2 W2 ⟨rfl,hd,⟨A,c,h2⟩,gw⟩;refine wpIn_ret ?_;have zp:Tryz.f251.results=#[.tmp 2]:=by kernel_rfl
  refine⟨hd,_,results_tmp zp _ _ _,⟨A,c,?_⟩,gw⟩;rw[h2,hv,←‹i=d.1.length›]
 have et:decide ((i:Int)<((d.1.length:Nat):Int))=true:=bg aF;refine wpIn_seq (wpIn_cond_true (TD.trans (congrArg Value.bool et)) (wpIn_skip ?_));refine wpIn_seq (wpIn_block (wpIn_mono (SL 5 wf aF hp hv hq s1) ?_));rintro e a2 W2 ⟨rfl,p',hM,P7,zn,s2⟩;have JZ:=wf.nv;refine wpIn_mono (Lx (m11 F1 ((d.1.length:Nat):Int) (i:Int) _) 5 s2) ?_;rintro e a3 W3 ⟨rfl,s3⟩;have ew:=aK aF (show d.1.length≤1073741824 by omega);rw[ew]at s3;exact⟨d.1.length-(i+1),by omega,i+1,p',hM,q+1,by omega,rfl,by omega,P7,zn,s3⟩
theorem SM{d:ak}(wf:Wf d):((nf (labels d) d.1.length:Nat):Int)=gX d:=by rw[tc wf];unfold lh nf;rw[List.length_map]
theorem YS{P:Program}{ρC:Operand→Value}{o:Oper}{t:TypeId}{x:Operand}(h:o.op=.box t x):(execOp ρC o).run P w=.ok (.value (.pointer (some ⟨w.heap.size,0,none⟩))) (w.alloc (.cells (ρC x).cells t)):=by unfold execOp;rw[h];rfl
theorem Vz{P:Program}{ops:Array Oper}{Q:Exit→Act→World→Prop}{i:Nat}{rest:List Nat}{o:Oper}{f:FuncId}{x:Operand}{t:TypeId}{v0:Value}(ho:ops[i]? = some o)(hg:o.guard=none) (C3:o.op=.call { callee:=.value (.func f),args:=#[x],argTypes:=#[t] }) (hx:a.eval x=v0) (hf:jv P f) (hc:Calls P f #[v0] w fun e w'=>∃v,e=.returned v∧wpOps P ops Q rest (a.put o.dst v) w'):wpOps P ops Q (i::rest) a w:=by
 rw[wpOps_cons];unfold wpOp;simp only[ho,lP hg,if_true];refine .inl ?_;unfold Oper.wp;have e:(execOp a.eval o).run P w=.ok (.enter f #[v0]) w:=by
  unfold execOp;rw[C3];show((do let d ←Deferred.ofValue (.func (.func f) #[] #[]) ((#[x]:Array Operand).map a.eval);invoke d.target d.args:Sem Go.Next)).run _ _=_;have hm:(#[x]:Array Operand).map a.eval=#[v0]:=by simp[hx]
  rw[hm];show(callFunc f (#[v0]++#[])).run P w=_;have:(#[v0]:Array Value)++#[]=#[v0]:=by simp
  rw[this];exact jw hf _
 rw[e,Oper.upon_enter];refine hc.mono fun en w' ⟨v,h1,h2⟩=>?_;subst h1;exact h2
noncomputable abbrev r7(i:Nat):Code:=rg Tryz.f241 i
theorem VA:Tryz.f241.body=some (.seq (r7 0) (.seq (r7 1) .ret)):=by kernel_rfl
theorem YT:r7 0=.region 0 (opsOf (r7 0)) false:=by kernel_rfl
theorem YU:r7 1=.region 1 (opsOf (r7 1)) false:=by kernel_rfl
noncomputable def o7(r i:Nat):Oper:=((opsOf (r7 r))[i]?).getD { dst:=none,op:=.move (.tmp 0),type:=0,pos:= "",after:=#[],guard:=none }
theorem ahJ:(o7 1 1).op=.call { callee:=.value (.func 251),args:=#[.tmp 3],argTypes:=#[41] }:=by kernel_rfl
theorem ahK:(opsOf (r7 1))[1]? = some (o7 1 1):=by kernel_rfl
theorem ahL:(o7 1 1).guard=none:=by kernel_rfl
theorem ahM:jv Tryz.prog 251:=ly 251 Wm (by kernel_rfl)
theorem Pc{d:ak}(wf:Wf d):Ef Tryz.prog 241 yP ((d,()),()) ((gX d,()),()):=by
 intro Z ψ0 w kA hg hr;have hr:an Z ψ0 (Heap.get []) w [b5 kZ d] kA:=hr;have hg:Good Z ψ0 (Heap.get []) w w.heap.size (Own ψ0 (Heap.get [])):=hg;have CT:∀b,¬Own ψ0 (Heap.get []) b:=fun b ⟨i,h1,_⟩=>h1 rfl;simp only[an]at hr;obtain⟨u0,_,rfl,hu,rfl⟩:=hr;refine wA (r:=none) (n:=5) (callsIn_of_wp Tryz.func241 VA trivial ?_ rfl);obtain⟨Ai,Ji⟩:∃t:Array Value,t=[u0].toArray++Array.replicate (Tryz.f241.ntmps-([u0].toArray:Array Value).size) undef:=⟨_,rfl⟩;rw[←Ji];have hnt:Tryz.f241.ntmps=6:=by kernel_rfl
 have Yx:Ai.size=6:=by rw[Ji,hnt];simp
 have e0:Ai.getD 0 undef=u0:=by rw[Ji];simp
 show Code.wpIn Fence.wide 5 Tryz.prog _ _ _ w;refine wpIn_wide.2 (wp_seq ?_);rw[YT];refine wp_region ?_;rw[show(opsOf (r7 0)).size=2 by kernel_rfl,show List.range 2=[0,1] from rfl];refine cP (o:=o7 0 0) (by kernel_rfl) (by kernel_rfl) (YS (t:=41) (x:=.tmp 0) (by kernel_rfl)) ?_;rw[show(o7 0 0).dst=some 1 by kernel_rfl];have ev0:({ tmps:=Ai,defers:=[] }:Act).eval (.tmp 0)=u0:=e0;rw[ev0];obtain⟨a1,E2⟩:∃a1,a1=({ tmps:=Ai,defers:=[] }:Act).put (some 1) (.pointer (some ⟨w.heap.size,0,none⟩)):=⟨_,rfl⟩;rw[←E2];have JM:a1.tmps.size=6:=by rw[E2,cp];exact Yx
 have K3:a1.defers=[]:=by rw[E2,put_defers]
 have e1:a1.eval (.tmp 1)=.pointer (some ⟨w.heap.size,0,none⟩):=by rw[E2,dw (by show 1<Ai.size;omega)]
 refine cP (o:=o7 0 1) (by kernel_rfl) (by kernel_rfl) (te (x:=.const (.int .i64 0)) (by kernel_rfl)) ?_;rw[show(o7 0 1).dst=some 2 by kernel_rfl];obtain⟨a2,Dy⟩:∃a2,a2=a1.put (some 2) (a1.eval (.const (.int .i64 0))):=⟨_,rfl⟩;rw[←Dy];have LQ:a2.tmps.size=6:=by rw[Dy,cp];exact JM
 have Ul:a2.defers=[]:=by rw[Dy,put_defers];exact K3
 have e1':a2.eval (.tmp 1)=.pointer (some ⟨w.heap.size,0,none⟩):=by rw[Dy,nE (by decide)];exact e1
 show Code.wp _ _ _ a2 _;refine wp_seq ?_;rw[YU];refine wp_region ?_;rw[show(opsOf (r7 1)).size=4 by kernel_rfl,show List.range 4=[0,1,2,3] from rfl];obtain⟨w1,Km⟩:∃x,x=w.alloc (.cells u0.cells 41):=⟨_,rfl⟩;rw[←Km];have gw1:Gw (fun _=>False) w w1:=by rw[Km];exact Gw.alloc _ _
 have hu':∃us:Array Value,u0=.agg us∧an Z ψ0 (Heap.get []) w (enc kZ d) us.toList:=by have:au Z ψ0 (Heap.get []) w (.agg (enc kZ d)) u0:=hu;simpa only[au] using this
 obtain⟨us,rfl,Hd⟩:=hu';have YB:cj Z w w1:=fun b hb=>gw1.block b (hg.jO b hb) fun h=>h;have VB:an Z ψ0 (Heap.get []) w1 (enc kZ d) us.toList:=Hd.less (fun _ h=>h) YB fun i hi=>⟨hi,rfl⟩;have g1:Good Z ψ0 (Heap.get []) w1 w1.heap.size C7:=(hg.same (fun _ h=>h) (fun b hb=>hb.elim (fun h=>YB b h) fun h=>(CT b h).elim) (fun b hb=>(CT b hb).elim) (fun b hb=>adL (hg.jO b hb) gw1.size)).Sr fun b hb _=>(CT b hb).elim;have ZT:w1.heap[w.heap.size]? = some (.cells us 41 (0,0)):=by rw[Km];exact E7 _ _
 obtain⟨V,hV,rV⟩:=jT (P:=Tryz.prog) (w:=w1) (t:=41) (a:=⟨w.heap.size,0,none⟩) (x:=b5 kZ d) VB (fun j u hu=>by rw[cw,Nat.zero_add];simp only[World.cell?,ZT];simpa using hu) (by kernel_rfl);refine cP (o:=o7 1 0) (by kernel_rfl) (by kernel_rfl) (Ak (t:=41) (x:=.tmp 1) (by kernel_rfl) (by rw[e1'];exact hV)) ?_;rw[show(o7 1 0).dst=some 3 by kernel_rfl];obtain⟨a3,GQ⟩:∃a3,a3=a2.put (some 3) V:=⟨_,rfl⟩;rw[←GQ];have Oa:a3.tmps.size=6:=by rw[GQ,cp];exact LQ
 have hd3:a3.defers=[]:=by rw[GQ,put_defers];exact Ul
 have e3:a3.eval (.tmp 3)=V:=by rw[GQ,dw (by omega)]
 refine Vz (o:=o7 1 1) (f:=251) (x:=.tmp 3) (t:=41) ahK ahL ahJ e3 ahM ((Vy wf g1 rV).mono ?_);rintro e w2 ⟨⟨A,c,rfl⟩,gw2⟩;refine⟨_,rfl,?_⟩;rw[show(o7 1 1).dst=some 4 by kernel_rfl];obtain⟨a4,PA⟩:∃a4,a4=a3.put (some 4) (.slice A (nf (labels d) d.1.length) c):=⟨_,rfl⟩;rw[←PA];have hs4:a4.tmps.size=6:=by rw[PA,cp];exact Oa
 have hd4:a4.defers=[]:=by rw[PA,put_defers];exact hd3
 have e4:a4.eval (.tmp 4)=.slice A (nf (labels d) d.1.length) c:=by rw[PA,dw (by omega)]
 refine cP (o:=o7 1 2) (by kernel_rfl) (by kernel_rfl) (SC (t:=243) (e:=28) (x:=.tmp 4) (by kernel_rfl) Jl e4) ?_;rw[show(o7 1 2).dst=some 5 by kernel_rfl];obtain⟨a5,ha5⟩:∃a5,a5=a4.put (some 5) (.int .i64 ((nf (labels d) d.1.length:Nat):Int)):=⟨_,rfl⟩;rw[←ha5];have hs5:a5.tmps.size=6:=by rw[ha5,cp];exact hs4
 have hd5:a5.defers=[]:=by rw[ha5,put_defers];exact hd4
 have e5:a5.eval (.tmp 5)=.int .i64 ((nf (labels d) d.1.length:Nat):Int):=by rw[ha5,dw (by omega)]
 refine cP (o:=o7 1 3) (by kernel_rfl) (by kernel_rfl) (te (x:=.tmp 5) (by kernel_rfl)) ?_;rw[show(o7 1 3).dst=some 2 by kernel_rfl,e5];show Code.wp _ _ _ _ _;have zp:Tryz.f241.results=#[.tmp 2]:=by kernel_rfl
 refine wp_ret ?_;have gw:=gw1.trans gw2;have sm:cj Z w w2:=fun b hb=>gw.block b (hg.jO b hb) fun h=>h;refine⟨by rw[put_defers];exact hd5,_,results_tmp zp _ _ _,_,Z,ψ0,rfl,fun _ h=>h,fun b hb=>.inl hb,⟨gw.os,gw.tape,gw.output,gw.size,fun b hb _=>gw.block b hb fun h=>h⟩,?_,fun i hi=>(by cases hi),?_⟩
 ·exact(hg.same (fun _ h=>h) (fun b hb=>hb.elim (fun h=>sm b h) fun h=>(CT b h).elim) (fun b hb=>(CT b hb).elim) (fun b hb=>adL (hg.jO b hb) gw.size):Good Z ψ0 (Heap.get []) w2 w.heap.size (Own ψ0 (Heap.get [])))
 ·show au Z ψ0 (Heap.get []) w2 (.int .i64 (gX d)) _;simp only[au];rw[ib (by omega),if_pos rfl,SM wf]
end Go.Vs
namespace Go.Vs
open Go.Proofs Go.Cy
open Classical in
noncomputable def gvF:yO.A→Option yO.B:=fun(x:(ak×Unit)×Unit)=>if Wf x.1.1 then some ((bR x.1.1,()),()) else none
open Classical in
noncomputable def gvC:yP.A→Option yP.B:=fun(x:(ak×Unit)×Unit)=>if Wf x.1.1 then some ((gX x.1.1,()),()) else none
open Classical in
noncomputable def GP:(f:FuncId)→(g:aO)→Option (g.A→Option g.B):=fun f g =>if h:f=240∧g=yO then some (h.2▸gvF)
 else if h:f=241∧g=yP then some (h.2▸gvC)
 else none
theorem hgP:HG GP:=fun f g h=>by
 unfold GP;rw[dif_neg,dif_neg]
 ·rintro⟨rfl,_⟩;cases h
 ·rintro⟨rfl,_⟩;cases h
theorem ac3:GP 240 yO=some gvF:=by unfold GP;rw[dif_pos ⟨rfl,rfl⟩]
theorem ac4:GP 241 yP=some gvC:=by unfold GP;rw[dif_neg (by rintro⟨h,_⟩;cases h),dif_pos ⟨rfl,rfl⟩]
open Classical in
theorem pg:PG GP where
 h:=hgP
 f:=fun d hd=>Es ac3 (by show(if Wf d then some ((bR d,()),()) else none)=_;rw[if_pos hd];rfl)
 c:=fun d hd=>Es ac4 (by show(if Wf d then some ((gX d,()),()) else none)=_;rw[if_pos hd];rfl)
open Classical in
theorem YV{f:FuncId}{g:aO}{x:g.A}{y:g.B}(hs:Sg f=some g)(h:FX GP f g x=some y):Ef Tryz.prog f g x y:=by
 refine z5 Ry Ca ly sN (fun f g u x y _ hu hy=>?_) hs h;unfold GP at hu
 split at hu
 ·rename_i h;obtain⟨rfl,rfl⟩:=h
  cases hu
  obtain⟨⟨d,⟨⟩⟩,⟨⟩⟩:=x;have hy:(if Wf d then some ((bR d,()),()) else none)=some y:=hy
  split at hy
  ·rename_i hw
   cases hy
   exact O8 hw
  ·cases hy
 ·split at hu
  ·rename_i h;obtain⟨rfl,rfl⟩:=h
   cases hu
   obtain⟨⟨d,⟨⟩⟩,⟨⟩⟩:=x;have hy:(if Wf d then some ((gX d,()),()) else none)=some y:=hy
   split at hy
   ·rename_i hw
    cases hy
    exact Pc hw
   ·cases hy
  ·cases hu
theorem W0:rN GP:=Vf pg
theorem ac5(o:aY):eQ GP o:=U9 hgP W0 o
end Go.Vs
