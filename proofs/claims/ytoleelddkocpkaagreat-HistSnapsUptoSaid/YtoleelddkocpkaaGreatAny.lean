/- Any states -/
import Derived.Test.YtoleelddkocpkaaGreatPack
set_option linter.unusedVariables false
set_option linter.unusedSimpArgs false
set_option autoImplicit false
namespace Go.Vs
open Go Go.Proofs
variable {G:(f:FuncId)→(g:aO)→Option (g.A→Option g.B)}
structure xR(d:ar):Prop where
 v:((d.1.map (·.1)).Pairwise fun a b=>fD a b=true)∧∀x∈d.1.map (·.1),bQ x=true
 e:((d.2.map (·.1)).Pairwise fun a b=>fD a b=true)∧∀x∈d.2.map (·.1),bQ x=true
 r:sE d
def KD(d:ar):Bool:=d.1.all (fun v=>dY v.2.2.1)&&d.2.all (fun e=>dY e.2.1)
def atB(d:ar):Bool:=d.1.all (fun v=>dE v.2.2.2)&&d.2.all (fun e=>dE e.2.2)
def RJ(l a:Bool):Int:=if l then(if a then 0 else 1) else 4
open Classical in
noncomputable def oy(d:ar):Int:=if 24<d.1.length∨40<d.2.length then 3 else if xR d then RJ (KD d) (atB d) else 10
theorem sG{d:ar}:oy d=0↔Wf d:=by
 unfold oy;constructor
 ·intro h
  split at h
  ·cases h
  rename_i hb
  split at h
  ·rename_i hf;have hl:KD d=true:=by cases k:KD d with
    |true=>rfl
    |false=>rw[k]at h;cases h
   have ha:atB d=true:=by cases k:atB d with
    |true=>rfl
    |false=>rw[hl,k]at h;cases h
   unfold KD at hl;unfold atB at ha;simp only[Bool.and_eq_true,List.all_eq_true]at hl ha;exact aaF (by omega) (by omega) hf.v.1 hf.v.2 hf.e.1 hf.e.2 hf.r ⟨fun v hv=>⟨hl.1 v hv,ha.1 v hv⟩,fun e he=>⟨hl.2 e he,ha.2 e he⟩⟩
  ·cases h
 ·intro h;have h1:=h.nv;have h2:=h.ne;obtain⟨n1,n2,n3,n4⟩:=Ni h;have hl:=aee h;rw[if_neg (by omega),if_pos ⟨⟨n1,n2⟩,⟨n3,n4⟩,XZ h⟩];have e1:KD d=true:=by unfold KD;simp only[Bool.and_eq_true,List.all_eq_true];exact⟨fun v hv=>(hl.v v hv).1,fun e he=>(hl.e e he).1⟩
  have e2:atB d=true:=by unfold atB;simp only[Bool.and_eq_true,List.all_eq_true];exact⟨fun v hv=>(hl.v v hv).2,fun e he=>(hl.e e he).2⟩
  rw[e1,e2];rfl
theorem ajr(hG:HG G)(d:ar)(hs:Sm d)(tv:∀v∈d.1,v.2.2.1.size≤100000000)(te:∀e∈d.2,e.2.1.size≤100000000):FX G 98 CB ((d,()),())=some ((oy d,()),()):=by
 refine au (hG _ _ rfl) alB ?_;unfold oy;by_cases hn:24<d.1.length
 ·rw[if_pos (.inl hn)];exact ae (decide_eq_true (show((d.1.length:Nat):Int)>24 by omega)) rfl
 refine af (decide_eq_false (show ¬((d.1.length:Nat):Int)>24 by omega)) ?_;by_cases hm:40<d.2.length
 ·rw[if_pos (.inr hm)];exact ae (decide_eq_true (show((d.2.length:Nat):Int)>40 by omega)) rfl
 refine af (decide_eq_false (show ¬((d.2.length:Nat):Int)>40 by omega)) ?_;rw[if_neg (by omega)];obtain⟨ids,s5⟩:∃ids,ids=d.1.map (·.1)++d.2.map (·.1):=⟨_,rfl⟩;have l1:(d.1.map (·.1)).length=d.1.length:=List.length_map _;have l2:(d.2.map (·.1)).length=d.2.length:=List.length_map _;have nP:ids.length=d.1.length+d.2.length:=by rw[s5,List.length_append,l1,l2]
 have c1:cut ids 0 ((d.1.length:Nat):Int)=d.1.map (·.1):=by rw[s5,←l1];exact XX _ _
 have c2:cut ids ((d.1.length:Nat):Int) ((ids.length:Nat):Int)=d.2.map (·.1):=by rw[s5,←l1];exact XY _ _
 obtain⟨b1,k1,p1⟩:=aiF hG (d.1.map (·.1)) (by rw[l1];omega);obtain⟨b2,k2,p2⟩:=aiF hG (d.2.map (·.1)) (by rw[l2];omega);obtain⟨b3,k3,p3⟩:=an8 hG d hs (by omega);have o1:aq ids.length 0 ((d.1.length:Nat):Int)=true:=by unfold aq;rw[nP];simp only[Bool.and_eq_true,decide_eq_true_eq];omega
 have o2:aq ids.length ((d.1.length:Nat):Int) ((ids.length:Nat):Int)=true:=by unfold aq;rw[nP];simp only[Bool.and_eq_true,decide_eq_true_eq];omega
 have kc1:FX G 147 yN ((cut ids 0 ((d.1.length:Nat):Int),()),())=some ((b1,()),()):=(congrArg (fun q:List ID=>FX G 147 yN ((q,()),())) c1).trans k1;have kc2:FX G 147 yN ((cut ids ((d.1.length:Nat):Int) ((ids.length:Nat):Int),()),())=some ((b2,()),()):=(congrArg (fun q:List ID=>FX G 147 yN ((q,()),())) c2).trans k2;have h82:=an7 hG d hs.v hs.e;rw[←s5]at h82;refine aa h82 (ae o1 (aa kc1 (ae o2 (aa kc2 ?_))))
 cases b1 with
 |false=>rw[if_neg fun k:xR d=>by have:=p1.2 k.v;cases this];exact ae rfl rfl
 |true =>
 refine af rfl ?_
 cases b2 with
 |false=>rw[if_neg fun k:xR d=>by have:=p2.2 k.e;cases this];exact ae rfl rfl
 |true =>
 refine af rfl (aa k3 ?_)
 cases b3 with
 |false=>rw[if_neg fun k:xR d=>by have:=p3.2 k.r;cases this];exact ae rfl rfl
 |true =>
 refine af rfl ?_;rw[if_pos ⟨p1.1 rfl,p2.1 rfl,p3.1 rfl⟩];have XV:∀lb ab:Bool,LX G 98 CB Tryz.f98 rS (aE Tryz.prog 98 1) ((lb,(ab,((0:Int),()))),(((d,()),()),()))=some ((RJ (lb&&d.2.all fun e=>dY e.2.1) (ab&&d.2.all fun e=>dE e.2.2),()),()):=fun lb ab =>bh d.2 (fun i (s:Bool×Bool)=>LX G 98 CB Tryz.f98 rS (aE Tryz.prog 98 1) ((s.1,(s.2,(i,()))),(((d,()),()),()))) (fun r s=>((RJ (s.1&&r.all fun e=>dY e.2.1) (s.2&&r.all fun e=>dE e.2.2),()),())) (fun _ _=>True) (fun s _=>by
    obtain⟨lb,ab⟩:=s;refine ak VU (af (bW _) ?_)
    cases lb<;>cases ab<;>rfl)
   (fun i e r s hi hx _ _ ih=>by
    obtain⟨lb,ab⟩:=s;have f28:=aho (hG 122 CA rfl) e.2.1 (te _ (abC hx));have f29:=ahp (hG 121 Ex rfl) e.2.2;have go:=ih (lb&&dY e.2.1,ab&&dE e.2.2) trivial;have eg:((lb&&dY e.2.1)&&r.all fun e=>dY e.2.1)=(lb&&(e::r).all fun e=>dY e.2.1):=by rw[List.all_cons,Bool.and_assoc]
    have eh:((ab&&dE e.2.2)&&r.all fun e=>dE e.2.2)=(ab&&(e::r).all fun e=>dE e.2.2):=by rw[List.all_cons,Bool.and_assoc]
    simp only[eg,eh]at go;have ew:=aB hi (by omega);refine ak VU (ae (aJ hi) ?_);rw[wI,ew]
    cases lb<;>cases ab
    ·exact go
    ·exact af rfl (ae rfl (aa (ai hx) (aa f29 go)))
    ·exact ae rfl (aa (ai hx) (aa f28 (af rfl go)))
    ·exact ae rfl (aa (ai hx) (aa f28 (ae rfl (aa (ai hx) (aa f29 go)))))) (lb,ab) trivial
 have XW:=bh d.1 (fun i (s:Bool×Bool)=>LX G 98 CB Tryz.f98 tZ (aE Tryz.prog 98 0) ((((d.1.length:Nat):Int),(s.1,(s.2,(i,())))),(((d,()),()),()))) (fun r s=>((RJ ((s.1&&r.all fun v=>dY v.2.2.1)&&d.2.all fun e=>dY e.2.1) ((s.2&&r.all fun v=>dE v.2.2.2)&&d.2.all fun e=>dE e.2.2),()),())) (fun _ _=>True) (fun s _=>by obtain⟨lb,ab⟩:=s;refine ak VT (af (bW _) ((XV lb ab).trans ?_));simp only[List.all_nil,Bool.and_true];rfl) (fun i e r s hi hx _ _ ih=>by
    obtain⟨lb,ab⟩:=s;have f28:=aho (hG 122 CA rfl) e.2.2.1 (tv _ (abC hx));have f29:=ahp (hG 121 Ex rfl) e.2.2.2;have go:=ih (lb&&dY e.2.2.1,ab&&dE e.2.2.2) trivial;have eg:((lb&&dY e.2.2.1)&&r.all fun e=>dY e.2.2.1)=(lb&&(e::r).all fun e=>dY e.2.2.1):=by rw[List.all_cons,Bool.and_assoc]
    have eh:((ab&&dE e.2.2.2)&&r.all fun e=>dE e.2.2.2)=(ab&&(e::r).all fun e=>dE e.2.2.2):=by rw[List.all_cons,Bool.and_assoc]
    simp only[eg,eh]at go;have ew:=aB hi (by omega);refine ak VT (ae (aJ hi) ?_);rw[wI,ew]
    cases lb<;>cases ab
    ·exact go
    ·exact af rfl (ae rfl (aa (ai hx) (aa f29 go)))
    ·exact ae rfl (aa (ai hx) (aa f28 (af rfl go)))
    ·exact ae rfl (aa (ai hx) (aa f28 (ae rfl (aa (ai hx) (aa f29 go))))))
   (true,true) trivial
 refine XW.trans ?_;simp only[Bool.true_and];rfl
theorem Gl(hG:HG G)(l:List an)(hl:l.length≤1000)(tv:∀v∈l,v.2.2.1.size≤100000000):FX G 14100181179 gO ((l,()),(((),()),()))=some ((!(l.all fun v=>dY v.2.2.1),()),(((),()),())):=by
 have loop:=bh l (fun i (_:Unit)=>(LX G 14100181203 bF Tryz.f203 b7 (aE Tryz.prog 203 0) ((l,(((l.length:Nat):Int),(i,()))),((((),()),()),()))).map fun y=>decide ((show Int from y.1.1)≥0)) (fun r _ => !(r.all fun v=>dY v.2.2.1)) (fun _ _=>True) (fun _ _=>by rw[show LX G 14100181203 bF Tryz.f203 b7 (aE Tryz.prog 203 0) ((l,(((l.length:Nat):Int),(((l.length:Nat):Int),()))),((((),()),()),()))=some (((-1:Int),()),(((),()),())) from ak gy (af (bW _) rfl)];rfl) (fun i x r s hi hx _ _ ih=>by
   have f:FX G 14100000180 gS ((x,()),(((),()),()))=some ((!(dY x.2.2.1),()),(((),()),())):=au (hG _ _ rfl) wX (aa (RF hG x.2.2.1 x.2.2.2 (by exact tv _ (abC hx))) rfl);have go:=ih () trivial;have ew:=aB hi (by omega)
   cases hm:dY x.2.2.1 with
   |false =>have e:LX G 14100181203 bF Tryz.f203 b7 (aE Tryz.prog 203 0) ((l,(((l.length:Nat):Int),((i:Int),()))),((((),()),()),()))=some (((i:Int),()),(((),()),())):=ak gy (ae (aJ hi) (aa (ai hx) (aa f (ae (fS hm) rfl))));rw[e,List.all_cons,hm];exact congrArg some (decide_eq_true (show(i:Int)≥0 by omega))
   |true =>
    cases hq:LX G 14100181203 bF Tryz.f203 b7 (aE Tryz.prog 203 0) ((l,(((l.length:Nat):Int),(((i+1:Nat):Int),()))),((((),()),()),())) with
    |none=>rw[hq]at go;cases go
    |some y =>
     have e:LX G 14100181203 bF Tryz.f203 b7 (aE Tryz.prog 203 0) ((l,(((l.length:Nat):Int),((i:Int),()))),((((),()),()),()))=some y:=ak gy (ae (aJ hi) (aa (ai hx) (aa f (af (cz hm) (by rw[wI,ew];exact hq)))));rw[e,List.all_cons,hm,Bool.true_and];rw[hq]at go;exact go) () trivial
 cases hq:LX G 14100181203 bF Tryz.f203 b7 (aE Tryz.prog 203 0) ((l,(((l.length:Nat):Int),((0:Int),()))),((((),()),()),())) with
 |none=>rw[hq]at loop;cases loop
 |some y =>rw[hq]at loop;have h1:FX G 14100181203 bF ((l,()),(((),()),()))=some y:=au (hG 14100181203 bF rfl) wR hq;refine au (hG _ _ rfl) wP (aa h1 ?_);exact congrArg (fun b:Bool=>some ((b,()),(((),()),()))) (acP loop)
theorem Gm(hG:HG G)(l:List aj)(hl:l.length≤1000)(tv:∀v∈l,v.2.1.size≤100000000):FX G 14100183181 gQ ((l,()),(((),()),()))=some ((!(l.all fun v=>dY v.2.1),()),(((),()),())):=by
 have loop:=bh l (fun i (_:Unit)=>(LX G 14100183204 bH Tryz.f204 cc (aE Tryz.prog 204 0) ((l,(((l.length:Nat):Int),(i,()))),((((),()),()),()))).map fun y=>decide ((show Int from y.1.1)≥0)) (fun r _ => !(r.all fun v=>dY v.2.1)) (fun _ _=>True) (fun _ _=>by rw[show LX G 14100183204 bH Tryz.f204 cc (aE Tryz.prog 204 0) ((l,(((l.length:Nat):Int),(((l.length:Nat):Int),()))),((((),()),()),()))=some (((-1:Int),()),(((),()),())) from ak gE (af (bW _) rfl)];rfl) (fun i x r s hi hx _ _ ih=>by
   have f:FX G 14100000182 gV ((x,()),(((),()),()))=some ((!(dY x.2.1),()),(((),()),())):=au (hG _ _ rfl) wZ (aa (RF hG x.2.1 x.2.2 (by exact tv _ (abC hx))) rfl);have go:=ih () trivial;have ew:=aB hi (by omega)
   cases hm:dY x.2.1 with
   |false =>have e:LX G 14100183204 bH Tryz.f204 cc (aE Tryz.prog 204 0) ((l,(((l.length:Nat):Int),((i:Int),()))),((((),()),()),()))=some (((i:Int),()),(((),()),())):=ak gE (ae (aJ hi) (aa (ai hx) (aa f (ae (fS hm) rfl))));rw[e,List.all_cons,hm];exact congrArg some (decide_eq_true (show(i:Int)≥0 by omega))
   |true =>
    cases hq:LX G 14100183204 bH Tryz.f204 cc (aE Tryz.prog 204 0) ((l,(((l.length:Nat):Int),(((i+1:Nat):Int),()))),((((),()),()),())) with
    |none=>rw[hq]at go;cases go
    |some y =>
     have e:LX G 14100183204 bH Tryz.f204 cc (aE Tryz.prog 204 0) ((l,(((l.length:Nat):Int),((i:Int),()))),((((),()),()),()))=some y:=ak gE (ae (aJ hi) (aa (ai hx) (aa f (af (cz hm) (by rw[wI,ew];exact hq)))));rw[e,List.all_cons,hm,Bool.true_and];rw[hq]at go;exact go) () trivial
 cases hq:LX G 14100183204 bH Tryz.f204 cc (aE Tryz.prog 204 0) ((l,(((l.length:Nat):Int),((0:Int),()))),((((),()),()),())) with
 |none=>rw[hq]at loop;cases loop
 |some y =>rw[hq]at loop;have h1:FX G 14100183204 bH ((l,()),(((),()),()))=some y:=au (hG 14100183204 bH rfl) wV hq;refine au (hG _ _ rfl) wT (aa h1 ?_);exact congrArg (fun b:Bool=>some ((b,()),(((),()),()))) (acP loop)
theorem TX(hG:HG G)(d:ar)(h1:d.1.length≤1000)(h2:d.2.length≤1000)(tv:∀v∈d.1,v.2.2.1.size≤100000000)(te:∀e∈d.2,e.2.1.size≤100000000):FX G 141139 qy ((d,()),())=some ((!KD d,()),()):=by
 refine au (hG _ _ rfl) Nq (aa (Gl hG d.1 h1 tv) ?_);unfold KD
 cases hq:d.1.all fun v=>dY v.2.2.1 with
 |false=>exact ae rfl rfl
 |true=>exact af rfl (aa (Gm hG d.2 h2 te) rfl)
theorem Gn(hG:HG G)(l:List an)(hl:l.length≤1000):FX G 14300181179 gP ((l,()),(((),()),()))=some ((!(l.all fun v=>dE v.2.2.2),()),(((),()),())):=by
 have loop:=bh l (fun i (_:Unit)=>(LX G 14300181203 bG Tryz.f203 b8 (aE Tryz.prog 203 0) ((l,(((l.length:Nat):Int),(i,()))),((((),()),()),()))).map fun y=>decide ((show Int from y.1.1)≥0)) (fun r _ => !(r.all fun v=>dE v.2.2.2)) (fun _ _=>True) (fun _ _=>by rw[show LX G 14300181203 bG Tryz.f203 b8 (aE Tryz.prog 203 0) ((l,(((l.length:Nat):Int),(((l.length:Nat):Int),()))),((((),()),()),()))=some (((-1:Int),()),(((),()),())) from ak gD (af (bW _) rfl)];rfl) (fun i x r s hi hx _ _ ih=>by
   have f:FX G 14300000180 gT ((x,()),(((),()),()))=some ((!(dE x.2.2.2),()),(((),()),())):=au (hG _ _ rfl) wY (aa (RG hG x.2.2.1 x.2.2.2 ) rfl);have go:=ih () trivial;have ew:=aB hi (by omega)
   cases hm:dE x.2.2.2 with
   |false =>have e:LX G 14300181203 bG Tryz.f203 b8 (aE Tryz.prog 203 0) ((l,(((l.length:Nat):Int),((i:Int),()))),((((),()),()),()))=some (((i:Int),()),(((),()),())):=ak gD (ae (aJ hi) (aa (ai hx) (aa f (ae (fS hm) rfl))));rw[e,List.all_cons,hm];exact congrArg some (decide_eq_true (show(i:Int)≥0 by omega))
   |true =>
    cases hq:LX G 14300181203 bG Tryz.f203 b8 (aE Tryz.prog 203 0) ((l,(((l.length:Nat):Int),(((i+1:Nat):Int),()))),((((),()),()),())) with
    |none=>rw[hq]at go;cases go
    |some y =>
     have e:LX G 14300181203 bG Tryz.f203 b8 (aE Tryz.prog 203 0) ((l,(((l.length:Nat):Int),((i:Int),()))),((((),()),()),()))=some y:=ak gD (ae (aJ hi) (aa (ai hx) (aa f (af (cz hm) (by rw[wI,ew];exact hq)))));rw[e,List.all_cons,hm,Bool.true_and];rw[hq]at go;exact go) () trivial
 cases hq:LX G 14300181203 bG Tryz.f203 b8 (aE Tryz.prog 203 0) ((l,(((l.length:Nat):Int),((0:Int),()))),((((),()),()),())) with
 |none=>rw[hq]at loop;cases loop
 |some y =>rw[hq]at loop;have h1:FX G 14300181203 bG ((l,()),(((),()),()))=some y:=au (hG 14300181203 bG rfl) wS hq;refine au (hG _ _ rfl) wQ (aa h1 ?_);exact congrArg (fun b:Bool=>some ((b,()),(((),()),()))) (acP loop)
theorem Gp(hG:HG G)(l:List aj)(hl:l.length≤1000):FX G 14300183181 gR ((l,()),(((),()),()))=some ((!(l.all fun v=>dE v.2.2),()),(((),()),())):=by
 have loop:=bh l (fun i (_:Unit)=>(LX G 14300183204 bI Tryz.f204 cd (aE Tryz.prog 204 0) ((l,(((l.length:Nat):Int),(i,()))),((((),()),()),()))).map fun y=>decide ((show Int from y.1.1)≥0)) (fun r _ => !(r.all fun v=>dE v.2.2)) (fun _ _=>True) (fun _ _=>by rw[show LX G 14300183204 bI Tryz.f204 cd (aE Tryz.prog 204 0) ((l,(((l.length:Nat):Int),(((l.length:Nat):Int),()))),((((),()),()),()))=some (((-1:Int),()),(((),()),())) from ak gF (af (bW _) rfl)];rfl) (fun i x r s hi hx _ _ ih=>by
   have f:FX G 14300000182 gW ((x,()),(((),()),()))=some ((!(dE x.2.2),()),(((),()),())):=au (hG _ _ rfl) w4 (aa (RG hG x.2.1 x.2.2 ) rfl);have go:=ih () trivial;have ew:=aB hi (by omega)
   cases hm:dE x.2.2 with
   |false =>have e:LX G 14300183204 bI Tryz.f204 cd (aE Tryz.prog 204 0) ((l,(((l.length:Nat):Int),((i:Int),()))),((((),()),()),()))=some (((i:Int),()),(((),()),())):=ak gF (ae (aJ hi) (aa (ai hx) (aa f (ae (fS hm) rfl))));rw[e,List.all_cons,hm];exact congrArg some (decide_eq_true (show(i:Int)≥0 by omega))
   |true =>
    cases hq:LX G 14300183204 bI Tryz.f204 cd (aE Tryz.prog 204 0) ((l,(((l.length:Nat):Int),(((i+1:Nat):Int),()))),((((),()),()),())) with
    |none=>rw[hq]at go;cases go
    |some y =>
     have e:LX G 14300183204 bI Tryz.f204 cd (aE Tryz.prog 204 0) ((l,(((l.length:Nat):Int),((i:Int),()))),((((),()),()),()))=some y:=ak gF (ae (aJ hi) (aa (ai hx) (aa f (af (cz hm) (by rw[wI,ew];exact hq)))));rw[e,List.all_cons,hm,Bool.true_and];rw[hq]at go;exact go) () trivial
 cases hq:LX G 14300183204 bI Tryz.f204 cd (aE Tryz.prog 204 0) ((l,(((l.length:Nat):Int),((0:Int),()))),((((),()),()),())) with
 |none=>rw[hq]at loop;cases loop
 |some y =>rw[hq]at loop;have h1:FX G 14300183204 bI ((l,()),(((),()),()))=some y:=au (hG 14300183204 bI rfl) wW hq;refine au (hG _ _ rfl) wU (aa h1 ?_);exact congrArg (fun b:Bool=>some ((b,()),(((),()),()))) (acP loop)
theorem TY(hG:HG G)(d:ar)(h1:d.1.length≤1000)(h2:d.2.length≤1000):FX G 143139 qz ((d,()),())=some ((!atB d,()),()):=by
 refine au (hG _ _ rfl) Nr (aa (Gn hG d.1 h1) ?_);unfold atB
 cases hq:d.1.all fun v=>dE v.2.2.2 with
 |false=>exact ae rfl rfl
 |true=>exact af rfl (aa (Gp hG d.2 h2) rfl)
end Go.Vs
set_option autoImplicit false
namespace Go.Vs
open Go Go.Proofs
variable {G:(f:FuncId)→(g:aO)→Option (g.A→Option g.B)}
theorem Yn(hG:HG G)(l:List ID)(hl:l.length≤1000):∃b,FX G 133 tX ((l,()),())=some ((b,()),())∧(b=true↔(l.Pairwise fun a b=>fD a b=true)∧∀x∈l,bQ x=true):=by
 have loop:∀(n i:Nat),i+n=l.length→(∀(j:Nat) x,j<i→l[j]? = some x→bQ x=true)→(∀(j:Nat) x y,j+1<i→l[j]? = some x→l[j+1]? = some y→fD x y=true) → ∃b,LX G 133 tX Tryz.f133 rU (aE Tryz.prog 133 0) ((l,(l,(((l.length:Nat):Int),((i:Int),())))),((),()))=some ((b,()),())∧(b=true↔(l.Pairwise fun a b=>fD a b=true)∧∀x∈l,bQ x=true):=by
  intro n
  induction n with
  |zero =>intro i hi hm ho;refine⟨true,ak sF (af (decide_eq_false (show ¬((i:Int)<((l.length:Nat):Int)) by omega)) rfl),fun _=>⟨PJ (R:=fun a b=>fD a b=true) (fun a b c=>gX) fun j x y hx hy=>ho j x y (by have:=(abp.1 hy).1;omega) hx hy,fun x hx=>?_⟩,fun _=>rfl⟩;obtain⟨j,hj⟩:=aeA.1 hx;exact hm j x (by have:=(abp.1 hj).1;omega) hj
  |succ n ih =>
   intro i hi hm ho;have aG:i<l.length:=by omega
   have hx:l[i]? = some l[i]:=abf aG;have ew:=aB aG (by omega);by_cases T5:bQ l[i]=true
   rotate_left
   ·have hmf:=ac5.2 T5;exact⟨false,ak sF (ae (aJ aG) (aa (ai hx) (aa (CH (hG _ _ rfl) _) (ae (fS hmf) rfl)))),fun k=>(by cases k),fun k=>absurd (k.2 _ (acG aG)) T5⟩
   have UC:∀(j:Nat) x,j<i+1→l[j]? = some x→bQ x=true:=fun j x hj hjx=>by
    by_cases k:j=i
    ·subst k;rw[hx]at hjx;cases hjx;exact T5
    ·exact hm j x (by omega) hjx
   by_cases h0:i=0
   ·obtain⟨b,h1,h2⟩:=ih (i+1) (by omega) UC (fun j x y hj=>by omega);refine⟨b,ak sF (ae (aJ aG) (aa (ai hx) (aa (CH (hG _ _ rfl) _) (af (cz T5) (af (decide_eq_false (show ¬((i:Int)>0) by omega)) ?_))))),h2⟩;rw[wI,ew];exact h1
   ·have hy:l[i-1]? = some l[i-1]:=abf (by omega);have e2:aP l (wI ((i:Int)-1))=some l[i-1]:=by rw[wI,sD (by omega) aG (by omega)];exact ai hy
    by_cases mC:fD l[i-1] l[i]=true
    ·have h3:=(mN l[i-1] l[i]).2 mC;obtain⟨b,h1,h2⟩:=ih (i+1) (by omega) UC (fun j x y hj hjx hjy=>by
      by_cases k:j+1=i
      ·have e:j=i-1:=by omega
       subst e;rw[hy]at hjx;cases hjx;rw[k,hx]at hjy;cases hjy;exact mC
      ·exact ho j x y (by omega) hjx hjy)
     refine⟨b,ak sF (ae (aJ aG) (aa (ai hx) (aa (CH (hG _ _ rfl) _) (af (cz T5) (ae (decide_eq_true (show((i:Int)>0) by omega)) (aa e2 (aa (Ir hG _ _) (af (decide_eq_false (show ¬(sd l[i-1] l[i]≥0) by omega)) ?_)))))))),h2⟩;rw[wI,ew];exact h1
    ·have h3:¬sd l[i-1] l[i]<0:=fun k=>mC ((mN _ _).1 k);exact⟨false,ak sF (ae (aJ aG) (aa (ai hx) (aa (CH (hG _ _ rfl) _) (af (cz T5) (ae (decide_eq_true (show((i:Int)>0) by omega)) (aa e2 (aa (Ir hG _ _) (ae (decide_eq_true (show sd l[i-1] l[i]≥0 by omega)) rfl)))))))),fun k=>(by cases k),fun k=>absurd (adK.1 k.1 (i-1) i (by omega) aG (by omega)) mC⟩
 obtain⟨b,h1,h2⟩:=loop l.length 0 (by omega) (fun j x hj=>by omega) (fun j x y hj=>by omega);exact⟨b,au (hG _ _ rfl) ab6 h1,h2⟩
theorem Yo(hG:HG G)(l m:List ag)(hl:l.length≤1000000):FX G 178 wE ((l,m,()),())=some ((decide (l=m),()),()):=by
 refine au (hG _ _ rfl) ab8 ?_;by_cases hn:l.length=m.length
 rotate_left
 ·rw[decide_eq_false fun k=>hn (by rw[k])];exact ae (show((((l.length:Nat):Int)) != ((m.length:Nat):Int))=true by rw[bne_iff_ne];omega) rfl
 refine af (show((((l.length:Nat):Int)) != ((m.length:Nat):Int))=false by rw[hn];simp) ?_;have loop:∀(n i:Nat),i+n=l.length→LX G 178 wE Tryz.f178 vu (aE Tryz.prog 178 0) ((l,(m,(((l.length:Nat):Int),((i:Int),())))),((),()))=some ((decide (l.drop i=m.drop i),()),()):=by
  intro n
  induction n with
  |zero =>intro i hi;rw[decide_eq_true (by rw[List.drop_eq_nil_of_le (by omega),List.drop_eq_nil_of_le (by omega)])];exact ak zU (af (decide_eq_false (show ¬((i:Int)<((l.length:Nat):Int)) by omega)) rfl)
  |succ n ih =>
   intro i hi;have aG:i<l.length:=by omega
   have hlm:i<m.length:=by omega
   have hx:=ai (abf aG);have hy:=ai (abf hlm);rw[List.drop_eq_getElem_cons aG,List.drop_eq_getElem_cons hlm];have eb:=vY l[i] m[i];by_cases h:l[i]=m[i]
   ·rw[decide_eq_true h]at eb;refine ak zU (ae (aJ aG) (aa hx (aa hy (af (cz eb) ?_))));rw[wI,aB aG (by omega)];have e:decide (l.drop (i+1)=m.drop (i+1))=decide (l[i]::l.drop (i+1)=m[i]::m.drop (i+1)):=by rw[h];exact decide_eq_decide.2 ⟨fun k=>by rw[k],fun k=>(aeE k).2⟩
    rw[←e];exact ih (i+1) (by omega)
   ·rw[decide_eq_false h]at eb;rw[decide_eq_false fun k=>h (List.cons.inj k).1];exact ak zU (ae (aJ aG) (aa hx (aa hy (ae (fS eb) rfl))))
 exact loop l.length 0 (by omega)
def RL(r:List an)(L:List ag):Prop:=(∀v∈r,cZ v.2.1=v.2.1)∧(av r).Perm L
theorem Left.no{es:List (ag×Bool)}{x:ag}{L:List ag}(h:Left es L)(hx:x∉L):(Option.getD (fG bz x es) false)=false:=by
 have e:sZ bz x es=none:=by rw[Bn,List.findIdx?_eq_none_iff];intro q hq;exact decide_eq_false fun k=>hx (h.p.mem_iff.1 (acE.2 ⟨q,hq,k⟩))
 unfold fG;rw[e];rfl
theorem aen(hG:HG G)(d:ar)(hs:Sm d)(hr:∀v∈d.1,v.2.1.length≤1000)(ND:d.1.length≤24)(bA:d.2.length≤40)(N3:dv d.2):∃b,FX G 138 jV ((d,()),())=some ((b,()),())∧(b=true↔RL d.1 (ends d.2)):=by
 have outer:∀(r:List an) (i:Nat) (es:List (ag×Bool)) (L:List ag),d.1.drop i=r→i+r.length=d.1.length→Left es L → ∃b,LX G 138 jV Tryz.f138 rW (aE Tryz.prog 138 1) ((d.1,(((d.1.length:Nat):Int),((i:Int),()))),((),(es,())))=some ((b,()),())∧(b=true↔RL r L):=by
  intro r
  induction r with
  |nil =>
   intro i es L hdr hi hl;have hle:es.length=L.length:=by have:=hl.p.length_eq;simpa using this
   refine⟨decide (es.length=0),ak zR (af (decide_eq_false (show ¬((i:Int)<((d.1.length:Nat):Int)) by simp at hi;omega)) ?_),?_⟩
   ·refine congrArg (fun b:Bool=>some ((b,()),())) ?_;show((((es.length:Nat):Int))==0)=decide (es.length=0);rw[Bool.eq_iff_iff];simp
   ·constructor
    ·intro k;have k:es.length=0:=of_decide_eq_true k;rw[List.eq_nil_of_length_eq_zero (hle.symm.trans k)];exact⟨fun v hv=>(by cases hv),aeJ _⟩
    ·intro k;exact decide_eq_true (hle.trans k.2.length_eq.symm)
  |cons v r ih =>
   intro i es L hdr hi hl;have aG:i<d.1.length:=by simp at hi;omega
   have hv:d.1[i]? = some v:=by have:=congrArg (fun q:List an=>q[0]?) hdr;simpa using this
   have aon:d.1.drop (i+1)=r:=by rw[←List.tail_drop,hdr];rfl
   have hm:v∈d.1:=abC hv;have KK:=hr v hm;have ew:=aB aG (by omega);by_cases ht:v.2.1=cZ v.2.1
   rotate_left
   ·refine⟨false,ak zR (ae (aJ aG) (aa (ai hv) (aa (zy hG _ (by omega)) (aa (Yo hG _ _ (by omega)) (ae (fS (decide_eq_false ht)) rfl))))),fun k=>(by cases k),fun k=>absurd (k.1 v (by simp)).symm ht⟩
   have inner:∀(q:List ag) (k:Nat) (es:List (ag×Bool)) (L:List ag),v.2.1.drop k=q→k+q.length=v.2.1.length→Left es L → ∃b,LX G 138 jV Tryz.f138 rX (aE Tryz.prog 138 2) ((d.1,(((d.1.length:Nat):Int),((i:Int),(v.2.1,(((v.2.1.length:Nat):Int),((k:Int),())))))),((),(es,())))=some ((b,()),())∧(b=true↔(∀v∈r,cZ v.2.1=v.2.1)∧(q++av r).Perm L):=by
    intro q
    induction q with
    |nil =>intro k es L hdq hk hl;obtain⟨b,h1,h2⟩:=ih (i+1) es L aon (by simp at hi;omega) hl;refine⟨b,ak zT (af (decide_eq_false (show ¬((k:Int)<((v.2.1.length:Nat):Int)) by simp at hk;omega)) ?_),h2⟩;rw[wI,ew];exact h1
    |cons x q PL =>
     intro k es L hdq hk hl;have v5:k<v.2.1.length:=by simp at hk;omega
     have hx:v.2.1[k]? = some x:=by have:=congrArg (fun q:List ag=>q[0]?) hdq;simpa using this
     have aep:v.2.1.drop (k+1)=q:=by rw[←List.tail_drop,hdq];rfl
     by_cases vR:x∈L
     ·have tL:Left es (x::L.erase x):=⟨hl.p.trans (List.perm_cons_erase vR),hl.t⟩;obtain⟨b,h1,h2⟩:=PL (k+1) (Gz bz x es) (L.erase x) aep (by simp at hk;omega) (Left.del tL);refine⟨b,ak zT (ae (aJ v5) (aa (ai hx) (af (cz (Left.get tL)) ?_))),?_⟩
      ·rw[wI,aB v5 (by omega)];exact h1
      ·rw[h2,List.cons_append,List.cons_perm_iff_perm_erase];exact⟨fun k=>⟨k.1,vR,k.2⟩,fun k=>⟨k.1,k.2.2⟩⟩
     ·refine⟨false,ak zT (ae (aJ v5) (aa (ai hx) (ae (fS (Left.no hl vR)) rfl))),fun k=>(by cases k),fun k=>absurd (k.2.mem_iff.1 (by simp)) vR⟩
   obtain⟨b,h1,h2⟩:=inner v.2.1 0 es L rfl (by omega) hl;refine⟨b,ak zR (ae (aJ aG) (aa (ai hv) (aa (zy hG _ (by omega)) (aa (Yo hG _ _ (by omega)) (af (cz (decide_eq_true ht)) h1))))),?_⟩;rw[h2];unfold RL;rw[dQ];exact⟨fun k=>⟨fun w hw=>by
    rcases abq.1 hw with rfl|hw
    ·exact ht.symm
    ·exact k.1 w hw,k.2⟩,fun k=>⟨fun w hw=>k.1 w (by simp[hw]),k.2⟩⟩
 have GL:=iE N3;obtain⟨b,h1,h2⟩:=outer d.1 0 (tr (ends d.2)) (ends d.2) rfl (by omega) ⟨by rw[KA],fun e he=>by obtain⟨x,_,rfl⟩:=acE.1 he;rfl⟩;refine⟨b,au (hG _ _ rfl) ab7 ?_,h2⟩;exact bh d.2 (fun i (s:List (ag×Bool))=>LX G 138 jV Tryz.f138 vq (aE Tryz.prog 138 0) ((d.2,(((d.2.length:Nat):Int),(i,()))),(((d,()),()),(s,())))) (fun r s=>((b,()),())) (fun m s=>∃p,s=tr (ends p)∧∃r,p++r=d.2∧r.length=m) (fun s hs=>by obtain⟨p,rfl,r,hp,hr⟩:=hs;have h0:r=[]:=abD hr;rw[h0,List.append_nil]at hp;subst hp;exact ak Dm (af (bW _) h1)) (fun i e r s hi he A3 hk ih=>by
   obtain⟨p,rfl,q,hp,hq⟩:=hk;have N0:p.length=i:=by have:=congrArg List.length hp;rw[List.length_append]at this;omega
   cases q with
   |nil=>simp at hq
   |cons e' q' =>
    have NC:e'=e:=by have:=he;rw[←hp,List.getElem?_append_right (by omega),N0,Nat.sub_self]at this;simpa using this
    subst NC;refine ak Dm (ae (aJ hi) (aa (ai he) ?_));rw[wI,aB hi (by omega)];rw[←hp,zz,eY]at GL;obtain⟨_,h6,h7⟩:=adz.1 GL;have e0:ends (p++[e'])=(ends p++[(e'.1,0)])++[(e'.1,1)]:=by rw[zz,eY,show ends []=[] from rfl,List.append_assoc];rfl
    have m1:=Dq (e'.1,0) (ends p) fun k=>h7 _ k _ (by simp) rfl;have m2:=Dq (e'.1,1) (ends p++[(e'.1,0)]) fun k=>by
     rcases abY.1 k with k|k
     ·exact h7 _ k _ (by simp) rfl
     ·simp at k
    rw[←e0]at m2;have:=ih (tr (ends (p++[e']))) ⟨p++[e'],rfl,q',by simpa using hp,by simp at hq;omega⟩;rw[←m2,←m1]at this;exact this)
  [] ⟨[],rfl,d.2,rfl,rfl⟩
theorem I8{d:ar}(N3:dv d.2):sE d↔RL d.1 (ends d.2):=by
 constructor
 ·intro hr;refine⟨hr.t,List.perm_iff_count.2 fun x=>?_⟩;by_cases hx:x∈ends d.2
  ·rw[vN (iE N3) hx];obtain⟨e,h1,h2,h3⟩:=cy.1 hx;have:=hr.c e h1 x.2 h3;rw[h2]at this;exact this
  ·rw[List.count_eq_zero.2 hx,List.count_eq_zero];intro hd;obtain⟨v,h1,h2⟩:=aS.1 hd;obtain⟨k1,k2,k3⟩:=hr.e v h1 x h2;obtain⟨e,hee⟩:=acK.1 k1;exact hx (cy.2 ⟨e,Be hee,qM hee,by omega⟩)
 ·intro h;refine⟨h.1,fun v hv x hx=>?_,fun e he s hs=>?_⟩
  ·obtain⟨e,h1,h2,h3⟩:=cy.1 (h.2.mem_iff.1 (aS.2 ⟨v,hv,hx⟩));exact⟨by unfold ba;rw[List.find?_isSome];exact⟨e,h1,by simpa using h2⟩,by omega,by omega⟩
  ·rw[h.2.count_eq];exact vN (iE N3) (cy.2 ⟨e,he,rfl,hs⟩)
theorem aeq(hG:HG G)(d:ar)(hs:Sm d)(hr:∀v∈d.1,v.2.1.length≤1000)(tv:∀v∈d.1,v.2.2.1.size≤100000000)(te:∀e∈d.2,e.2.1.size≤100000000):FX G 95 Ia ((d,()),())=some ((oy d,()),()):=by
 refine au (hG _ _ rfl) ab5 ?_;unfold oy;by_cases hn:24<d.1.length
 ·rw[if_pos (.inl hn)];exact ae (decide_eq_true (show((d.1.length:Nat):Int)>24 by omega)) rfl
 refine af (decide_eq_false (show ¬((d.1.length:Nat):Int)>24 by omega)) ?_;by_cases hm:40<d.2.length
 ·rw[if_pos (.inr hm)];exact ae (decide_eq_true (show((d.2.length:Nat):Int)>40 by omega)) rfl
 refine af (decide_eq_false (show ¬((d.2.length:Nat):Int)>40 by omega)) ?_;rw[if_neg (by omega)];obtain⟨b1,k1,p1⟩:=Yn hG (d.1.map (·.1)) (by rw[List.length_map];omega);obtain⟨b2,k2,p2⟩:=Yn hG (d.2.map (·.1)) (by rw[List.length_map];omega);refine aa (Ns hG d.1 (by omega)) (aa k1 ?_)
 cases b1 with
 |false=>rw[if_neg fun k:xR d=>by have:=p1.2 k.v;cases this];exact ae rfl rfl
 |true =>
 refine af rfl (aa (Nt hG d.2 (by omega)) (aa k2 ?_))
 cases b2 with
 |false=>rw[if_neg fun k:xR d=>by have:=p2.2 k.e;cases this];exact ae rfl rfl
 |true =>
 have N3:dv d.2:=aeO.1 (p2.1 rfl).1;obtain⟨b3,k3,p3⟩:=aen hG d hs hr (by omega) (by omega) N3;refine af rfl (aa k3 ?_)
 cases b3 with
 |false=>rw[if_neg fun k:xR d=>by have:=p3.2 ((I8 N3).1 k.r);cases this];exact ae rfl rfl
 |true =>
 refine af rfl ?_;rw[if_pos ⟨p1.1 rfl,p2.1 rfl,(I8 N3).2 (p3.1 rfl)⟩];refine aa (TX hG d (by omega) (by omega) tv te) ?_
 cases KD d with
 |false=>exact ae rfl rfl
 |true =>
 refine af rfl (aa (TY hG d (by omega) (by omega)) ?_)
 cases atB d with
 |false=>exact ae rfl rfl
 |true=>exact af rfl rfl
open Classical in
noncomputable def pS(d:ar):Int:=if oy d=0 then(if cX d=0 then 0 else 11) else oy d
theorem g6{d:ar}:pS d=0↔Wf d∧cX d=0:=by
 unfold pS;by_cases h:oy d=0
 ·rw[if_pos h];by_cases hg:cX d=0
  ·rw[if_pos hg];exact⟨fun _=>⟨sG.1 h,hg⟩,fun _=>rfl⟩
  ·rw[if_neg hg];exact⟨fun k=>(by cases k),fun k=>absurd k.2 hg⟩
 ·rw[if_neg h];exact⟨fun k=>absurd k h,fun k=>absurd (sG.2 k.1) h⟩
theorem aer(hG:HG G)(hp:jM G)(d:ar)(hs:Sm d)(hr:∀v∈d.1,v.2.1.length≤1000)(tv:∀v∈d.1,v.2.2.1.size≤100000000)(te:∀e∈d.2,e.2.1.size≤100000000):FX G 67 H8 ((d,()),())=some ((pS d,()),()):=by
 refine au (hG _ _ rfl) ab4 (aa (aeq hG d hs hr tv te) ?_);unfold pS;by_cases h:oy d=0
 ·rw[if_pos h];refine af (show(oy d != 0)=false by rw[h];rfl) (aa (hp d (sG.1 h)) ?_);by_cases hg:cX d=0
  ·rw[if_pos hg];exact af (cz (decide_eq_true hg)) rfl
  ·rw[if_neg hg];exact ae (fS (decide_eq_false hg)) rfl
 ·rw[if_neg h];exact ae (show(oy d != 0)=true by rw[bne_iff_ne];exact h) rfl
theorem acr(hG:HG G)(d:ar)(hs:Sm d)(tv:∀v∈d.1,v.2.2.1.size≤100000000)(te:∀e∈d.2,e.2.1.size≤100000000):FX G 69 SL ((d,()),())=some ((pS d,()),()):=by
 refine au (hG _ _ rfl) aln (aa (ajr hG d hs tv te) ?_);unfold pS;by_cases h:oy d=0
 ·have bA:=(sG.1 h).ne;rw[if_pos h];refine af (show(oy d != 0)=false by rw[h];rfl) (aa (amw hG d hs (by omega)) ?_);by_cases hg:cX d=0
  ·rw[if_pos hg];exact af (by simp[hg]) rfl
  ·rw[if_neg hg];exact ae (by simp[hg]) rfl
 ·rw[if_neg h];exact ae (show(oy d != 0)=true by rw[bne_iff_ne];exact h) rfl
end Go.Vs
set_option autoImplicit false
namespace Go.Vs
open Go Go.Proofs
variable {G:(f:FuncId)→(g:aO)→Option (g.A→Option g.B)}
def gAt(l:List aC)(j:Nat):Prop:=∀g,l[j]? = some g→(gr g.1=true∧(g.2=zD∨gr g.2=true))∧∀k,j=k+1→∀f,l[k]? = some f→kG f.1 g.1=true
structure uH(l:List aC):Prop where
 k:bw l
 s:iS l
 n:l.length≤400
theorem Ac{l:List aC}:((∀j,j<l.length→gAt l j)∧l.length≤400)↔uH l:=by
 constructor
 ·intro ⟨h,hn⟩;refine⟨fun g hg=>?_,?_,hn⟩
  ·obtain⟨j,hj⟩:=aeA.1 hg;exact(h j (abp.1 hj).1 g hj).1
  ·exact PJ (R:=fun a b:aC=>kG a.1 b.1=true) (fun a b c=>iO) fun j x y hx hy=>(h (j+1) (abp.1 hy).1 y hy).2 j rfl x hx
 ·intro h;refine⟨fun j hj g hg=>⟨h.k g (abC hg),fun k hk f hf=>?_⟩,h.n⟩;subst hk;obtain⟨a,b⟩:=abp.1 hg;obtain⟨c,e⟩:=abp.1 hf;rw[←b,←e];exact adK.1 h.s k (k+1) c a (by omega)
theorem aes(hG:HG G)(l:List aC)(hl:l.length≤1000000)(hi:∀g∈l,oq g.1.2∧oq g.2.2):∃b,FX G 48 sS ((l,()),())=some ((b,()),())∧(b=true↔uH l):=by
 have loop:∀(n i:Nat),i+n=l.length→(∀j,j<i→gAt l j)→∃b,LX G 48 sS Tryz.f48 kh (aE Tryz.prog 48 0) ((l,(l,(((l.length:Nat):Int),((i:Int),())))),((),()))=some ((b,()),())∧(b=true↔uH l):=by
  intro n
  induction n with
  |zero =>
   intro i sN ho;have:i=l.length:=by omega
   subst this;refine⟨decide (((l.length:Nat):Int)≤400),ak ky (af (bW _) rfl),fun k=>Ac.1 ⟨ho,?_⟩,fun k=>decide_eq_true (show((l.length:Nat):Int)≤400 by have:=k.n;omega)⟩;have k:((l.length:Nat):Int)≤400:=of_decide_eq_true k;omega
  |succ n ih =>
   intro i sN ho;have aG:i<l.length:=by omega
   obtain⟨g,hg⟩:∃g,l[i]? = some g:=⟨_,abf aG⟩;have hm:g∈l:=abC hg;have gi:=ai hg;have ew:=aB aG (by omega);have q1:=ME hG g.1 (hi g hm).1;have q2:=ME hG g.2 (hi g hm).2;have bad:∀{b:Bool},b=false→¬gAt l i→(b=true↔uH l):=fun hb hn=>⟨fun k=>(by rw[hb]at k;cases k),fun k=>absurd ((Ac.2 k).1 i aG) hn⟩;have du:gAt l i→∃b,LX G 48 sS Tryz.f48 kh (aE Tryz.prog 48 0) ((l,(l,(((l.length:Nat):Int),(wI ((i:Int)+1),())))),((),()))=some ((b,()),())∧(b=true↔uH l):=fun k=>by
    obtain⟨b,h1,h2⟩:=ih (i+1) (by omega) fun j hj=>by
     by_cases e:j=i
     ·rw[e];exact k
     ·exact ho j (by omega)
    exact⟨b,by rw[wI,ew];exact h1,h2⟩
   by_cases hd:gr g.1=true
   rotate_left
   ·have hf:=ac5.2 hd;exact⟨false,ak ky (ae (aJ aG) (aa gi (aa q1 (ae (fS hf) rfl)))),bad rfl fun k=>hd (k g hg).1.1⟩
   have tail:(∀k,i=k+1→∀f,l[k]? = some f→kG f.1 g.1=true)∨∃(h0:decide ((i:Int)>0)=true) (f:aC),aP l (wI ((i:Int)-1))=some f∧decide (kZ f.1 g.1≥0)=true∧¬gAt l i:=by
    by_cases h0:i=0
    ·exact .inl fun k hk=>by omega
    ·obtain⟨f,hf⟩:∃f,l[i-1]? = some f:=⟨_,abf (by omega)⟩;by_cases mC:kG f.1 g.1=true
     ·refine .inl fun k hk f' YK => ?_;have:k=i-1:=by omega
      subst this;rw[hf]at YK;cases YK;exact mC
     ·have h3:¬kZ f.1 g.1<0:=fun k=>mC ((mP _ _).1 k);refine .inr ⟨decide_eq_true (by omega),f,?_,decide_eq_true (by omega),fun k=>mC ((k g hg).2 (i-1) (by omega) f hf)⟩;rw[wI,sD (by omega) aG (by omega)];exact ai hf
   have prev:∀{k:(∀k,i=k+1→∀f,l[k]? = some f→kG f.1 g.1=true)},decide ((i:Int)>0)=true→∃f,aP l (wI ((i:Int)-1))=some f∧decide (kZ f.1 g.1≥0)=false:=fun {k} h0=>by have h0:(i:Int)>0:=of_decide_eq_true h0;obtain⟨f,hf⟩:∃f,l[i-1]? = some f:=⟨_,abf (by omega)⟩;refine⟨f,by rw[wI,sD (by omega) aG (by omega)];exact ai hf,decide_eq_false ?_⟩;have:=(mP _ _).2 (k (i-1) (by omega) f hf);omega
   by_cases hz:g.2=zD
   ·rcases tail with ht|⟨h0,f,e1,e2,hn⟩
    ·obtain⟨b,b1,b2⟩:=du fun g' q7=>by rw[hg]at q7;cases q7;exact⟨⟨hd,.inl hz⟩,ht⟩
     by_cases h0:decide ((i:Int)>0)=true
     ·obtain⟨f,e1,e2⟩:=prev (k:=ht) h0;exact⟨b,ak ky (ae (aJ aG) (aa gi (aa q1 (af (cz hd) (af (cz (Ho hz)) (ae h0 (aa e1 (aa (Fq hG _ _) (af e2 b1))))))))),b2⟩
     ·exact⟨b,ak ky (ae (aJ aG) (aa gi (aa q1 (af (cz hd) (af (cz (Ho hz)) (af (ac5.2 h0) b1)))))),b2⟩
    ·exact⟨false,ak ky (ae (aJ aG) (aa gi (aa q1 (af (cz hd) (af (cz (Ho hz)) (ae h0 (aa e1 (aa (Fq hG _ _) (ae e2 rfl))))))))),bad rfl hn⟩
   cases Af:gr g.2 with
   |false=>exact⟨false,ak ky (ae (aJ aG) (aa gi (aa q1 (af (cz hd) (ae (fS (KC hz)) (aa q2 (ae (fS Af) rfl))))))),bad rfl fun k=>by rcases (k g hg).1.2 with q|q;exact hz q;rw[Af]at q;cases q⟩
   |true =>
    rcases tail with ht|⟨h0,f,e1,e2,hn⟩
    ·obtain⟨b,b1,b2⟩:=du fun g' q7=>by rw[hg]at q7;cases q7;exact⟨⟨hd,.inr Af⟩,ht⟩
     by_cases h0:decide ((i:Int)>0)=true
     ·obtain⟨f,e1,e2⟩:=prev (k:=ht) h0;exact⟨b,ak ky (ae (aJ aG) (aa gi (aa q1 (af (cz hd) (ae (fS (KC hz)) (aa q2 (af (cz Af) (ae h0 (aa e1 (aa (Fq hG _ _) (af e2 b1))))))))))),b2⟩
     ·exact⟨b,ak ky (ae (aJ aG) (aa gi (aa q1 (af (cz hd) (ae (fS (KC hz)) (aa q2 (af (cz Af) (af (ac5.2 h0) b1)))))))),b2⟩
    ·exact⟨false,ak ky (ae (aJ aG) (aa gi (aa q1 (af (cz hd) (ae (fS (KC hz)) (aa q2 (af (cz Af) (ae h0 (aa e1 (aa (Fq hG _ _) (ae e2 rfl))))))))))),bad rfl hn⟩
 obtain⟨b,h1,h2⟩:=loop l.length 0 (by omega) fun j hj=>by omega
 exact⟨b,au (hG _ _ rfl) acd h1,h2⟩
theorem Yp(hG:HG G)(l:List aC)(hl:l.length≤1000000)  : ∃b,FX G 50 yT ((l,()),())=some ((b,()),())∧(b=true↔uH l):=by
 have loop:∀(n i:Nat),i+n=l.length→(∀j,j<i→gAt l j)→∃b,LX G 50 yT Tryz.f50 mJ (aE Tryz.prog 50 0) ((l,((i:Int),())),((),()))=some ((b,()),())∧(b=true↔uH l):=by
  intro n
  induction n with
  |zero =>
   intro i sN ho;have:i=l.length:=by omega
   subst this;refine⟨decide (((l.length:Nat):Int)≤400),ak mR (af (bW _) rfl),fun k=>Ac.1 ⟨ho,?_⟩,fun k=>decide_eq_true (show((l.length:Nat):Int)≤400 by have:=k.n;omega)⟩;have k:((l.length:Nat):Int)≤400:=of_decide_eq_true k;omega
  |succ n ih =>
   intro i sN ho;have aG:i<l.length:=by omega
   obtain⟨g,hg⟩:∃g,l[i]? = some g:=⟨_,abf aG⟩;have hm:g∈l:=abC hg;have gi:=ai hg;have ew:=aB aG (by omega);have q1:=ahf hG g.1;have q2:=ahf hG g.2;have bad:∀{b:Bool},b=false→¬gAt l i→(b=true↔uH l):=fun hb hn=>⟨fun k=>(by rw[hb]at k;cases k),fun k=>absurd ((Ac.2 k).1 i aG) hn⟩;have du:gAt l i→∃b,LX G 50 yT Tryz.f50 mJ (aE Tryz.prog 50 0) ((l,(wI ((i:Int)+1),())),((),()))=some ((b,()),())∧(b=true↔uH l):=fun k=>by
    obtain⟨b,h1,h2⟩:=ih (i+1) (by omega) fun j hj=>by
     by_cases e:j=i
     ·rw[e];exact k
     ·exact ho j (by omega)
    exact⟨b,by rw[wI,ew];exact h1,h2⟩
   by_cases hd:gr g.1=true
   rotate_left
   ·have hf:=ac5.2 hd;exact⟨false,ak mR (ae (aJ aG) (aa gi (aa q1 (aa gi (aa q2 (ae (fS hf) rfl)))))),bad rfl fun k=>hd (k g hg).1.1⟩
   have tail:(∀k,i=k+1→∀f,l[k]? = some f→kG f.1 g.1=true)∨∃(h0:decide ((i:Int)>0)=true) (f:aC),aP l (wI ((i:Int)-1))=some f∧decide (kZ f.1 g.1≥0)=true∧¬gAt l i:=by
    by_cases h0:i=0
    ·exact .inl fun k hk=>by omega
    ·obtain⟨f,hf⟩:∃f,l[i-1]? = some f:=⟨_,abf (by omega)⟩;by_cases mC:kG f.1 g.1=true
     ·refine .inl fun k hk f' YK => ?_;have:k=i-1:=by omega
      subst this;rw[hf]at YK;cases YK;exact mC
     ·have h3:¬kZ f.1 g.1<0:=fun k=>mC ((mP _ _).1 k);refine .inr ⟨decide_eq_true (by omega),f,?_,decide_eq_true (by omega),fun k=>mC ((k g hg).2 (i-1) (by omega) f hf)⟩;rw[wI,sD (by omega) aG (by omega)];exact ai hf
   have prev:∀{k:(∀k,i=k+1→∀f,l[k]? = some f→kG f.1 g.1=true)},decide ((i:Int)>0)=true→∃f,aP l (wI ((i:Int)-1))=some f∧decide (kZ f.1 g.1≥0)=false:=fun {k} h0=>by have h0:(i:Int)>0:=of_decide_eq_true h0;obtain⟨f,hf⟩:∃f,l[i-1]? = some f:=⟨_,abf (by omega)⟩;refine⟨f,by rw[wI,sD (by omega) aG (by omega)];exact ai hf,decide_eq_false ?_⟩;have:=(mP _ _).2 (k (i-1) (by omega) f hf);omega
   by_cases hz:g.2=zD
   ·rcases tail with ht|⟨h0,f,e1,e2,hn⟩
    ·obtain⟨b,b1,b2⟩:=du fun g' q7=>by rw[hg]at q7;cases q7;exact⟨⟨hd,.inl hz⟩,ht⟩
     by_cases h0:decide ((i:Int)>0)=true
     ·obtain⟨f,e1,e2⟩:=prev (k:=ht) h0;exact⟨b,ak mR (ae (aJ aG) (aa gi (aa q1 (aa gi (aa q2 (af (cz hd) (ae (fS (show gr g.2=false by rw[hz];rfl)) (aa gi (af (cz (Ho hz)) (ae h0 (aa e1 (aa gi (aa (WC hG _ _) (af e2 b1)))))))))))))),b2⟩
     ·exact⟨b,ak mR (ae (aJ aG) (aa gi (aa q1 (aa gi (aa q2 (af (cz hd) (ae (fS (show gr g.2=false by rw[hz];rfl)) (aa gi (af (cz (Ho hz)) (af (ac5.2 h0) b1)))))))))),b2⟩
    ·exact⟨false,ak mR (ae (aJ aG) (aa gi (aa q1 (aa gi (aa q2 (af (cz hd) (ae (fS (show gr g.2=false by rw[hz];rfl)) (aa gi (af (cz (Ho hz)) (ae h0 (aa e1 (aa gi (aa (WC hG _ _) (ae e2 rfl)))))))))))))),bad rfl hn⟩
   cases Af:gr g.2 with
   |false=>exact⟨false,ak mR (ae (aJ aG) (aa gi (aa q1 (aa gi (aa q2 (af (cz hd) (ae (fS Af) (aa gi (ae (fS (KC hz)) rfl))))))))),bad rfl fun k=>by rcases (k g hg).1.2 with q|q;exact hz q;rw[Af]at q;cases q⟩
   |true =>
    rcases tail with ht|⟨h0,f,e1,e2,hn⟩
    ·obtain⟨b,b1,b2⟩:=du fun g' q7=>by rw[hg]at q7;cases q7;exact⟨⟨hd,.inr Af⟩,ht⟩
     by_cases h0:decide ((i:Int)>0)=true
     ·obtain⟨f,e1,e2⟩:=prev (k:=ht) h0;exact⟨b,ak mR (ae (aJ aG) (aa gi (aa q1 (aa gi (aa q2 (af (cz hd) (af (cz Af) (ae h0 (aa e1 (aa gi (aa (WC hG _ _) (af e2 b1)))))))))))),b2⟩
     ·exact⟨b,ak mR (ae (aJ aG) (aa gi (aa q1 (aa gi (aa q2 (af (cz hd) (af (cz Af) (af (ac5.2 h0) b1)))))))),b2⟩
    ·exact⟨false,ak mR (ae (aJ aG) (aa gi (aa q1 (aa gi (aa q2 (af (cz hd) (af (cz Af) (ae h0 (aa e1 (aa gi (aa (WC hG _ _) (ae e2 rfl)))))))))))),bad rfl hn⟩
 obtain⟨b,h1,h2⟩:=loop l.length 0 (by omega) fun j hj=>by omega
 exact⟨b,au (hG _ _ rfl) ai7 h1,h2⟩
end Go.Vs
set_option autoImplicit false
namespace Go.Vs
open Go Go.Proofs
variable {G:(f:FuncId)→(g:aO)→Option (g.A→Option g.B)}
structure Sz(s:StateT):Prop where
 m:Sm s.1
 r:∀v∈s.1.1,v.2.1.length≤1000
 v:∀v∈s.1.1,v.2.2.1.size≤100000000
 e:∀e∈s.1.2,e.2.1.size≤100000000
 n:s.2.length≤1000000
 i:∀g∈s.2,oq g.1.2∧oq g.2.2
structure wa(n:Int)(s:StateT):Prop where
 n0:0≤n
 n1:n≤1073741824
 g:uH s.2
 d:Wf s.1
 p:cX s.1=0
theorem wa.w{n:Int}{s:StateT}(h:wa n s):fN s:=⟨h.d,h.g.s,h.g.n⟩
open Classical in
noncomputable def BA(n:Int)(s:StateT):List Int×(Int×Unit):=if n<0∨1073741824<n∨¬uH s.2 then([],(1,())) else if pS s.1=0 then(fz n s,(0,())) else([],(pS s.1,()))
theorem RM{n:Int}{s:StateT}:(BA n s).2.1=0↔wa n s:=by
 unfold BA
 split
 ·rename_i h;exact⟨fun k=>(by cases k),fun k=>by rcases h with h|h|h;have:=k.n0;omega;have:=k.n1;omega;exact absurd k.g h⟩
 ·rename_i h
  split
  ·rename_i h2;obtain⟨a,b⟩:=g6.1 h2;exact⟨fun _=>⟨by omega,by omega,Classical.byContradiction fun k=>h (.inr (.inr k)),a,b⟩,fun _=>rfl⟩
  ·rename_i h2;exact⟨fun k=>absurd k h2,fun k=>absurd (g6.2 ⟨k.d,k.p⟩) h2⟩
theorem sH{n:Int}{s:StateT}(h:wa n s):BA n s=(fz n s,(0,())):=by unfold BA;rw[if_neg (fun k=>by rcases k with k|k|k;have:=h.n0;omega;have:=h.n1;omega;exact k h.g),if_pos (g6.2 ⟨h.d,h.p⟩)]
theorem Yq(hG:HG G)(hp:jM G)(s:StateT)(h:Sz s)(hm:pS s.1≠0):FX G 42 jU ((s.1,()),())=some (([],(pS s.1,())),()) :=au (hG _ _ rfl) ab3 (aa (aer hG hp s.1 h.m h.r h.v h.e) (ae (show(pS s.1 != 0)=true by rw[bne_iff_ne];exact hm) rfl))
theorem Yr(hG:HG G)(s:StateT)(h:Sz s)(hm:pS s.1≠0):FX G 44 kE ((s.1,()),())=some (([],(pS s.1,())),()) :=au (hG _ _ rfl) ab9 (aa (acr hG s.1 h.m h.v h.e) (ae (show(pS s.1 != 0)=true by rw[bne_iff_ne];exact hm) rfl))
theorem PR(hG:HG G)(d:ar)(h:Wf d)(hg:cX d=0):FX G 44 kE ((d,()),())=some ((b6 d,((0:Int),())),()) :=aem hG d h ((acr hG d h.sm (fun v hv=>by have:=gm (h.gv v hv).l;omega) (fun e he=>by have:=gm (h.ge e he).l;omega)).trans (congrArg (fun r:Int=>some ((r,()),())) (g6.2 ⟨h,hg⟩)))
theorem Ys(hG:HG G)(hp:jM G)(n:Int)(s:StateT)(h:Sz s):FX G 22 mu ((n,(s,())),())=some (BA n s,()):=by
 by_cases hs:wa n s
 ·rw[sH hs];exact acq hG hp n s ⟨hs.n0,hs.n1⟩ hs.w hs.p hs.g.k
 refine au (hG _ _ rfl) aca ?_;unfold BA;by_cases h0:n<0
 ·rw[if_pos (.inl h0)];exact ae (decide_eq_true h0) rfl
 refine af (decide_eq_false h0) ?_;by_cases h1:1073741824<n
 ·rw[if_pos (.inr (.inl h1))];exact ae (decide_eq_true (show n>1073741824 from h1)) rfl
 refine af (decide_eq_false (show ¬n>1073741824 from h1)) ?_;obtain⟨b,k1,k2⟩:=aes hG s.2 h.n h.i;refine aa k1 ?_
 cases b with
 |false=>rw[if_pos (.inr (.inr fun k=>by have:=k2.2 k;cases this))];exact ae rfl rfl
 |true =>have hg:=k2.1 rfl;have hm:pS s.1≠0:=fun k=>hs ⟨by omega,by omega,hg,(g6.1 k).1,(g6.1 k).2⟩;rw[if_neg (fun k=>by rcases k with k|k|k;exact h0 k;exact h1 k;exact k hg),if_neg hm];exact af rfl (aa (Yq hG hp s h hm) (ae (show(pS s.1 != 0)=true by rw[bne_iff_ne];exact hm) rfl))
theorem acs(hG:HG G)(n:Int)(s:StateT)(h:Sz s)(hs:wa n s):FX G 23 nW ((n,(s,())),())=some ((fz n s,((0:Int),())),()):=by
 have hw:=hs.w;have hgn:=hs.g.n;have hd:=ox hs.d;have hn0:=hs.n0;have hn1:=hs.n1;obtain⟨b,k1,k2⟩:=Yp hG s.2 h.n;have hb:b=true:=k2.2 hs.g;subst hb;have l1:(([]:List Int)++dr n).length=8:=by rw[List.nil_append,cT]
 have l2:((([]:List Int)++dr n)++dr (((b6 s.1).length:Nat):Int)).length=16:=by rw[List.length_append,l1,cT]
 refine au (hG _ _ rfl) ach (aa k1 (af (decide_eq_false (show ¬n<0 by omega)) (af (decide_eq_false (show ¬n>1073741824 by omega)) (af rfl (aa (PR hG s.1 hs.d hs.p) (af rfl (aa (RI hG [] n (by decide)) (aa (RI hG ([]++dr n) (((b6 s.1).length:Nat):Int) (by omega)) (ae (fits ?_) ?_)))))))))
 ·show((([]:List Int)++dr n)++dr (((b6 s.1).length:Nat):Int)).length+(b6 s.1).length≤_;rw[l2];omega
 have key:=bh s.2 (fun i (b:List Int)=>LX G 23 nW Tryz.f23 o6 (aE Tryz.prog 23 0) ((i,()),(((s,()),()),(b,())))) (fun r b=>((b++r.flatMap bc,((0:Int),())),())) (fun m b=>b.length+m*10≤20000) (fun b hb=>by refine ak RD (af (bW _) ?_);simp only[List.flatMap_nil,List.append_nil]) (fun i g r b hi hx A3 hb ih=>by
   obtain⟨q1,q2⟩:=hs.g.k g (abC hx);have r2:=(cK q2).2;have gi:=ai hx;have hb:b.length+(r.length+1)*10≤20000:=hb;have l3:(b++bq g.1.1).length=b.length+4:=by simp[bq]
   have l4:((b++bq g.1.1)++[w8 g.1.2]).length=b.length+5:=by rw[List.length_append,l3];rfl
   have ew:=aB hi (by omega);have hq:=qY g;have go:=ih (b++bc g) (by rw[List.length_append];omega);have fin:some ((((b++bc g)++r.flatMap bc,((0:Int),())),()):(List Int×(Int×Unit))×Unit)=some ((b++(g::r).flatMap bc,((0:Int),())),()):=by rw[List.flatMap_cons,List.append_assoc]
   refine ak RD (ae (aJ hi) (aa gi (aa (RH hG b g.1.1 (by omega) (cK (.inr q1)).1) (aa gi (ae (fits (show(b++bq g.1.1).length+1≤_ by omega)) (aa gi ?_))))));by_cases hz:g.2=zD
   ·refine ae (Ho hz) (ae (fits (show((b++bq g.1.1)++[w8 g.1.2]).length+1≤_ by omega)) ?_);have e9:((b++bq g.1.1)++[w8 g.1.2])++[0]=b++bc g:=by unfold bc;rw[if_pos hz];simp only[List.append_assoc,List.singleton_append,List.cons_append,List.nil_append]
    exact(congr (congrArg (fun(k:Int) (q:List Int)=>LX G 23 nW Tryz.f23 o6 (aE Tryz.prog 23 0) ((k,()),(((s,()),()),(q,())))) ew) e9).trans (go.trans fin)
   ·have w3:wI (g.2.2+1)=g.2.2+1:=wrap_small (by omega) (by omega);have l5:(((b++bq g.1.1)++[w8 g.1.2])++[w8 (wI (g.2.2+1))]).length=b.length+6:=by rw[List.length_append,l4];rfl
    refine af (KC hz) (aa gi (ae (fits (show((b++bq g.1.1)++[w8 g.1.2]).length+1≤_ by omega)) (aa gi (aa (RH hG (((b++bq g.1.1)++[w8 g.1.2])++[w8 (wI (g.2.2+1))]) g.2.1 (by omega) (cK q2).1) ?_))));have e9:(((b++bq g.1.1)++[w8 g.1.2])++[w8 (wI (g.2.2+1))])++bq g.2.1=b++bc g:=by unfold bc;rw[if_neg hz,w3];simp only[List.append_assoc,List.singleton_append,List.cons_append,List.nil_append]
    exact(congr (congrArg (fun(k:Int) (q:List Int)=>LX G 23 nW Tryz.f23 o6 (aE Tryz.prog 23 0) ((k,()),(((s,()),()),(q,())))) ew) e9).trans (go.trans fin))
  (((([]:List Int)++dr n)++dr (((b6 s.1).length:Nat):Int))++b6 s.1) (by show _+_≤20000;rw[List.length_append,l2];omega)
 refine key.trans ?_;unfold fz;simp only[List.nil_append,List.append_assoc];rfl
theorem Yt(hG:HG G)(n:Int)(s:StateT)(h:Sz s):FX G 23 nW ((n,(s,())),())=some (BA n s,()):=by
 by_cases hs:wa n s
 ·rw[sH hs];exact acs hG n s h hs
 refine au (hG _ _ rfl) ach ?_;obtain⟨b,k1,k2⟩:=Yp hG s.2 h.n;refine aa k1 ?_;unfold BA;by_cases h0:n<0
 ·rw[if_pos (.inl h0)];exact ae (decide_eq_true h0) rfl
 refine af (decide_eq_false h0) ?_;by_cases h1:1073741824<n
 ·rw[if_pos (.inr (.inl h1))];exact ae (decide_eq_true (show n>1073741824 from h1)) rfl
 refine af (decide_eq_false (show ¬n>1073741824 from h1)) ?_
 cases b with
 |false=>rw[if_pos (.inr (.inr fun k=>by have:=k2.2 k;cases this))];exact ae rfl rfl
 |true =>have hg:=k2.1 rfl;have hm:pS s.1≠0:=fun k=>hs ⟨by omega,by omega,hg,(g6.1 k).1,(g6.1 k).2⟩;rw[if_neg (fun k=>by rcases k with k|k|k;exact h0 k;exact h1 k;exact k hg),if_neg hm];exact af rfl (aa (Yr hG s h hm) (ae (show(pS s.1 != 0)=true by rw[bne_iff_ne];exact hm) rfl))
end Go.Vs
set_option autoImplicit false
namespace Go.Vs
open Go Go.Proofs
variable {G:(f:FuncId)→(g:aO)→Option (g.A→Option g.B)}
def Ny(v:an):an:=(v.1,(v.2.1.take 82,v.2.2))
def qZ(s:StateT):StateT:=(((s.1.1.take 26).map Ny,s.1.2.take 42),s.2.take 410)
theorem Ad{α:Type}(l:List α)(k:Nat):cut l 0 (k:Int)=l.take k:=by unfold cut;rw[show Int.toNat (0:Int)=0 from rfl,List.drop_zero];rfl
theorem ajs(hG:HG G)(s:StateT)(h1:s.1.1.length≤1000000000)(h2:s.1.2.length≤1000000000)(h3:s.2.length≤1000000000)(hr:∀v∈s.1.1,v.2.1.length≤1000000000):FX G 21 kF ((s,()),())=some ((qZ s,()),()):=by
 refine au (hG _ _ rfl) ai6 ?_;have ajt:∀(n i:Nat) (vs:List an) (es:List aj) (out:List aC),out=s.2.take i→i+n=410→i≤s.2.length→LX G 21 kF Tryz.f21 r8 (aE Tryz.prog 21 2) (((i:Int),()),(((s,()),(OW,())),(vs,(es,(out,())))))=some ((((vs,es),s.2.take 410),()),()):=by
  intro n
  induction n with
  |zero =>
   intro i vs es out ho hi nP;have:i=410:=by omega
   subst this;refine ak Kz ?_;by_cases aG:410<s.2.length
   ·exact ae (aJ aG) (af rfl (by rw[ho];rfl))
   ·exact af (decide_eq_false (show ¬(((410:Nat):Int)<((s.2.length:Nat):Int)) by omega)) (by rw[ho];rfl)
  |succ n ih =>
   intro i vs es out ho hi nP;by_cases aG:i<s.2.length
   ·have hl:out.length≤410:=by rw[ho];simp;omega
    refine ak Kz (ae (aJ aG) (ae (decide_eq_true (show(i:Int)<410 by omega)) (aa (ai (abf aG)) (ae (fits (show out.length+1≤_ by omega)) ?_))));have ih:=ih (i+1) vs es (out++[s.2[i]]) (by rw[ho,List.take_succ_eq_append_getElem aG]) (by omega) (by omega);rw[wI,aB aG (by omega)];exact ih
   ·have:i=s.2.length:=by omega
    refine ak Kz (af (decide_eq_false (show ¬((i:Int)<((s.2.length:Nat):Int)) by omega)) ?_);exact congrArg (fun q:List aC=>some ((((vs,es),q),()),())) (by rw[ho,List.take_of_length_le (show s.2.length≤i by omega),List.take_of_length_le (show s.2.length≤410 by omega)]:out=s.2.take 410)
 have go2:∀(vs:List an) (es:List aj),LX G 21 kF Tryz.f21 r8 (aE Tryz.prog 21 2) (((0:Int),()),(((s,()),(OW,())),(vs,(es,(([]:List aC),())))))=some ((((vs,es),s.2.take 410),()),()):=fun vs es=>ajt 410 0 vs es [] rfl rfl (by omega);have uu:∀(n i:Nat) (vs:List an) (out:List aj),out=s.1.2.take i→i+n=42→i≤s.1.2.length→LX G 21 kF Tryz.f21 rZ (aE Tryz.prog 21 1) (((i:Int),()),(((s,()),(OW,())),(vs,(out,()))))=some ((((vs,s.1.2.take 42),s.2.take 410),()),()):=by
  intro n
  induction n with
  |zero =>
   intro i vs out ho hi nP;have:i=42:=by omega
   subst this;refine ak Ky ?_;by_cases aG:42<s.1.2.length
   ·exact ae (aJ aG) (af rfl (by rw[←ho];exact go2 _ _))
   ·exact af (decide_eq_false (show ¬(((42:Nat):Int)<((s.1.2.length:Nat):Int)) by omega)) (by rw[←ho];exact go2 _ _)
  |succ n ih =>
   intro i vs out ho hi nP;by_cases aG:i<s.1.2.length
   ·have hl:out.length≤42:=by rw[ho];simp;omega
    refine ak Ky (ae (aJ aG) (ae (decide_eq_true (show(i:Int)<42 by omega)) (aa (ai (abf aG)) (ae (fits (show out.length+1≤_ by omega)) ?_))));have ih:=ih (i+1) vs (out++[s.1.2[i]]) (by rw[ho,List.take_succ_eq_append_getElem aG]) (by omega) (by omega);rw[wI,aB aG (by omega)];exact ih
   ·have:i=s.1.2.length:=by omega
    refine ak Ky (af (decide_eq_false (show ¬((i:Int)<((s.1.2.length:Nat):Int)) by omega)) ?_);have e:out=s.1.2.take 42:=by rw[ho,List.take_of_length_le (show s.1.2.length≤i by omega),List.take_of_length_le (show s.1.2.length≤42 by omega)]
    rw[←e];exact go2 _ _
 have go1:∀(vs:List an),LX G 21 kF Tryz.f21 rZ (aE Tryz.prog 21 1) (((0:Int),()),(((s,()),(OW,())),(vs,(([]:List aj),()))))=some ((((vs,s.1.2.take 42),s.2.take 410),()),()):=fun vs=>uu 42 0 vs [] rfl rfl (by omega);have ux:∀(n i:Nat) (out:List an),out=(s.1.1.take i).map Ny→i+n=26→i≤s.1.1.length→LX G 21 kF Tryz.f21 o5 (aE Tryz.prog 21 0) (((i:Int),()),(((s,()),(OW,())),(out,())))=some ((qZ s,()),()):=by
  intro n
  induction n with
  |zero =>
   intro i out ho hi nP;have:i=26:=by omega
   subst this;refine ak Kx ?_;by_cases aG:26<s.1.1.length
   ·exact ae (aJ aG) (af rfl (by unfold qZ;rw[←ho];exact go1 _))
   ·exact af (decide_eq_false (show ¬(((26:Nat):Int)<((s.1.1.length:Nat):Int)) by omega)) (by unfold qZ;rw[←ho];exact go1 _)
  |succ n ih =>
   intro i out ho hi nP;by_cases aG:i<s.1.1.length
   ·have hl:out.length≤26:=by rw[ho];simp;omega
    have KK:=hr _ (acG aG);have ih:=ih (i+1) (out++[Ny s.1.1[i]]) (by rw[ho,List.take_succ_eq_append_getElem aG,List.map_append];rfl) (by omega) (by omega);have ew:wI ((i:Int)+1)=((i+1:Nat):Int):=aB aG (by omega);refine ak Kx (ae (aJ aG) (ae (decide_eq_true (show(i:Int)<26 by omega)) (aa (ai (abf aG)) ?_)));by_cases h82:s.1.1[i].2.1.length>82
    ·refine ae (decide_eq_true (show((s.1.1[i].2.1.length:Nat):Int)>82 by omega)) (ae (show aq s.1.1[i].2.1.length 0 82=true by simp[aq];omega) (ae (fits (show out.length+1≤_ by omega)) ?_));have ec:cut s.1.1[i].2.1 0 82=s.1.1[i].2.1.take 82:=Ad _ 82;exact(congr (congrArg (fun(k:Int) (q:List ag)=>LX G 21 kF Tryz.f21 o5 (aE Tryz.prog 21 0) ((k,()),(((s,()),(OW,())),(out++[(s.1.1[i].1,(q,s.1.1[i].2.2))],())))) ew) ec).trans ih
    ·refine af (decide_eq_false (show ¬((s.1.1[i].2.1.length:Nat):Int)>82 by omega)) (ae (fits (show out.length+1≤_ by omega)) ?_);have ec:[s.1.1[i]]=[Ny s.1.1[i]]:=by unfold Ny;rw[List.take_of_length_le (by omega)]
     exact(congr (congrArg (fun(k:Int) (q:List an)=>LX G 21 kF Tryz.f21 o5 (aE Tryz.prog 21 0) ((k,()),(((s,()),(OW,())),(out++q,())))) ew) ec).trans ih
   ·have:i=s.1.1.length:=by omega
    refine ak Kx (af (decide_eq_false (show ¬((i:Int)<((s.1.1.length:Nat):Int)) by omega)) ((go1 _).trans ?_));have e:out=(s.1.1.take 26).map Ny:=by rw[ho,List.take_of_length_le (show s.1.1.length≤i by omega),List.take_of_length_le (show s.1.1.length≤26 by omega)]
    exact congrArg (fun q:List an=>some ((((q,s.1.2.take 42),s.2.take 410),()),())) e
 exact ux 26 0 [] rfl rfl (by omega)
theorem Yu{s:StateT}(tv:∀v∈s.1.1,v.2.2.1.size≤100000000)(te:∀e∈s.1.2,e.2.1.size≤100000000)(hi:∀g∈s.2,oq g.1.2∧oq g.2.2):Sz (qZ s):=by
 have hv:∀v∈(qZ s).1.1,∃w∈s.1.1,v=Ny w:=fun v hv=>by obtain⟨w,hw,rfl⟩:=acE.1 hv;exact⟨w,aeB hw,rfl⟩
 have l1:(qZ s).1.1.length≤26:=by show((s.1.1.take 26).map Ny).length≤26;simp;omega
 have l2:(qZ s).1.2.length≤42:=by show(s.1.2.take 42).length≤42;simp;omega
 have l3:(qZ s).2.length≤410:=by show(s.2.take 410).length≤410;simp;omega
 have lr:∀v∈(qZ s).1.1,v.2.1.length≤82:=fun v h=>by obtain⟨w,_,rfl⟩:=hv v h;show(w.2.1.take 82).length≤82;simp;omega
 exact⟨⟨by omega,by omega,fun v h=>by have:=lr v h;omega⟩,fun v h=>by have:=lr v h;omega,fun v h=>by obtain⟨w,hw,rfl⟩:=hv v h;exact tv w hw,fun e h=>te e (aeB h),by omega,fun g h=>hi g (aeB h)⟩
end Go.Vs
set_option autoImplicit false
namespace Go.Vs
open Go Go.Proofs
variable {G:(f:FuncId)→(g:aO)→Option (g.A→Option g.B)}
theorem PS(l:List Int):(strOf l).size=l.length:=by
 have key:∀(l:List Int) (r:ByteArray),(l.foldl (fun r n=>r.push (UInt8.ofNat n.toNat)) r).size=r.size+l.length:=by
  intro l
  induction l with
  |nil=>intro r;rfl
  |cons c l ih=>intro r;rw[List.foldl_cons,ih,ByteArray.size_push,List.length_cons];omega
 have:=key l ByteArray.empty;unfold strOf;rw[this];show 0+l.length=_;omega
theorem bU.drop{l:List Int}(h:bU l)(k:Nat):bU (l.drop k):=fun c hc=>h c (aeD hc)
theorem bU.take{l:List Int}(h:bU l)(k:Nat):bU (l.take k):=fun c hc=>h c (aeB hc)
structure Rest(r b:List Int):Prop where
 n:r.length≤b.length
 y:bU r
theorem Rest.trans{a b c:List Int}(h:Rest a b)(k:Rest b c):Rest a c:=⟨acR h.n k.n,h.y⟩
theorem jN{b:List Int}(h:bU b):Rest (cj b).2.1 b:=by
 unfold cj
 split
 ·exact⟨by show(b.drop 4).length≤_;rw[List.length_drop];omega,h.drop 4⟩
 ·exact⟨abX _,h⟩
theorem lq{b:List Int}(h:bU b):Rest (takeN b).2.1 b:=by
 unfold takeN
 split
 ·exact⟨by show(b.drop 8).length≤_;rw[List.length_drop];omega,h.drop 8⟩
 ·exact⟨abX _,h⟩
theorem xS{b:List Int}(h:bU b):Rest (cO b).2.1 b∧(cO b).1.size≤b.length:=by
 cases b with
 |nil=>exact⟨⟨abX _,h⟩,abX _⟩
 |cons c r =>
  have hr:bU r:=fun x hx=>h x (by simp[hx]);by_cases hc:c≤((r.length:Nat):Int)
  ·have e:cO (c::r)=(strOf (r.take c.toNat),(r.drop c.toNat,(true,()))):=by unfold cO;simp only[if_pos hc]
   rw[e];exact⟨⟨by show(r.drop c.toNat).length≤_;rw[List.length_drop,List.length_cons];omega,hr.drop _⟩,by show(strOf _).size≤_;rw[PS,List.length_take,List.length_cons];omega⟩
  ·have e:cO (c::r)=(e0,(c::r,(false,()))):=by unfold cO;simp only[if_neg hc]
   rw[e];exact⟨⟨abX _,h⟩,ac6 _⟩
theorem PT{b:List Int}(h:bU b):Rest (js b).2.1 b∧bU (js b).1∧(js b).1.length≤255:=by
 cases b with
 |nil=>exact⟨⟨abX _,h⟩,bU.nil,ac6 _⟩
 |cons c r =>
  have hr:bU r:=fun x hx=>h x (by simp[hx]);have yc:=h c (by simp);by_cases hc:c≤((r.length:Nat):Int)
  ·have e:js (c::r)=(r.take c.toNat,(r.drop c.toNat,(true,()))):=by unfold js;simp only[if_pos hc]
   rw[e];exact⟨⟨by show(r.drop c.toNat).length≤_;rw[List.length_drop,List.length_cons];omega,hr.drop _⟩,hr.take _,by show(r.take c.toNat).length≤_;rw[List.length_take];omega⟩
  ·have e:js (c::r)=([],(c::r,(false,()))):=by unfold js;simp only[if_neg hc]
   rw[e];exact⟨⟨abX _,h⟩,bU.nil,ac6 _⟩
theorem Yv(hG:HG G)(b:List Int)(bad:Bool)(hb:b.length≤4000)(hy:bU b):∃(c:Int) (r:List Int) (BB:Bool),FX G 76 wF ((),((b,(bad,())),()))=some ((c,()),((r,(BB,())),()))∧Rest r b∧0≤c∧c<256:=by
 cases b with
 |nil=>exact⟨0,[],true,au (hG _ _ rfl) acf (ae rfl rfl),⟨abX _,hy⟩,by decide,by decide⟩
 |cons c r =>have yc:=hy c (by simp);have hb:r.length+1≤4000:=hb;exact⟨c,r,bad,Ym hG c r bad (by omega) yc,⟨by rw[List.length_cons];omega,fun x hx=>hy x (by simp[hx])⟩,yc.1,yc.2⟩
theorem Yw(hG:HG G)(b:List Int)(bad:Bool)(hb:b.length≤4000)(hy:bU b):∃(e:aj) (r:List Int) (BB:Bool),FX G 77 Ce ((),((b,(bad,())),()))=some ((e,()),((r,(BB,())),()))∧Rest r b∧e.2.1.size≤4000:=by
 have a1:=jN hy;have a2:=xS a1.y;have a3:=lq a2.1.y;have n1:=a1.n;have n2:=a2.1.n;have n3:=a3.n;have n4:=a2.2;have t1:=I5 hG b (by omega) hy;have t2:=aco hG (cj b).2.1 (by omega) a1.y;have t3:=I6 hG (cO (cj b).2.1).2.1 (by omega) a2.1.y;have key:∀{z},(cond bad (some ((((cj b).1,((cO (cj b).2.1).1,(takeN (cO (cj b).2.1).2.1).1)),()),(((takeN (cO (cj b).2.1).2.1).2.1,(true,())),()))) (cond (!(cj b).2.2.1) (some ((((cj b).1,((cO (cj b).2.1).1,(takeN (cO (cj b).2.1).2.1).1)),()),(((takeN (cO (cj b).2.1).2.1).2.1,(true,())),()))) (cond (!(cO (cj b).2.1).2.2.1) (some ((((cj b).1,((cO (cj b).2.1).1,(takeN (cO (cj b).2.1).2.1).1)),()),(((takeN (cO (cj b).2.1).2.1).2.1,(true,())),()))) (some ((((cj b).1,((cO (cj b).2.1).1,(takeN (cO (cj b).2.1).2.1).1)),()),(((takeN (cO (cj b).2.1).2.1).2.1,(!(takeN (cO (cj b).2.1).2.1).2.2.1,())),()))))))=some z→FX G 77 Ce ((),((b,(bad,())),()))=some z:=fun h=>au (hG _ _ rfl) acg (aa t1 (aa t2 (aa t3 h)));have hR:Rest (takeN (cO (cj b).2.1).2.1).2.1 b:=(a3.trans a2.1).trans a1;have hz:(cO (cj b).2.1).1.size≤4000:=by omega
 cases bad with
 |true=>exact⟨_,_,_,key rfl,hR,hz⟩
 |false =>
  cases h1:(cj b).2.2.1 with
  |false=>exact⟨_,_,_,key (by rw[h1];rfl),hR,hz⟩
  |true =>
   cases h2:(cO (cj b).2.1).2.2.1 with
   |false=>exact⟨_,_,_,key (by rw[h1,h2];rfl),hR,hz⟩
   |true=>exact⟨_,_,_,key (by rw[h1,h2];rfl),hR,hz⟩
end Go.Vs
set_option autoImplicit false
namespace Go.Vs
open Go Go.Proofs
variable {G:(f:FuncId)→(g:aO)→Option (g.A→Option g.B)}
structure Vz(v:an):Prop where
 r:v.2.1.length≤255
 t:v.2.2.1.size≤4000
structure Dz(vs:List an)(es:List aj):Prop where
 n:vs.length≤255
 m:es.length≤255
 v:∀v∈vs,Vz v
 e:∀e∈es,e.2.1.size≤4000
theorem Dz.sz{vs:List an}{es:List aj}(h:Dz vs es):Sz ((vs,es),[]):=by have a:=h.n;have b:=h.m;exact⟨⟨by show vs.length≤_;omega,by show es.length≤_;omega,fun v hv=>by have:=(h.v v hv).r;omega⟩,fun v hv=>by have:=(h.v v hv).r;omega,fun v hv=>by have:=(h.v v hv).t;omega,fun e he=>by have:=h.e e he;omega,ac6 _,fun g hg=>by cases hg⟩
def jO(r:ar×(Int×Unit)):Prop:=r.2.1=0→Wf r.1∧cX r.1=0
theorem aet(hG:HG G)(hp:jM G)(d:ar)(h:Dz d.1 d.2):∃(l:List Int) (e:Int),FX G 42 jU ((d,()),())=some ((l,(e,())),())∧(e=0→Wf d∧cX d=0):=by
 by_cases hm:pS d=0
 ·obtain⟨a,b⟩:=g6.1 hm;exact⟨_,_,Yh hG hp d a b,fun _=>⟨a,b⟩⟩
 ·exact⟨_,_,Yq hG hp ((d.1,d.2),[]) h.sz hm,fun k=>absurd k hm⟩
theorem aeu(hG:HG G)(hp:jM G)(B:List Int)(hB:B.length≤4000)(yB:bU B):∃r,FX G 54 eT ((B,()),())=some (r,())∧jO r:=by
 have zero:jO ((([]:List an),([]:List aj)),((2:Int),())):=fun k=>by cases k
 have fin:∀(vs:List an) (es:List aj) (bad:Bool) (rest:List Int) (c:Int),Dz vs es→(decide (c>0)=false∨bad=true) → ∃r,LX G 54 eT Tryz.f54 ju (aE Tryz.prog 54 1) ((B,(c,())),((([],([],())),((rest,(bad,())),((vs,(es,())),()))),()))=some (r,())∧jO r:=by
  intro vs es bad rest c hd hc;obtain⟨l,e,t1,t2⟩:=aet hG hp (vs,es) hd;have t3:FX G 46 tW ((l,(B,())),())=some (((strOf l==strOf B),()),()):=au (hG _ _ rfl) Rp rfl;have tail:∃r:ar×(Int×Unit),(∀{z},some (r,())=some z→(cond bad (some (((([]:List an),([]:List aj)),((2:Int),())),())) (cond (e != 0) (some (((([]:List an),([]:List aj)),((2:Int),())),())) ((FX G 46 tW ((l,(B,())),())).bind fun(y8:(Bool×Unit)×Unit)=>cond (!y8.1.1) (some (((([]:List an),([]:List aj)),((2:Int),())),())) (some (((vs,es),((0:Int),())),())))))=some z)∧jO r:=by
   cases bad with
   |true=>exact⟨_,fun h=>h,zero⟩
   |false =>
    by_cases he:e=0
    ·have h1:(e != 0)=false:=by rw[he];rfl
     cases hq:(strOf l==strOf B) with
     |false=>exact⟨_,fun h=>af rfl (af h1 (aa t3 (ae (fS hq) h))),zero⟩
     |true=>exact⟨((vs,es),((0:Int),())),fun h=>af rfl (af h1 (aa t3 (af (cz hq) h))),fun _=>t2 he⟩
    ·have h1:(e != 0)=true:=by rw[bne_iff_ne];exact he
     exact⟨_,fun h=>af rfl (ae h1 h),zero⟩
  obtain⟨r,k1,k2⟩:=tail;refine⟨r,?_,k2⟩;by_cases h0:decide (c>0)=true
  ·have hb:bad=true:=by rcases hc with k|k;rw[h0]at k;cases k;exact k
   refine ak vO (ae h0 (af (cz hb) (aa t1 (k1 rfl))))
  ·exact ak vO (af (ac5.2 h0) (aa t1 (k1 rfl)))
 have uu:∀(n:Nat) (vs:List an) (es:List aj) (bad:Bool) (rest:List Int),vs.length+n≤255→Dz vs es→Rest rest B → ∃r,LX G 54 eT Tryz.f54 ju (aE Tryz.prog 54 1) ((B,(((n:Nat):Int),())),((([],([],())),((rest,(bad,())),((vs,(es,())),()))),()))=some (r,())∧jO r:=by
  intro n
  induction n with
  |zero=>intro vs es bad rest hn hd hr;exact fin vs es bad rest _ hd (.inl rfl)
  |succ n ih =>
   intro vs es bad rest hn hd hr;have hrn:=hr.n
   cases bad with
   |true=>exact fin vs es true rest _ hd (.inr rfl)
   |false =>
   obtain⟨e,r1,aaS,t1,q1,q2⟩:=Yw hG rest false (by omega) hr.y;have q1n:=q1.n;have t2:=Yl hG r1 (by omega) q1.y;obtain⟨p1,p2,p3⟩:=PT q1.y;generalize htc:js r1=tc at t2 p1 p2 p3;obtain⟨L,r2,ok,u⟩:=tc;have YM:Rest r2 B:=(p1.trans q1).trans hr;have hLl:L.length≤255:=p3;have inner:∀(Yx:Bool) (q:List Int) (k:Nat) (p:List ag),L.drop k=q→k+q.length=L.length→p.length+q.length≤255 → ∃r,LX G 54 eT Tryz.f54 mH (aE Tryz.prog 54 2) ((B,(((n+1:Nat):Int),(false,(true,(L,(((L.length:Nat):Int),((k:Int),()))))))),((([],([],())),((r2,(Yx,())),((vs,(es,())),((e.1.1,(e.1.2,(p,(e.2.1,(e.2.2,()))))),())))),()))=some (r,())∧jO r:=by
    intro Yx q
    induction q with
    |nil =>
     intro k p hdq hk ZV;have uh:k=L.length:=by simpa using hk
     obtain⟨r,h1,h2⟩:=ih (vs++[(e.1,(p,e.2))]) es Yx r2 (by simp;omega) ⟨by simp;omega,hd.m,fun v hv=>by
      rcases abY.1 hv with hv|hv
      ·exact hd.v v hv
      ·rw[List.mem_singleton.1 hv];exact⟨by simpa using ZV,q2⟩,hd.e⟩ YM
     refine⟨r,ak zY (af (decide_eq_false (show ¬((k:Int)<((L.length:Nat):Int)) by omega)) (ae (fits (show vs.length+1≤_ by omega)) ?_)),h2⟩;exact(congrArg (fun k:Int=>LX G 54 eT Tryz.f54 ju (aE Tryz.prog 54 1) ((B,(k,())),((([],([],())),((r2,(Yx,())),((vs++[(e.1,(p,e.2))],(es,())),()))),()))) (Aa n (by omega))).trans h1
    |cons c q PL =>
     intro k p hdq hk ZV;have v5:k<L.length:=by simp at hk;omega
     have hx:L[k]? = some c:=by have:=congrArg (fun q:List Int=>q[0]?) hdq;simpa using this
     have aep:L.drop (k+1)=q:=by rw[←List.tail_drop,hdq];rfl
     have yc:=p2 c (abC hx);have ew:=cW yc;have em:Int.tmod (wI c) 128=c%128:=by rw[ew,Int.tmod_eq_emod_of_nonneg (by omega)]
     by_cases Jl:c%128≥((es.length:Nat):Int)
     ·exact⟨_,ak zY (ae (aJ v5) (aa (ai hx) (af rfl (ae (by rw[em];exact decide_eq_true Jl) rfl)))),zero⟩
     ·obtain⟨j,hj⟩:∃j:Nat,c%128=(j:Int):=⟨(c%128).toNat,by omega⟩;have GH:j<es.length:=by omega
      obtain⟨r,h1,h2⟩:=PL (k+1) (p++[(es[j].1,wI (Int.tdiv (wI c) 128))]) aep (by simp at hk;omega) (by simp at ZV ⊢;omega);have N0:p.length≤255:=by simp at ZV;omega
      refine⟨r,ak zY (ae (aJ v5) (aa (ai hx) (af rfl (af (by rw[em];exact decide_eq_false Jl) (ae ?_ (aa (a:=es[j]) ?_ (af rfl (ae (fits (show p.length+1≤_ by omega)) ?_)))))))),h2⟩
      ·rw[em,hj];exact dw (decide_eq_true (by omega)) (decide_eq_true (show(j:Int)<((es.length:Nat):Int) by omega))
      ·rw[em,hj,Int.toNat_natCast];exact abf GH
      ·have e1:wI ((k:Int)+1)=((k+1:Nat):Int):=aB v5 (by omega);exact(congrArg (fun i:Int=>LX G 54 eT Tryz.f54 mH (aE Tryz.prog 54 2) ((B,(((n+1:Nat):Int),(false,(true,(L,(((L.length:Nat):Int),(i,()))))))),((([],([],())),((r2,(Yx,())),((vs,(es,())),((e.1.1,(e.1.2,(p++[(es[j].1,wI (Int.tdiv (wI c) 128))],(e.2.1,(e.2.2,()))))),())))),()))) e1).trans h1
   cases aaS with
   |true =>obtain⟨r,h1,h2⟩:=inner true L 0 [] rfl (by omega) (by simpa using p3);exact⟨r,ak vO (ae (decide_eq_true (show(((n+1:Nat)):Int)>0 by omega)) (ae rfl (aa t1 (aa t2 (ae rfl h1))))),h2⟩
   |false =>obtain⟨r,h1,h2⟩:=inner (!ok) L 0 [] rfl (by omega) (by simpa using p3);exact⟨r,ak vO (ae (decide_eq_true (show(((n+1:Nat)):Int)>0 by omega)) (ae rfl (aa t1 (aa t2 (af rfl h1))))),h2⟩
 have mid:∀(es:List aj) (bad:Bool) (rest:List Int),es.length≤255→(∀e∈es,e.2.1.size≤4000)→Rest rest B → ∃c r BB,FX G 76 wF ((),((rest,(bad,())),()))=some ((c,()),((r,(BB,())),()))∧∃z,LX G 54 eT Tryz.f54 ju (aE Tryz.prog 54 1) ((B,(c,())),((([],([],())),((r,(BB,())),(([],(es,())),()))),()))=some (z,())∧jO z:=by intro es bad rest hm he hr;have hrn:=hr.n;obtain⟨c,r,BB,t,q,c0,c1⟩:=Yv hG rest bad (by omega) hr.y;obtain⟨k,rfl⟩:∃k:Nat,c=(k:Int):=⟨c.toNat,by omega⟩;obtain⟨z,h1,h2⟩:=uu k [] es BB r (by simp;omega) ⟨ac6 _,hm,fun v hv=>(by cases hv),he⟩ (q.trans hr);exact⟨_,r,BB,t,z,h1,h2⟩
 have ux:∀(n:Nat) (es:List aj) (bad:Bool) (rest:List Int),es.length+n≤255→(∀e∈es,e.2.1.size≤4000)→Rest rest B → ∃r,LX G 54 eT Tryz.f54 mG (aE Tryz.prog 54 0) ((B,(((n:Nat):Int),())),((([],([],())),((rest,(bad,())),(([],(es,())),()))),()))=some (r,())∧jO r:=by
  intro n
  induction n with
  |zero =>intro es bad rest hn he hr;obtain⟨c,r,BB,t,z,h1,h2⟩:=mid es bad rest (by omega) he hr;exact⟨z,ak zX (af rfl (aa t h1)),h2⟩
  |succ n ih =>
   intro es bad rest hn he hr;have hrn:=hr.n;have h0:decide ((((n+1:Nat)):Int)>0)=true:=decide_eq_true (by omega)
   cases bad with
   |true =>obtain⟨c,r,BB,t,z,h1,h2⟩:=mid es true rest (by omega) he hr;exact⟨z,ak zX (ae h0 (af rfl (aa t h1))),h2⟩
   |false =>
    obtain⟨e,r1,aaS,t1,q1,q2⟩:=Yw hG rest false (by omega) hr.y;obtain⟨z,h1,h2⟩:=ih (es++[e]) aaS r1 (by simp;omega) (fun f hf=>by
     rcases abY.1 hf with hf|hf
     ·exact he f hf
     ·rw[List.mem_singleton.1 hf];exact q2) (q1.trans hr)
    refine⟨z,ak zX (ae h0 (ae rfl (aa t1 (ae (fits (show es.length+1≤_ by omega)) ?_)))),h2⟩;exact(congrArg (fun k:Int=>LX G 54 eT Tryz.f54 mG (aE Tryz.prog 54 0) ((B,(k,())),((([],([],())),((r1,(aaS,())),(([],(es++[e],())),()))),()))) (Aa n (by omega))).trans h1
 obtain⟨c,r,BB,t,q,c0,c1⟩:=Yv hG B false hB yB;obtain⟨k,rfl⟩:∃k:Nat,c=(k:Int):=⟨c.toNat,by omega⟩;obtain⟨z,h1,h2⟩:=ux k [] BB r (by simp;omega) (fun e he=>by cases he) q;exact⟨z,au (hG _ _ rfl) ace (aa t h1),h2⟩
end Go.Vs
set_option autoImplicit false
namespace Go.Vs
open Go Go.Proofs
variable {G:(f:FuncId)→(g:aO)→Option (g.A→Option g.B)}
theorem c8:oq 0:=⟨by decide,by decide⟩
theorem jZ{c:Int}(h : -1≤c∧c<256):oq c:=⟨by omega,by omega⟩
theorem aev(hG:HG G)(b:List Int)(hb:b.length≤4000)(hy:bU b):∃(g:aC) (r:List Int) (ok:Bool),FX G 55 Ig ((b,()),())=some ((g,(r,(ok,()))),())∧Rest r b∧oq g.1.2∧oq g.2.2:=by
 have a1:=jN hy;have t1:=I5 hG b (by omega) hy;generalize cj b=y at t1 a1;obtain⟨x,r1,ok,u⟩:=y;have hn:r1.length≤b.length:=a1.n;have Gu:bU r1:=a1.y;have nil:Rest [] b:=⟨ac6 _,bU.nil⟩
 cases ok with
 |false=>exact⟨_,_,_,au (hG _ _ rfl) Cp (aa t1 (ae rfl rfl)),nil,c8,c8⟩
 |true =>
  match r1,t1,hn,Gu with
  |[],t1,_,_=>exact⟨_,_,_,au (hG _ _ rfl) Cp (aa t1 (af rfl (ae rfl rfl))),nil,c8,c8⟩
  |[c],t1,_,_=>exact⟨_,_,_,au (hG _ _ rfl) Cp (aa t1 (af rfl (ae rfl rfl))),nil,c8,c8⟩
  |c0::c1::r2,t1,hn,Gu =>
   have y0:=Gu c0 (by simp);have y1:=Gu c1 (by simp);have y2:bU r2:=fun c hc=>Gu c (by simp[hc]);have hn:r2.length+1+1≤b.length:=hn;have h2:decide ((((c0::c1::r2).length:Nat):Int)<2)=false:=decide_eq_false (show ¬(((r2.length+1+1:Nat):Int)<2) by omega);by_cases hc:c1>2
   ·exact⟨_,_,_,au (hG _ _ rfl) Cp (aa t1 (af rfl (af h2 (aa (ai (i:=1) rfl) (ae (decide_eq_true hc) rfl))))),nil,c8,c8⟩
   ·have ob:aq (c0::c1::r2).length 2 (((c0::c1::r2).length:Nat):Int)=true:=by show aq (r2.length+1+1) 2 ((r2.length+1+1:Nat):Int)=true;simp[aq];omega
    have ec:cut (c0::c1::r2) 2 (lI (c0::c1::r2))=r2:=cU (c0::c1::r2) 2;have w0:=cW y0;have w1:=cW y1;by_cases hp:c1>0
    ·have a3:=jN y2;have t2:=(congrArg (fun q:List Int=>FX G 79 mw ((q,()),())) ec).trans (I5 hG r2 (by omega) y2);generalize cj r2=y at t2 a3;obtain⟨x2,r3,Co,u2⟩:=y;have hn3:r3.length≤r2.length:=a3.n;refine⟨((x,wI c0),(x2,wI (wI c1-1))),r3,Co,au (hG _ _ rfl) Cp (aa t1 (af rfl (af h2 (aa (ai (i:=1) rfl) (af (decide_eq_false hc) (aa (ai (i:=0) rfl) (aa (ai (i:=1) rfl) (ae ob (ae (decide_eq_true (show wI c1>0 by rw[w1];exact hp)) (aa t2 rfl)))))))))),⟨by omega,a3.y⟩,?_,?_⟩
     ·show oq (wI c0);rw[w0];exact jZ (by omega)
     ·have w3:wI (wI c1-1)=c1-1:=by rw[w1];exact wrap_small (by omega) (by omega)
      show oq (wI (wI c1-1));rw[w3];exact jZ (by omega)
    ·refine⟨((x,wI c0),OD),cut (c0::c1::r2) 2 (lI (c0::c1::r2)),true,au (hG _ _ rfl) Cp (aa t1 (af rfl (af h2 (aa (ai (i:=1) rfl) (af (decide_eq_false hc) (aa (ai (i:=0) rfl) (aa (ai (i:=1) rfl) (ae ob (af (decide_eq_false (show ¬wI c1>0 by rw[w1];exact hp)) rfl))))))))),?_,?_,c8⟩
     ·rw[ec];exact⟨by omega,y2⟩
     ·show oq (wI c0);rw[w0];exact jZ (by omega)
def TkS(b:List Int)(r:Int×(StateT×(Int×Unit))):Prop:=(∃n s,wa n s∧fz n s=b∧r=(n,(s,(0,()))))∨((∀n s,wa n s→fz n s≠b)∧r=(0,(zS,(2,()))))
theorem TkS.eq{b:List Int}{r q:Int×(StateT×(Int×Unit))}(h:TkS b r)(k:TkS b q):r=q:=by
 rcases h with⟨n,s,h1,h2,h3⟩|⟨h1,h3⟩<;>rcases k with⟨m,t,k1,k2,k3⟩|⟨k1,k3⟩
 ·obtain⟨e1,e2⟩:=TW ⟨h1.n0,h1.n1⟩ ⟨k1.n0,k1.n1⟩ h1.w k1.w h1.g.k k1.g.k (h2.trans k2.symm);rw[h3,k3,e1,e2]
 ·exact absurd h2 (k1 n s h1)
 ·exact absurd k2 (h1 m t k1)
 ·rw[h3,k3]
theorem Yy{d:ar}(h:Wf d){es:List aC}(hn:es.length≤500)(hi:∀g∈es,oq g.1.2∧oq g.2.2):Sz (d,es) :=⟨h.sm,fun v hv=>by have:=h.mo v hv;omega,fun v hv=>by have:=gm (h.gv v hv).l;omega,fun e he=>by have:=gm (h.ge e he).l;omega,by show es.length≤_;omega,hi⟩
theorem Yz(hG:HG G)(hp:jM G)(B:List Int)(hB:B.length≤4000)(yB:bU B):∃r,FX G 24 oW ((B,()),())=some (r,())∧TkS B r:=by
 by_cases h:∃n s,wa n s∧fz n s=B
 ·obtain⟨n,s,hs,rfl⟩:=h;exact⟨_,ajp hG hp n s ⟨hs.n0,hs.n1⟩ hs.w hs.p hs.g.k,.inl ⟨n,s,hs,rfl,rfl⟩⟩
 have ta:∀n s,wa n s→fz n s≠B:=fun n s h1 h2=>h ⟨n,s,h1,h2⟩;refine⟨((0:Int),(zS,((2:Int),()))),?_,.inr ⟨ta,rfl⟩⟩;have a1:=lq yB;have t1:=I6 hG B (by omega) yB;generalize takeN B=y at t1 a1;obtain⟨n,r1,XD,u1⟩:=y;have n1:r1.length≤B.length:=a1.n;have a2:=lq a1.y;have t2:=I6 hG r1 (by omega) a1.y;generalize takeN r1=y at t2 a2;obtain⟨m,r2,ok,u2⟩:=y;have n2:r2.length≤r1.length:=a2.n;have y2:bU r2:=a2.y;refine au (hG _ _ rfl) acb (aa t1 (aa t2 ?_))
 cases ok with
 |false=>exact ae rfl rfl
 |true =>
 refine af rfl ?_;by_cases Un:m<0
 ·exact ae (decide_eq_true Un) rfl
 refine af (decide_eq_false Un) ?_;by_cases hm1:m>((r2.length:Nat):Int)
 ·exact ae (decide_eq_true hm1) rfl
 refine af (decide_eq_false hm1) ?_;obtain⟨k,rfl⟩:∃k:Nat,m=(k:Int):=⟨m.toNat,by omega⟩;have c1:=Ad r2 k;have c2:cut r2 (k:Int) (lI r2)=r2.drop k:=cU r2 k;obtain⟨⟨d,e,u⟩,t3,hd⟩:=aeu hG hp (r2.take k) (by rw[List.length_take];omega) (y2.take k);have t3:=(congrArg (fun q:List Int=>FX G 54 eT ((q,()),())) c1).trans t3;refine ae (show aq r2.length 0 (k:Int)=true by simp[aq];omega) (aa t3 (ae (show aq r2.length (k:Int) ((r2.length:Nat):Int)=true by simp[aq];omega) ?_));have fin:∀(es:List aC) (e:Int),es.length≤402→(∀g∈es,oq g.1.2∧oq g.2.2)→(e=0→Wf d∧cX d=0) →(cond (e != 0) (some (((0:Int),(zS,((2:Int),()))),())) ((FX G 22 mu ((n,((d,es),())),())).bind fun(y5:(List Int×(Int×Unit))×Unit)=>cond (y5.1.2.1 != 0) (some (((0:Int),(zS,((2:Int),()))),())) ((FX G 46 tW ((y5.1.1,(B,())),())).bind fun(y6:(Bool×Unit)×Unit)=>cond (!y6.1.1) (some (((0:Int),(zS,((2:Int),()))),())) (some ((n,((d,es),((0:Int),()))),())))))=some (((0:Int),(zS,((2:Int),()))),()):=by
  intro es e hl hi he;by_cases h0:e=0
  ·obtain⟨w,_⟩:=he h0;refine af (show(e != 0)=false by rw[h0];rfl) (aa (Ys hG hp n (d,es) (Yy w (by omega) hi)) ?_);by_cases hc:(BA n (d,es)).2.1=0
   ·have hs:=RM.1 hc;rw[sH hs];refine af rfl (aa (au (hG _ _ rfl) Rp rfl) (ae ?_ rfl));show(!(strOf (fz n (d,es))==strOf B))=true;rw[I3 (bU.snap n (d,es)) yB,decide_eq_false (ta n (d,es) hs)];rfl
   ·exact ae (show((BA n (d,es)).2.1 != 0)=true by rw[bne_iff_ne];exact hc) rfl
  ·exact ae (show(e != 0)=true by rw[bne_iff_ne];exact h0) rfl
 have loop:∀(f:Nat) (rest:List Int) (es:List aC) (e:Int),es.length+f=402→Rest rest B→(∀g∈es,oq g.1.2∧oq g.2.2)→(e=0→Wf d∧cX d=0) → LX G 24 oW Tryz.f24 lA (aE Tryz.prog 24 0) ((B,(n,(rest,(e,())))),((OW,((d.1,(d.2,(es,()))),())),()))=some (((0:Int),(zS,((2:Int),()))),()):=by
  intro f
  induction f with
  |zero =>
   intro rest es e hf hr hi he;refine ak Dn ?_;by_cases h0:e=0
   ·refine ae (show(e==0)=true by rw[h0];rfl) ?_;by_cases hl:decide (((rest.length:Nat):Int)>0)=true
    ·exact ae hl (af (decide_eq_false (show ¬(((es.length:Nat):Int)≤400) by omega)) (fin es e (by omega) hi he))
    ·exact af (ac5.2 hl) (fin es e (by omega) hi he)
   ·exact af (show(e==0)=false by rw[beq_eq_false_iff_ne];exact h0) (fin es e (by omega) hi he)
  |succ f ih =>
   intro rest es e hf hr hi he;have hrn:=hr.n;refine ak Dn ?_;by_cases h0:e=0
   ·refine ae (show(e==0)=true by rw[h0];rfl) ?_;by_cases hl:decide (((rest.length:Nat):Int)>0)=true
    ·refine ae hl ?_;by_cases h4:decide (((es.length:Nat):Int)≤400)=true
     ·refine ae h4 ?_;obtain⟨g,r,ok,t,q,g1,g2⟩:=aev hG rest (by omega) hr.y;have xe:∀x∈es++[g],oq x.1.2∧oq x.2.2:=fun x hx=>by
       rcases abY.1 hx with hx|hx
       ·exact hi x hx
       ·rw[List.mem_singleton.1 hx];exact⟨g1,g2⟩
      have YK:(es++[g]).length+f=402:=by simp;omega
      have ft:aR es.length ([g]:List aC).length=true:=fits (show es.length+1≤_ by omega);refine aa t ?_
      cases ok with
      |false=>exact ae rfl (ae ft (ih r (es++[g]) 2 YK (q.trans hr) xe (fun k=>by cases k)))
      |true=>exact af rfl (ae ft (ih r (es++[g]) e YK (q.trans hr) xe he))
     ·exact af (ac5.2 h4) (fin es e (by omega) hi he)
    ·exact af (ac5.2 hl) (fin es e (by omega) hi he)
   ·exact af (show(e==0)=false by rw[beq_eq_false_iff_ne];exact h0) (fin es e (by omega) hi he)
 have hr0:Rest (r2.drop k) B:=⟨by rw[List.length_drop];omega,y2.drop k⟩;exact(congrArg (fun q:List Int=>LX G 24 oW Tryz.f24 lA (aE Tryz.prog 24 0) ((B,(n,(q,(e,())))),((OW,((d.1,(d.2,([],()))),())),()))) c2).trans (loop 402 (r2.drop k) [] e rfl hr0 (fun g hg=>by cases hg) hd)
end Go.Vs
set_option autoImplicit false
namespace Go.Vs
open Go Go.Proofs
variable {G:(f:FuncId)→(g:aO)→Option (g.A→Option g.B)}
theorem Nz(hG:HG G)(b:List Int)(hb:b.length≤1000000)(hy:bU b):FX G 81 wG ((b,()),())=some (cj b,()):=by
 refine au (hG _ _ rfl) aja ?_;by_cases h4:4≤b.length
 ·obtain⟨c0,c1,c2,c3,r,rfl⟩:=four h4;have y0:=hy c0 (by simp);have y1:=hy c1 (by simp);have y2:=hy c2 (by simp);have y3:=hy c3 (by simp);have hl:(c0::c1::c2::c3::r).length=r.length+4:=rfl;have w0:=cW y0;have w1:=cW y1;have w2:=cW y2;have w3:=cW y3;have e5:wI ((65536:Int)*wI c1)=65536*c1:=by rw[w1];exact wrap_small (by omega) (by omega)
  have e6:wI ((256:Int)*wI c2)=256*c2:=by rw[w2];exact wrap_small (by omega) (by omega)
  have e7:wI (wI ((65536:Int)*wI c1)+wI ((256:Int)*wI c2))=65536*c1+256*c2:=by rw[e5,e6];exact wrap_small (by omega) (by omega)
  have e8:wI (wI (wI ((65536:Int)*wI c1)+wI ((256:Int)*wI c2))+wI c3)=((0*256+c1)*256+c2)*256+c3:=by rw[e7,w3];refine(wrap_small (by omega) (by omega)).trans ?_;omega
  have ex:(((wI c0),wI (wI (wI ((65536:Int)*wI c1)+wI ((256:Int)*wI c2))+wI c3)):ID)=(c0,((0*256+c1)*256+c2)*256+c3):=Prod.ext w0 e8;have t:FX G 104 JI (((((wI c0),wI (wI (wI ((65536:Int)*wI c1)+wI ((256:Int)*wI c2))+wI c3)):ID),()),())=some ((bQ (c0,((0*256+c1)*256+c2)*256+c3),()),()):=by rw[ex];exact S7 (hG _ _ rfl) _
  refine af (decide_eq_false (show ¬((((c0::c1::c2::c3::r).length:Nat):Int)<4) by omega)) (aa (ai (i:=0) rfl) (aa (ai (i:=1) rfl) (aa (ai (i:=2) rfl) (aa (ai (i:=3) rfl) (aa t ?_)))));unfold cj;by_cases hm:bQ (c0,((0*256+c1)*256+c2)*256+c3)=true
  ·refine af (cz hm) (ae (show aq (c0::c1::c2::c3::r).length 4 (((c0::c1::c2::c3::r).length:Nat):Int)=true by simp[aq];omega) ?_);rw[if_pos ⟨h4,hm⟩];have ec:cut (c0::c1::c2::c3::r) 4 (lI (c0::c1::c2::c3::r))=r:=cU (c0::c1::c2::c3::r) 4;show some (((((wI c0),wI (wI (wI ((65536:Int)*wI c1)+wI ((256:Int)*wI c2))+wI c3)):ID),(cut (c0::c1::c2::c3::r) 4 (lI (c0::c1::c2::c3::r)),(true,()))),())=_;rw[ex,ec];rfl
  ·refine ae (fS (ac5.2 hm)) ?_;rw[if_neg fun k=>hm k.2];rfl
 ·refine ae (decide_eq_true (show(((b.length:Nat):Int)<4) by omega)) ?_;unfold cj;rw[if_neg fun k=>h4 k.1];rfl
theorem NA(hG:HG G)(b:List Int)(hb:b.length≤1000000)(hy:bU b):FX G 56 sV ((b,()),())=some (takeN b,()):=by
 refine au (hG _ _ rfl) ai8 ?_;unfold takeN;by_cases h8:8≤b.length
 ·rw[if_pos h8];obtain⟨c0,c1,c2,c3,c4,c5,c6,c7,r,hbr⟩:=eight h8;have hc:∀c∈[c0,c1,c2,c3,c4,c5,c6,c7],0≤c∧c<256:=fun c hc=>hy c (by rw[hbr];simp at hc ⊢;omega);have y0:=hc c0 (by simp);have y1:=hc c1 (by simp);have y2:=hc c2 (by simp);have y3:=hc c3 (by simp);have y4:=hc c4 (by simp);have y5:=hc c5 (by simp);have y6:=hc c6 (by simp);have y7:=hc c7 (by simp);have et:b.take 8=[c0,c1,c2,c3,c4,c5,c6,c7]:=by rw[hbr];rfl
  have oC:∀k,k<8→b[k]? = ([c0,c1,c2,c3,c4,c5,c6,c7]:List Int)[k]? := fun k hk=>by rw[←et,List.getElem?_take,if_pos hk]
  refine af (decide_eq_false (show ¬(((b.length:Nat):Int)<8) by omega)) ?_;have step:∀(k:Nat) (N c:Int),k<8→([c0,c1,c2,c3,c4,c5,c6,c7]:List Int)[k]? = some c→0≤N→N<72057594037927936→(0≤c∧c<256)→∀{z},LX G 56 sV Tryz.f56 r9 (aE Tryz.prog 56 0) ((b,(N*256+c,(((k+1:Nat):Int),()))),((),()))=some z → LX G 56 sV Tryz.f56 r9 (aE Tryz.prog 56 0) ((b,(N,((k:Int),()))),((),()))=some z:=fun k N c hk hc h0 h1 hcb z hz=>by
   refine ak RE (ae (decide_eq_true (show(k:Int)<8 by omega)) (aa (ai ((oC k hk).trans hc)) ?_));have e1:wI ((k:Int)+1)=((k+1:Nat):Int):=aB (n:=8) hk (by omega);have e2:IntKind.wrap .u64 (IntKind.wrap .u64 ((256:Int)*N)+IntKind.wrap .u64 c)=N*256+c:=by rw[jY (n:=256*N) (by omega) (by omega),jY (n:=c) (by omega) (by omega),jY (by omega) (by omega)];omega
   exact(congr (congrArg (fun(i:Int) (M:Int)=>LX G 56 sV Tryz.f56 r9 (aE Tryz.prog 56 0) ((b,(M,(i,()))),((),()))) e1) e2).trans hz
  refine step 0 0 c0 (by omega) rfl (by omega) (by omega) y0 (step 1 _ c1 (by omega) rfl (by omega) (by omega) y1 (step 2 _ c2 (by omega) rfl (by omega) (by omega) y2 (step 3 _ c3 (by omega) rfl (by omega) (by omega) y3 (step 4 _ c4 (by omega) rfl (by omega) (by omega) y4 (step 5 _ c5 (by omega) rfl (by omega) (by omega) y5 (step 6 _ c6 (by omega) rfl (by omega) (by omega) y6 (step 7 _ c7 (by omega) rfl (by omega) (by omega) y7 ?_)))))));refine ak RE (af rfl (ae (show aq b.length 8 (((b.length:Nat)):Int)=true by simp[aq];omega) ?_));rw[et];exact congrArg (fun q:List Int=>some ((wI (z8 [c0,c1,c2,c3,c4,c5,c6,c7] 0),(q,(true,()))),())) (cU b 8)
 ·rw[if_neg h8];exact ae (decide_eq_true (show(((b.length:Nat):Int)<8) by omega)) rfl
theorem aju(hG:HG G)(b:List Int)(hb:b.length≤1000000)(hy:bU b):FX G 107 Mg ((b,()),())=some (cO b,()):=by
 refine au (hG _ _ rfl) ajb ?_
 cases b with
 |nil=>exact ae rfl rfl
 |cons c r =>
  have yc:=hy c (by simp);have hb:r.length+1≤1000000:=hb;have e2:=cW yc;obtain⟨k,rfl⟩:∃k:Nat,c=(k:Int):=⟨c.toNat,by omega⟩;have e3:wI ((1:Int)+wI (k:Int))=((k+1:Nat):Int):=by rw[e2];show IntKind.wrap .i64 _=_;rw[wrap_small (by omega) (by omega)];omega
  refine af (decide_eq_false (show ¬(((r.length+1:Nat):Int)<1) by omega)) (aa (ai (i:=0) rfl) ?_);by_cases h:(k:Int)≤((r.length:Nat):Int)
  ·have et:cO ((k:Int)::r)=(strOf (r.take k),(r.drop k,(true,()))):=by unfold cO;simp only[if_pos h,Int.toNat_natCast]
   rw[et];refine af (decide_eq_false (show ¬(((r.length+1:Nat):Int)<wI ((1:Int)+wI (k:Int))) by rw[e3];omega)) (aa (ai (i:=0) rfl) (ae ?_ (ae ?_ ?_)))
   ·show aq (r.length+1) 1 (wI ((1:Int)+wI (k:Int)))=true;rw[e3];simp[aq];omega
   ·show aq (r.length+1) (wI ((1:Int)+wI (k:Int))) ((r.length+1:Nat):Int)=true;rw[e3];simp[aq];omega
   ·have a1:cut ((k:Int)::r) (1:Int) (wI ((1:Int)+wI (k:Int)))=r.take k:=by rw[e3];unfold cut;rw[Int.toNat_natCast];rfl
    have a2:cut ((k:Int)::r) (wI ((1:Int)+wI (k:Int))) (lI ((k:Int)::r))=r.drop k:=by rw[e3];exact cU ((k:Int)::r) (k+1)
    show some ((strOf (cut ((k:Int)::r) (1:Int) (wI ((1:Int)+wI (k:Int)))),(cut ((k:Int)::r) (wI ((1:Int)+wI (k:Int))) (lI ((k:Int)::r)),(true,()))),())=_;rw[a1,a2];rfl
  ·have et:cO ((k:Int)::r)=(e0,((k:Int)::r,(false,()))):=by unfold cO;simp only[if_neg h]
   rw[et];exact ae (decide_eq_true (show(((r.length+1:Nat):Int)<wI ((1:Int)+wI (k:Int))) by rw[e3];omega)) rfl
def uI(b:List Int):aj×(List Int×(Bool×Unit)) :=(((cj b).1,((cO (cj b).2.1).1,(takeN (cO (cj b).2.1).2.1).1)),((takeN (cO (cj b).2.1).2.1).2.1,(((cj b).2.2.1&&(cO (cj b).2.1).2.2.1)&&(takeN (cO (cj b).2.1).2.1).2.2.1,())))
theorem RN(hG:HG G)(b:List Int)(hb:b.length≤1000000)(hy:bU b):FX G 80 Ik ((b,()),())=some (uI b,()):=by
 have a1:=jN hy;have a2:=xS a1.y;have n1:=a1.n;have n2:=a2.1.n;have t1:=Nz hG b hb hy;have t2:=aju hG (cj b).2.1 (by omega) a1.y;have t3:=NA hG (cO (cj b).2.1).2.1 (by omega) a2.1.y;refine au (hG _ _ rfl) ai9 (aa t1 (aa t2 (aa t3 ?_)));unfold uI
 cases h1:(cj b).2.2.1 with
 |false=>exact af rfl rfl
 |true =>
  refine ae rfl ?_
  cases h2:(cO (cj b).2.1).2.2.1 with
  |false=>exact af rfl rfl
  |true=>exact ae rfl rfl
theorem Gq{e:aj}(he:PO e)(r:List Int):uI (bB e++r)=(e,(r,(true,()))):=by
 have hs:=gm he.l;have ha:=he.a;unfold dE at ha;have ha:=of_decide_eq_true ha;have e0:bB e++r=bq e.1++(iF e.2.1++(dr e.2.2++r)):=by unfold bB;simp only[List.append_assoc]
 unfold uI;rw[e0,nk he.i];simp only;rw[Gj (by omega)];simp only;rw[nm (by omega)];rfl
end Go.Vs
set_option autoImplicit false
namespace Go.Vs
open Go Go.Proofs
variable {G:(f:FuncId)→(g:aO)→Option (g.A→Option g.B)}
theorem ajv(hG:HG G)(g:aC)(r:List Int)(hb:r.length≤100000)(hy:bU r)(h1:gr g.1=true)(h2:g.2=zD∨gr g.2=true):FX G 58 Ij ((bc g++r,()),())=some ((g,(r,(true,()))),()):=by
 obtain⟨a1,a2⟩:=cK (.inr h1);obtain⟨a3,a4⟩:=cK h2;have m1:bQ g.1.1=true:=(aeK _ _▸(show(bQ g.1.1&&decide (g.1.2=0∨g.1.2=1))=true from h1)).1;have s1:w8 g.1.2=g.1.2:=Ab (by omega);have e0:bc g++r=bq g.1.1++(g.1.2::((if g.2=zD then[0] else w8 (g.2.2+1)::bq g.2.1)++r)):=by unfold bc;rw[s1];simp only[List.append_assoc,List.cons_append]
 have yX:bU ((if g.2=zD then[0] else w8 (g.2.2+1)::bq g.2.1)++r):=by
  refine bU.app ?_ hy
  split
  ·intro c hc;rw[List.mem_singleton.1 hc];omega
  ·exact(bU.bq _).cons
 have lX:((if g.2=zD then[0] else w8 (g.2.2+1)::bq g.2.1)++r).length≤r.length+5:=by rw[List.length_append];split<;>simp[bq]<;>omega
 have hq:=e0;generalize hX:(if g.2=zD then[0] else w8 (g.2.2+1)::bq g.2.1)++r=X at hq yX lX;have y1:bU (g.1.2::X):=s1▸(bU.cons (n:=g.1.2) yX);have t1:=Nz hG (bq g.1.1++(g.1.2::X)) (by rw[List.length_append,List.length_cons];simp[bq];omega) ((bU.bq _).app y1);rw[nk m1]at t1;have t1:=(congrArg (fun q:List Int=>FX G 81 wG ((q,()),())) hq).trans t1;have w1:wI g.1.2=g.1.2:=cW (by omega);have eg:((g.1.1,wI g.1.2):ag)=g.1:=Prod.ext rfl w1;have c1:decide (g.1.2>1)=false:=decide_eq_false (by omega);by_cases hz:g.2=zD
 ·rw[if_pos hz]at hX;subst hX;have ec:cut (g.1.2::(0::r)) 2 (lI (g.1.2::(0::r)))=r:=cU (g.1.2::(0::r)) 2;refine au (hG _ _ rfl) z5 (aa t1 (af rfl (af (decide_eq_false (show ¬(((r.length+1+1:Nat):Int)<2) by omega)) (aa (ai (i:=0) rfl) (af c1 (aa (ai (i:=1) rfl) (af rfl (aa (ai (i:=0) rfl) (aa (ai (i:=1) rfl) (ae (show aq (r.length+1+1) 2 ((r.length+1+1:Nat):Int)=true by simp[aq];omega) (ae rfl ?_)))))))))));show some ((((g.1.1,wI g.1.2),OD),(cut (g.1.2::(0::r)) 2 (lI (g.1.2::(0::r))),(true,()))),())=_;rw[eg,ec];exact congrArg (fun q:ag=>some (((g.1,q),(r,(true,()))),())) hz.symm
 ·rw[if_neg hz]at hX;have Af:gr g.2=true:=h2.resolve_left hz;have m2:bQ g.2.1=true:=(aeK _ _▸(show(bQ g.2.1&&decide (g.2.2=0∨g.2.2=1))=true from Af)).1;have s2:w8 (g.2.2+1)=g.2.2+1:=Ab (by omega);rw[s2,List.cons_append]at hX;subst hX;have lr:(bq g.2.1++r).length=r.length+4:=by rw[List.length_append];simp[bq];omega
  have ec:cut (g.1.2::((g.2.2+1)::(bq g.2.1++r))) 2 (lI (g.1.2::((g.2.2+1)::(bq g.2.1++r))))=bq g.2.1++r:=cU (g.1.2::((g.2.2+1)::(bq g.2.1++r))) 2;have t2:=Nz hG (bq g.2.1++r) (by omega) ((bU.bq _).app hy);rw[nk m2]at t2;have t2:=(congrArg (fun q:List Int=>FX G 81 wG ((q,()),())) ec).trans t2;have w2:wI (g.2.2+1)=g.2.2+1:=cW (by omega);have w3:wI (wI (g.2.2+1)-1)=g.2.2:=by rw[w2];exact(wrap_small (by omega) (by omega)).trans (by omega)
  have eh:((g.2.1,wI (wI (g.2.2+1)-1)):ag)=g.2:=Prod.ext rfl w3;refine au (hG _ _ rfl) z5 (aa t1 (af rfl (af (decide_eq_false (show ¬((((bq g.2.1++r).length+1+1:Nat):Int)<2) by omega)) (aa (ai (i:=0) rfl) (af c1 (aa (ai (i:=1) rfl) (af (decide_eq_false (show ¬(g.2.2+1>2) by omega)) (aa (ai (i:=0) rfl) (aa (ai (i:=1) rfl) (ae (show aq ((bq g.2.1++r).length+1+1) 2 (((bq g.2.1++r).length+1+1:Nat):Int)=true by simp[aq];omega) (af (show(wI (g.2.2+1)==0)=false by rw[w2,beq_eq_false_iff_ne];omega) (aa t2 ?_))))))))))));show some ((((g.1.1,wI g.1.2),(g.2.1,wI (wI (g.2.2+1)-1))),(r,(true,()))),())=_;rw[eg,eh];rfl
theorem aex(hG:HG G)(b:List Int)(hb:b.length≤4000)(hy:bU b):∃(g:aC) (r:List Int) (ok:Bool),FX G 58 Ij ((b,()),())=some ((g,(r,(ok,()))),())∧Rest r b∧oq g.1.2∧oq g.2.2:=by
 have a1:=jN hy;have t1:=Nz hG b (by omega) hy;generalize cj b=y at t1 a1;obtain⟨x,r1,ok,u⟩:=y;have hn:r1.length≤b.length:=a1.n;have Gu:bU r1:=a1.y;have nil:Rest [] b:=⟨ac6 _,bU.nil⟩
 cases ok with
 |false=>exact⟨_,_,_,au (hG _ _ rfl) z5 (aa t1 (ae rfl rfl)),nil,c8,c8⟩
 |true =>
  match r1,t1,hn,Gu with
  |[],t1,_,_=>exact⟨_,_,_,au (hG _ _ rfl) z5 (aa t1 (af rfl (ae rfl rfl))),nil,c8,c8⟩
  |[c],t1,_,_=>exact⟨_,_,_,au (hG _ _ rfl) z5 (aa t1 (af rfl (ae rfl rfl))),nil,c8,c8⟩
  |c0::c1::r2,t1,hn,Gu =>
   have y0:=Gu c0 (by simp);have y1:=Gu c1 (by simp);have y2:bU r2:=fun c hc=>Gu c (by simp[hc]);have hn:r2.length+1+1≤b.length:=hn;have h2:decide ((((c0::c1::r2).length:Nat):Int)<2)=false:=decide_eq_false (show ¬(((r2.length+1+1:Nat):Int)<2) by omega);by_cases hs:c0>1
   ·exact⟨_,_,_,au (hG _ _ rfl) z5 (aa t1 (af rfl (af h2 (aa (ai (i:=0) rfl) (ae (decide_eq_true hs) rfl))))),nil,c8,c8⟩
   have Zt:decide (c0>1)=false:=decide_eq_false hs;by_cases hc:c1>2
   ·exact⟨_,_,_,au (hG _ _ rfl) z5 (aa t1 (af rfl (af h2 (aa (ai (i:=0) rfl) (af Zt (aa (ai (i:=1) rfl) (ae (decide_eq_true hc) rfl))))))),nil,c8,c8⟩
   ·have ob:aq (c0::c1::r2).length 2 (((c0::c1::r2).length:Nat):Int)=true:=by show aq (r2.length+1+1) 2 ((r2.length+1+1:Nat):Int)=true;simp[aq];omega
    have ec:cut (c0::c1::r2) 2 (lI (c0::c1::r2))=r2:=cU (c0::c1::r2) 2;have w0:=cW y0;have w1:=cW y1;by_cases hp:c1=0
    ·refine⟨((x,wI c0),OD),cut (c0::c1::r2) 2 (lI (c0::c1::r2)),true,au (hG _ _ rfl) z5 (aa t1 (af rfl (af h2 (aa (ai (i:=0) rfl) (af Zt (aa (ai (i:=1) rfl) (af (decide_eq_false hc) (aa (ai (i:=0) rfl) (aa (ai (i:=1) rfl) (ae ob (ae (show(wI c1==0)=true by rw[w1,hp];rfl) rfl))))))))))),?_,?_,c8⟩
     ·rw[ec];exact⟨by omega,y2⟩
     ·show oq (wI c0);rw[w0];exact jZ (by omega)
    ·have a3:=jN y2;have t2:=(congrArg (fun q:List Int=>FX G 81 wG ((q,()),())) ec).trans (Nz hG r2 (by omega) y2);generalize cj r2=y at t2 a3;obtain⟨x2,r3,Co,u2⟩:=y;have hn3:r3.length≤r2.length:=a3.n;refine⟨((x,wI c0),(x2,wI (wI c1-1))),r3,Co,au (hG _ _ rfl) z5 (aa t1 (af rfl (af h2 (aa (ai (i:=0) rfl) (af Zt (aa (ai (i:=1) rfl) (af (decide_eq_false hc) (aa (ai (i:=0) rfl) (aa (ai (i:=1) rfl) (ae ob (af (show(wI c1==0)=false by rw[w1,beq_eq_false_iff_ne];exact hp) (aa t2 rfl)))))))))))),⟨by omega,a3.y⟩,?_,?_⟩
     ·show oq (wI c0);rw[w0];exact jZ (by omega)
     ·have w3:wI (wI c1-1)=c1-1:=by rw[w1];exact wrap_small (by omega) (by omega)
      show oq (wI (wI c1-1));rw[w3];exact jZ (by omega)
end Go.Vs
set_option autoImplicit false
namespace Go.Vs
open Go Go.Proofs
variable {G:(f:FuncId)→(g:aO)→Option (g.A→Option g.B)}
theorem aey(hG:HG G)(B:List Int)(hB:B.length≤4000)(yB:bU B):∃r,FX G 57 dL ((B,()),())=some (r,())∧jO r:=by
 have zero:jO ((([]:List an),([]:List aj)),((2:Int),())):=fun k=>by cases k
 have fin:∀(n m i:Int) (vs:List an) (es:List aj) (rest:List Int),Dz vs es→decide (i<m)=false → ∃r,LX G 57 dL Tryz.f57 jv (aE Tryz.prog 57 1) ((B,(n,(rest,(m,(i,()))))),((([],([],())),((vs,(es,())),())),()))=some (r,())∧jO r:=by
  intro n m i vs es rest hd hc;by_cases hm:pS (vs,es)=0
  ·obtain⟨a,b⟩:=g6.1 hm;have t:=PR hG (vs,es) a b
   cases hq:(strOf (b6 (vs,es))==strOf B) with
   |false=>exact⟨_,ak mS (af hc (aa t (af rfl (ae (fS hq) rfl)))),zero⟩
   |true=>exact⟨((vs,es),((0:Int),())),ak mS (af hc (aa t (af rfl (af (cz hq) rfl)))),fun _=>⟨a,b⟩⟩
  ·have t:=Yr hG ((vs,es),[]) hd.sz hm;exact⟨_,ak mS (af hc (aa t (ae (show(pS (vs,es) != 0)=true by rw[bne_iff_ne];exact hm) rfl))),zero⟩
 have Gs:∀{b:List Int},bU b→Rest (uI b).2.1 b∧(uI b).1.2.1.size≤b.length:=fun {b} hy=>by have a1:=jN hy;have a2:=xS a1.y;have a3:=lq a2.1.y;have n1:=a1.n;exact⟨(a3.trans a2.1).trans a1,acR a2.2 n1⟩
 have uu:∀(f:Nat) (m i:Nat) (vs:List an) (es:List aj) (rest:List Int),i+f=m→m≤255→vs.length=i→Dz vs es→Rest rest B → ∃r,LX G 57 dL Tryz.f57 jv (aE Tryz.prog 57 1) ((B,(((es.length:Nat):Int),(rest,(((m:Nat):Int),(((i:Nat):Int),()))))),((([],([],())),((vs,(es,())),())),()))=some (r,())∧jO r:=by
  intro f
  induction f with
  |zero=>intro m i vs es rest hi hm hv hd hr;exact fin _ _ _ vs es rest hd (decide_eq_false (show ¬((i:Int)<(m:Int)) by omega))
  |succ f ih =>
   intro m i vs es rest hi hm hv hd hr;have hrn:=hr.n;have aG:decide ((i:Int)<(m:Int))=true:=decide_eq_true (by omega);have t1:=RN hG rest (by omega) hr.y;obtain⟨q1,q2⟩:=Gs hr.y;generalize uI rest=th at t1 q1 q2;obtain⟨e,r1,ok,u⟩:=th;have n1:r1.length≤rest.length:=q1.n;have y1:bU r1:=q1.y;have z1:e.2.1.size≤rest.length:=q2
   cases ok with
   |false=>exact⟨_,ak mS (ae aG (aa t1 (ae rfl rfl))),zero⟩
   |true =>
   cases r1 with
   |nil=>exact⟨_,ak mS (ae aG (aa t1 (af rfl (ae rfl rfl)))),zero⟩
   |cons c r2 =>
   have yc:=y1 c (by simp);have n1:r2.length+1≤rest.length:=n1;obtain⟨k0,rfl⟩:∃k:Nat,c=(k:Int):=⟨c.toNat,by omega⟩;have wc:=cW yc;have e3:wI ((1:Int)+wI (k0:Int))=((k0+1:Nat):Int):=by rw[wc];show IntKind.wrap .i64 _=_;rw[wrap_small (by omega) (by omega)];omega
   have hl1:decide ((((((k0:Int)::r2).length:Nat):Int))<1)=false:=decide_eq_false (show ¬(((r2.length+1:Nat):Int)<1) by omega);by_cases hsh:((r2.length+1:Nat):Int)<wI ((1:Int)+wI (k0:Int))
   ·exact⟨_,ak mS (ae aG (aa t1 (af rfl (af hl1 (aa (ai (i:=0) rfl) (ae (decide_eq_true hsh) rfl)))))),zero⟩
   have hk0:k0≤r2.length:=by rw[e3]at hsh;omega
   have inner:∀(T) (g:Nat) (k:Nat) (p:List ag),k+g=k0+1→1≤k→p.length+1=k → ∃r,LX G 57 dL Tryz.f57 o8 (aE Tryz.prog 57 2) ((B,(((es.length:Nat):Int),(((m:Nat):Int),(((i:Nat):Int),((k0:Int)::r2,(((k:Nat):Int),T)))))),((([],([],())),((vs,(es,())),((e.1.1,(e.1.2,(p,(e.2.1,(e.2.2,()))))),()))),()))=some (r,())∧jO r:=by
    intro T g
    induction g with
    |zero =>
     intro k p hk HD hp;have YM:Rest (r2.drop k0) B:=⟨by rw[List.length_drop];omega,bU.drop (fun x hx=>y1 x (by simp[hx])) k0⟩;obtain⟨r,h1,h2⟩:=ih m (i+1) (vs++[(e.1,(p,e.2))]) es (r2.drop k0) (by omega) hm (by simp;omega) ⟨by simp;omega,hd.m,fun v hv=>by
      rcases abY.1 hv with hv|hv
      ·exact hd.v v hv
      ·rw[List.mem_singleton.1 hv];exact⟨by show p.length≤255;omega,by show e.2.1.size≤4000;omega⟩,hd.e⟩ YM
     have ec:cut ((k0:Int)::r2) (wI ((1:Int)+wI (k0:Int))) (lI ((k0:Int)::r2))=r2.drop k0:=by rw[e3];exact cU ((k0:Int)::r2) (k0+1)
     have ei:wI ((i:Int)+1)=((i+1:Nat):Int):=aB (n:=255) (by omega) (by omega);refine⟨r,ak zZ (aa (ai (i:=0) rfl) (af (decide_eq_false (show ¬((k:Int)≤wI (k0:Int)) by rw[wc];omega)) (ae (fits (show vs.length+1≤_ by omega)) (aa (ai (i:=0) rfl) (ae ?_ ?_))))),h2⟩
     ·show aq (r2.length+1) (wI ((1:Int)+wI (k0:Int))) ((r2.length+1:Nat):Int)=true;rw[e3];simp[aq];omega
     ·exact(congr (congrArg (fun(q:List Int) (j:Int)=>LX G 57 dL Tryz.f57 jv (aE Tryz.prog 57 1) ((B,(((es.length:Nat):Int),(q,(((m:Nat):Int),(j,()))))),((([],([],())),((vs++[(e.1,(p,e.2))],(es,())),())),()))) ec) ei).trans h1
    |succ g PL =>
     intro k p hk HD hp;obtain⟨x,hx⟩:∃x,((k0:Int)::r2)[k]? = some x:=⟨_,abf (by simp;omega)⟩;have yx:=y1 x (abC hx);have ew:=cW yx;have em:Int.tmod (wI x) 128=x%128:=by rw[ew,Int.tmod_eq_emod_of_nonneg (by omega)]
     have hle:decide ((k:Int)≤wI (k0:Int))=true:=decide_eq_true (by rw[wc];omega);by_cases Jl:x%128≥((es.length:Nat):Int)
     ·exact⟨_,ak zZ (aa (ai (i:=0) rfl) (ae hle (aa (ai hx) (af rfl (ae (by rw[em];exact decide_eq_true Jl) rfl))))),zero⟩
     ·obtain⟨j,hj⟩:∃j:Nat,x%128=(j:Int):=⟨(x%128).toNat,by omega⟩;have GH:j<es.length:=by omega
      obtain⟨r,h1,h2⟩:=PL (k+1) (p++[(es[j].1,wI (Int.tdiv (wI x) 128))]) (by omega) (by omega) (by simp;omega);refine⟨r,ak zZ (aa (ai (i:=0) rfl) (ae hle (aa (ai hx) (af rfl (af (by rw[em];exact decide_eq_false Jl) (ae ?_ (aa (a:=es[j]) ?_ (aa (ai hx) (af rfl (ae (fits (show p.length+1≤_ by omega)) ?_)))))))))),h2⟩
      ·rw[em,hj];exact dw (decide_eq_true (by omega)) (decide_eq_true (show(j:Int)<((es.length:Nat):Int) by omega))
      ·rw[em,hj,Int.toNat_natCast];exact abf GH
      ·have e1:wI ((k:Int)+1)=((k+1:Nat):Int):=aB (n:=300) (by omega) (by omega);exact(congrArg (fun q:Int=>LX G 57 dL Tryz.f57 o8 (aE Tryz.prog 57 2) ((B,(((es.length:Nat):Int),(((m:Nat):Int),(((i:Nat):Int),((k0:Int)::r2,(q,T)))))),((([],([],())),((vs,(es,())),((e.1.1,(e.1.2,(p++[(es[j].1,wI (Int.tdiv (wI x) 128))],(e.2.1,(e.2.2,()))))),()))),()))) e1).trans h1
   obtain⟨r,h1,h2⟩:=inner _ k0 1 [] (by omega) (by omega) rfl;exact⟨r,ak mS (ae aG (aa t1 (af rfl (af hl1 (aa (ai (i:=0) rfl) (af (decide_eq_false hsh) h1)))))),h2⟩
 have ux:∀(f:Nat) (n i:Nat) (es:List aj) (rest:List Int),i+f=n→n≤255→es.length=i→(∀e∈es,e.2.1.size≤4000)→Rest rest B → ∃r,LX G 57 dL Tryz.f57 ki (aE Tryz.prog 57 0) ((B,(((n:Nat):Int),(rest,(((i:Nat):Int),())))),((([],([],())),(([],(es,())),())),()))=some (r,())∧jO r:=by
  intro f
  induction f with
  |zero =>
   intro n i es rest hi hn v7 he hr;have hrn:=hr.n;have aG:decide ((i:Int)<(n:Int))=false:=decide_eq_false (by omega);have hni:(n:Int)=((es.length:Nat):Int):=by omega
   cases rest with
   |nil=>exact⟨_,ak vP (af aG (ae rfl rfl)),zero⟩
   |cons c r2 =>have yc:=hr.y c (by simp);have hrn:r2.length+1≤B.length:=hrn;obtain⟨k0,rfl⟩:∃k:Nat,c=(k:Int):=⟨c.toNat,by omega⟩;have wc:=cW yc;have ec:cut ((k0:Int)::r2) 1 (lI ((k0:Int)::r2))=r2:=cU ((k0:Int)::r2) 1;obtain⟨r,h1,h2⟩:=uu k0 k0 0 [] es r2 (by omega) (by omega) rfl ⟨ac6 _,by omega,fun v hv=>(by cases hv),he⟩ ⟨by omega,fun x hx=>hr.y x (by simp[hx])⟩;refine⟨r,ak vP (af aG (af (decide_eq_false (show ¬(((r2.length+1:Nat):Int)<1) by omega)) (aa (ai (i:=0) rfl) (ae (show aq (r2.length+1) 1 ((r2.length+1:Nat):Int)=true by simp[aq];omega) ?_)))),h2⟩;rw[hni];exact(congr (congrArg (fun(q:List Int) (j:Int)=>LX G 57 dL Tryz.f57 jv (aE Tryz.prog 57 1) ((B,(((es.length:Nat):Int),(q,(j,((0:Int),()))))),((([],([],())),(([],(es,())),())),()))) ec) wc).trans h1
  |succ f ih =>
   intro n i es rest hi hn v7 he hr;have hrn:=hr.n;have aG:decide ((i:Int)<(n:Int))=true:=decide_eq_true (by omega);have t1:=RN hG rest (by omega) hr.y;obtain⟨q1,q2⟩:=Gs hr.y;generalize uI rest=th at t1 q1 q2;obtain⟨e,r1,ok,u⟩:=th;have z1:e.2.1.size≤rest.length:=q2
   cases ok with
   |false=>exact⟨_,ak vP (ae aG (aa t1 (ae rfl rfl))),zero⟩
   |true =>
    obtain⟨r,h1,h2⟩:=ih n (i+1) (es++[e]) r1 (by omega) hn (by simp;omega) (fun f hf=>by
     rcases abY.1 hf with hf|hf
     ·exact he f hf
     ·rw[List.mem_singleton.1 hf];omega) (Rest.trans q1 hr)
    refine⟨r,ak vP (ae aG (aa t1 (af rfl (ae (fits (show es.length+1≤_ by omega)) ?_)))),h2⟩;have ei:wI ((i:Int)+1)=((i+1:Nat):Int):=aB (n:=255) (by omega) (by omega);exact(congrArg (fun j:Int=>LX G 57 dL Tryz.f57 ki (aE Tryz.prog 57 0) ((B,(((n:Nat):Int),(r1,(j,())))),((([],([],())),(([],(es++[e],())),())),()))) ei).trans h1
 cases B with
 |nil=>exact⟨_,au (hG _ _ rfl) Yb (ae rfl rfl),zero⟩
 |cons c r =>have yc:=yB c (by simp);have hB:r.length+1≤4000:=hB;obtain⟨k0,rfl⟩:∃k:Nat,c=(k:Int):=⟨c.toNat,by omega⟩;have wc:=cW yc;have ec:cut ((k0:Int)::r) 1 (lI ((k0:Int)::r))=r:=cU ((k0:Int)::r) 1;obtain⟨z,h1,h2⟩:=ux k0 k0 0 [] r (by omega) (by omega) rfl (fun e he=>by cases he) ⟨by rw[List.length_cons];omega,fun x hx=>yB x (by simp[hx])⟩;refine⟨z,au (hG _ _ rfl) Yb (af (decide_eq_false (show ¬(((r.length+1:Nat):Int)<1) by omega)) (aa (ai (i:=0) rfl) (ae (show aq (r.length+1) 1 ((r.length+1:Nat):Int)=true by simp[aq];omega) ?_))),h2⟩;exact(congr (congrArg (fun(j:Int) (q:List Int)=>LX G 57 dL Tryz.f57 ki (aE Tryz.prog 57 0) (((k0:Int)::r,(j,(q,((0:Int),())))),((([],([],())),(([],([],())),())),()))) wc) ec).trans h1
end Go.Vs
set_option autoImplicit false
namespace Go.Vs
open Go Go.Proofs
variable {G:(f:FuncId)→(g:aO)→Option (g.A→Option g.B)}
theorem ajw(hG:HG G)(d:ar)(h:Wf d)(hg:cX d=0):FX G 57 dL ((b6 d,()),())=some ((d,((0:Int),())),()):=by
 have ND:=h.nv;have bA:=h.ne;have hB:=ox h;have ht:=PR hG d h hg;generalize hBB:b6 d=B at hB ht;have ren:∀r:List an,bU (r.flatMap (bu (aH d.2 0))):=fun r=>bU.flat (bU.CI _) _;have uu:∀(r vs:List an),vs++r=d.1→(r.flatMap (bu (aH d.2 0))).length≤5000 → LX G 57 dL Tryz.f57 jv (aE Tryz.prog 57 1) ((B,(((d.2.length:Nat):Int),(r.flatMap (bu (aH d.2 0)),(((d.1.length:Nat):Int),(((vs.length:Nat):Int),()))))),((([],([],())),((vs,(d.2,())),())),()))=some ((d,((0:Int),())),()):=by
  intro r
  induction r with
  |nil =>intro vs hv hl;rw[List.append_nil]at hv;subst hv;refine ak mS (af (bW _) (aa ht (af rfl (af ?_ rfl))));show(!(strOf B==strOf B))=false;rw[(MapKept.bytes_beq _ _).2 rfl];rfl
  |cons v r ih =>
   intro vs hv hl;have hm:v∈d.1:=by rw[←hv];simp
   have MK:=h.gv v hm;have KK:=h.mo v hm;have hvl:vs.length<d.1.length:=by rw[←hv];simp
   rw[List.flatMap_cons]at hl;have e0:(v::r).flatMap (bu (aH d.2 0))=bB (v.1,v.2.2)++(w8 ((v.2.1.length:Nat):Int)::(v.2.1.map (gG (aH d.2 0))++r.flatMap (bu (aH d.2 0)))):=by rw[List.flatMap_cons,bu];simp only[List.append_assoc,List.cons_append]
   have yL:bU (v.2.1.map (gG (aH d.2 0))):=fun c hc=>by obtain⟨i,_,rfl⟩:=acE.1 hc;exact Gd _
   have lr:(r.flatMap (bu (aH d.2 0))).length≤5000:=by rw[List.length_append]at hl;omega
   have hLl:(v.2.1.map (gG (aH d.2 0))).length=v.2.1.length:=List.length_map _;have en:w8 ((v.2.1.length:Nat):Int)=((v.2.1.length:Nat):Int):=by rw[gH];omega
   have oC:∀(k:Nat) (x:ag),v.2.1[k]? = some x→(v.2.1.map (gG (aH d.2 0)))[k]? = some (gG (aH d.2 0) x):=fun k x hx=>by rw[List.getElem?_map,hx];rfl
   rw[en]at e0;generalize hL:v.2.1.map (gG (aH d.2 0))=L at e0 yL hLl oC;have yM:bU (((v.2.1.length:Nat):Int)::(L++r.flatMap (bu (aH d.2 0)))):=fun c hc=>by
    rcases abq.1 hc with rfl|hc
    ·omega
    ·exact(yL.app (ren r)) c hc
   generalize hM:((v.2.1.length:Nat):Int)::(L++r.flatMap (bu (aH d.2 0)))=M at e0 yM;have lM:M.length=v.2.1.length+(r.flatMap (bu (aH d.2 0))).length+1:=by rw[←hM,List.length_cons,List.length_append,hLl]
   have t1:=RN hG (bB (v.1,v.2.2)++M) (by have:=gm MK.l;rw[List.length_append,ow];show v.2.2.1.size+13+_≤_;omega) ((bU.I4 _).app yM);rw[Gq MK.th]at t1;have m0:aP M (0:Int)=some ((v.2.1.length:Nat):Int):=by rw[←hM];exact ai (i:=0) rfl
   have wc:wI ((v.2.1.length:Nat):Int)=((v.2.1.length:Nat):Int):=cW (by omega);have e3:wI ((1:Int)+wI ((v.2.1.length:Nat):Int))=((v.2.1.length+1:Nat):Int):=by rw[wc];show IntKind.wrap .i64 _=_;rw[wrap_small (by omega) (by omega)];omega
   have mk:∀(k:Nat) (x:ag),v.2.1[k]? = some x→aP M ((k+1:Nat):Int)=some (gG (aH d.2 0) x):=fun k x hx=>by refine ai ?_;rw[←hM,List.getElem?_cons_succ,List.getElem?_append_left (by rw[hLl];exact(List.getElem?_eq_some_iff.1 hx).1)];exact oC k x hx
   refine(congrArg (fun q:List Int=>LX G 57 dL Tryz.f57 jv (aE Tryz.prog 57 1) ((B,(((d.2.length:Nat):Int),(q,(((d.1.length:Nat):Int),(((vs.length:Nat):Int),()))))),((([],([],())),((vs,(d.2,())),())),()))) e0).trans ?_;have inner:∀(T) (g k:Nat) (p:List ag),k+g=v.2.1.length→p=v.2.1.take k → LX G 57 dL Tryz.f57 o8 (aE Tryz.prog 57 2) ((B,(((d.2.length:Nat):Int),(((d.1.length:Nat):Int),(((vs.length:Nat):Int),(M,(((k+1:Nat):Int),T)))))),((([],([],())),((vs,(d.2,())),((v.1.1,(v.1.2,(p,(v.2.2.1,(v.2.2.2,()))))),()))),()))=some ((d,((0:Int),())),()):=by
    intro T g
    induction g with
    |zero =>
     intro k p hk hp;have hp:p=v.2.1:=by rw[hp,List.take_of_length_le (by omega)]
     subst hp;have ec:cut M (wI ((1:Int)+wI ((v.2.1.length:Nat):Int))) (lI M)=r.flatMap (bu (aH d.2 0)):=by rw[e3];refine(cU M (v.2.1.length+1)).trans ?_;rw[←hM,List.drop_succ_cons,←hLl,List.drop_left]
     have ei:wI (((vs.length:Nat):Int)+1)=((vs.length+1:Nat):Int):=aB hvl (by omega);refine ak zZ (aa m0 (af (decide_eq_false (show ¬(((k+1:Nat):Int)≤wI ((v.2.1.length:Nat):Int)) by rw[wc];omega)) (ae (fits (show vs.length+1≤_ by omega)) (aa m0 (ae ?_ ?_)))))
     ·show aq M.length (wI ((1:Int)+wI ((v.2.1.length:Nat):Int))) ((M.length:Nat):Int)=true;rw[e3,lM];simp[aq];omega
     ·have go:=ih (vs++[v]) (by rw[List.append_assoc];exact hv) lr;rw[show(vs++[v]).length=vs.length+1 by simp]at go;exact(congr (congrArg (fun(q:List Int) (j:Int)=>LX G 57 dL Tryz.f57 jv (aE Tryz.prog 57 1) ((B,(((d.2.length:Nat):Int),(q,(((d.1.length:Nat):Int),(j,()))))),((([],([],())),((vs++[v],(d.2,())),())),()))) ec) ei).trans go
    |succ g PL =>
     intro k p hk hp;have v5:k<v.2.1.length:=by omega
     have hx:v.2.1[k]? = some v.2.1[k]:=abf v5;have hxm:=mk k _ hx;obtain⟨j,YZ,hj2,_,GH,XQ⟩:=z7 bA (h.pd.mem_iff.1 (aS.2 ⟨v,hm,acG v5⟩));rw[YZ]at hxm;have ew:wI ((j:Int)+128*v.2.1[k].2)=(j:Int)+128*v.2.1[k].2:=wrap_small (by omega) (by omega);have em:Int.tmod (wI ((j:Int)+128*v.2.1[k].2)) 128=(j:Int):=by rw[ew,Int.tmod_eq_emod_of_nonneg (by omega)];omega
     have ed:wI (Int.tdiv (wI ((j:Int)+128*v.2.1[k].2)) 128)=v.2.1[k].2:=by rw[ew,Int.tdiv_eq_ediv_of_nonneg (by omega)];refine(wrap_small (by omega) (by omega)).trans ?_;omega
     have ex:((d.2[j].1,wI (Int.tdiv (wI ((j:Int)+128*v.2.1[k].2)) 128)):ag)=v.2.1[k]:=Prod.ext XQ ed;have N0:p.length≤80:=by rw[hp,List.length_take];omega
     have e1:wI (((k+1:Nat):Int)+1)=((k+1+1:Nat):Int):=aB (n:=300) (by omega) (by omega);refine ak zZ (aa m0 (ae (decide_eq_true (show(((k+1:Nat):Int)≤wI ((v.2.1.length:Nat):Int)) by rw[wc];omega)) (aa hxm (af rfl (af ?_ (ae ?_ (aa (a:=d.2[j]) ?_ (aa hxm (af rfl (ae (fits (show p.length+1≤_ by omega)) ?_))))))))))
     ·rw[em];exact decide_eq_false (show ¬((j:Int)≥((d.2.length:Nat):Int)) by omega)
     ·rw[em];exact dw (decide_eq_true (by omega)) (decide_eq_true (show(j:Int)<((d.2.length:Nat):Int) by omega))
     ·rw[em,Int.toNat_natCast];exact abf GH
     ·exact(congr (congrArg (fun(i:Int) (y:ag)=>LX G 57 dL Tryz.f57 o8 (aE Tryz.prog 57 2) ((B,(((d.2.length:Nat):Int),(((d.1.length:Nat):Int),(((vs.length:Nat):Int),(M,(i,T)))))),((([],([],())),((vs,(d.2,())),((v.1.1,(v.1.2,(p++[y],(v.2.2.1,(v.2.2.2,()))))),()))),()))) e1) ex).trans (PL (k+1) (p++[v.2.1[k]]) (by omega) (by rw[hp,List.take_succ_eq_append_getElem v5]))
   exact ak mS (ae (aJ hvl) (aa t1 (af rfl (af (decide_eq_false (show ¬(((M.length:Nat):Int)<1) by omega)) (aa m0 (af (decide_eq_false (show ¬(((M.length:Nat):Int)<wI ((1:Int)+wI ((v.2.1.length:Nat):Int))) by rw[e3,lM];omega)) (inner _ v.2.1.length 0 [] (by omega) rfl)))))))
 have env:w8 ((d.1.length:Nat):Int)=((d.1.length:Nat):Int):=by rw[gH];omega
 have ene:w8 ((d.2.length:Nat):Int)=((d.2.length:Nat):Int):=by rw[gH];omega
 have wnv:wI ((d.1.length:Nat):Int)=((d.1.length:Nat):Int):=cW (by omega);have wne:wI ((d.2.length:Nat):Int)=((d.2.length:Nat):Int):=cW (by omega);have yt:bU (((d.1.length:Nat):Int)::d.1.flatMap (bu (aH d.2 0))):=by rw[←env];exact(ren d.1).cons
 have ux:∀(r es:List aj),es++r=d.2→(r.flatMap bB++(((d.1.length:Nat):Int)::d.1.flatMap (bu (aH d.2 0)))).length≤5000 → LX G 57 dL Tryz.f57 ki (aE Tryz.prog 57 0) ((B,(((d.2.length:Nat):Int),(r.flatMap bB++(((d.1.length:Nat):Int)::d.1.flatMap (bu (aH d.2 0))),(((es.length:Nat):Int),())))),((([],([],())),(([],(es,())),())),()))=some ((d,((0:Int),())),()):=by
  intro r
  induction r with
  |nil =>intro es v7 hl;rw[List.append_nil]at v7;subst v7;have hl:(d.1.flatMap (bu (aH d.2 0))).length+1≤5000:=hl;have ec:cut (((d.1.length:Nat):Int)::d.1.flatMap (bu (aH d.2 0))) 1 (lI (((d.1.length:Nat):Int)::d.1.flatMap (bu (aH d.2 0))))=d.1.flatMap (bu (aH d.2 0)):=cU (((d.1.length:Nat):Int)::d.1.flatMap (bu (aH d.2 0))) 1;refine ak vP (af (bW _) (af (decide_eq_false (show ¬((((d.1.flatMap (bu (aH d.2 0))).length+1:Nat):Int)<1) by omega)) (aa (ai (i:=0) rfl) (ae (show aq ((d.1.flatMap (bu (aH d.2 0))).length+1) 1 (((d.1.flatMap (bu (aH d.2 0))).length+1:Nat):Int)=true by simp[aq];omega) ?_))));exact(congr (congrArg (fun(q:List Int) (j:Int)=>LX G 57 dL Tryz.f57 jv (aE Tryz.prog 57 1) ((B,(((d.2.length:Nat):Int),(q,(j,((0:Int),()))))),((([],([],())),(([],(d.2,())),())),()))) ec) wnv).trans (uu d.1 [] rfl (by omega))
  |cons e r ih =>
   intro es v7 hl;have hm:e∈d.2:=by rw[←v7];simp
   have uX:es.length<d.2.length:=by rw[←v7];simp
   have e0:(e::r).flatMap bB++(((d.1.length:Nat):Int)::d.1.flatMap (bu (aH d.2 0)))=bB e++(r.flatMap bB++(((d.1.length:Nat):Int)::d.1.flatMap (bu (aH d.2 0)))):=by rw[List.flatMap_cons,List.append_assoc]
   rw[e0]at hl;have tL:(r.flatMap bB++(((d.1.length:Nat):Int)::d.1.flatMap (bu (aH d.2 0)))).length≤5000:=by rw[List.length_append]at hl;omega
   have t1:=RN hG (bB e++(r.flatMap bB++(((d.1.length:Nat):Int)::d.1.flatMap (bu (aH d.2 0))))) (by omega) ((bU.I4 _).app ((bU.flat bU.I4 _).app yt));rw[Gq (h.ge e hm).th]at t1;refine(congrArg (fun q:List Int=>LX G 57 dL Tryz.f57 ki (aE Tryz.prog 57 0) ((B,(((d.2.length:Nat):Int),(q,(((es.length:Nat):Int),())))),((([],([],())),(([],(es,())),())),()))) e0).trans ?_;refine ak vP (ae (aJ uX) (aa t1 (af rfl (ae (fits (show es.length+1≤_ by omega)) ?_))));have go:=ih (es++[e]) (by rw[List.append_assoc];exact v7) tL;rw[show(es++[e]).length=es.length+1 by simp]at go;have ei:wI (((es.length:Nat):Int)+1)=((es.length+1:Nat):Int):=aB uX (by omega);exact(congrArg (fun j:Int=>LX G 57 dL Tryz.f57 ki (aE Tryz.prog 57 0) ((B,(((d.2.length:Nat):Int),(r.flatMap bB++(((d.1.length:Nat):Int)::d.1.flatMap (bu (aH d.2 0))),(j,())))),((([],([],())),(([],(es++[e],())),())),()))) ei).trans go
 have hB2:B=((d.2.length:Nat):Int)::(d.2.flatMap bB++(((d.1.length:Nat):Int)::d.1.flatMap (bu (aH d.2 0)))):=by rw[←hBB];unfold b6;rw[ene,env]
 have hlB:B.length=(d.2.flatMap bB++(((d.1.length:Nat):Int)::d.1.flatMap (bu (aH d.2 0)))).length+1:=by rw[hB2,List.length_cons]
 have m0:aP B (0:Int)=some ((d.2.length:Nat):Int):=by rw[hB2];exact ai (i:=0) rfl
 have ec:cut B 1 (lI B)=d.2.flatMap bB++(((d.1.length:Nat):Int)::d.1.flatMap (bu (aH d.2 0))):=by refine(cU B 1).trans ?_;rw[hB2];rfl
 refine au (hG _ _ rfl) Yb (af (decide_eq_false (show ¬(((B.length:Nat):Int)<1) by omega)) (aa m0 (ae (show aq B.length 1 ((B.length:Nat):Int)=true by simp[aq];omega) ?_)));exact(congr (congrArg (fun(j:Int) (q:List Int)=>LX G 57 dL Tryz.f57 ki (aE Tryz.prog 57 0) ((B,(j,(q,((0:Int),())))),((([],([],())),(([],([],())),())),()))) wne) ec).trans (ux d.2 [] rfl (by omega))
end Go.Vs
set_option autoImplicit false
namespace Go.Vs
open Go Go.Proofs
variable {G:(f:FuncId)→(g:aO)→Option (g.A→Option g.B)}
theorem wa.z{n:Int}{s:StateT}(h:wa n s):Sz s:=Yy (es:=s.2) h.d (by have:=h.g.n;omega) fun g hg=>by obtain⟨k1,k2⟩:=h.g.k g hg;have a:=(cK (.inr k1)).2;have b:=(cK k2).2;exact⟨jZ (by omega),jZ (by omega)⟩
theorem ajx(hG:HG G)(n:Int)(s:StateT)(hs:wa n s):FX G 25 oX ((fz n s,()),())=some ((n,(s,((0:Int),()))),()):=by
 have h:=hs.w;have hk:=hs.g.k;have hn0:=hs.n0;have hn1:=hs.n1;have hd:=ox h.d;have hgn:=h.n;have TZ:=I7 (n:=n) h;have ajy:=acs hG n s hs.z hs;have yF:bU (s.2.flatMap bc):=bU.flat bU.bc _;have y3:bU (b6 s.1++s.2.flatMap bc):=(bU.b6 _).app yF;have y2:bU (dr (((b6 s.1).length:Nat):Int)++(b6 s.1++s.2.flatMap bc)):=(bU.dr _).app y3;have lf:=qX bc 10 s.2 fun e _=>qY e;have l3:(b6 s.1++s.2.flatMap bc).length=(b6 s.1).length+(s.2.flatMap bc).length:=List.length_append;have t1:=NA hG (fz n s) (by omega) (bU.snap n s);rw[show takeN (fz n s)=_ from nm (by omega) _]at t1;have t2:=NA hG (dr (((b6 s.1).length:Nat):Int)++(b6 s.1++s.2.flatMap bc)) (by rw[List.length_append,cT];omega) y2;rw[nm (by omega)]at t2;have c1:cut (b6 s.1++s.2.flatMap bc) 0 (((b6 s.1).length:Nat):Int)=b6 s.1:=XX _ _;have c2:cut (b6 s.1++s.2.flatMap bc) (((b6 s.1).length:Nat):Int) (lI (b6 s.1++s.2.flatMap bc))=s.2.flatMap bc:=XY _ _;have t3:=(congrArg (fun q:List Int=>FX G 57 dL ((q,()),())) c1).trans (ajw hG s.1 h.d hs.p);refine au (hG _ _ rfl) aci (aa t1 (aa t2 (af rfl (af (decide_eq_false (show ¬((((b6 s.1).length:Nat):Int)<0) by omega)) (af (decide_eq_false (show ¬((((b6 s.1).length:Nat):Int)>(((b6 s.1++s.2.flatMap bc).length:Nat):Int)) by omega)) (ae (show aq (b6 s.1++s.2.flatMap bc).length 0 (((b6 s.1).length:Nat):Int)=true by rw[l3];simp[aq]<;>omega) (aa t3 (af rfl (ae (show aq (b6 s.1++s.2.flatMap bc).length (((b6 s.1).length:Nat):Int) (((b6 s.1++s.2.flatMap bc).length:Nat):Int)=true by rw[l3];simp[aq]<;>omega) ?_)))))))));generalize hBB:fz n s=B at ajy;have loop:∀(r es:List aC),es++r=s.2→(r.flatMap bc).length≤5000→LX G 25 oX Tryz.f25 mI (aE Tryz.prog 25 0) ((B,(n,(r.flatMap bc,()))),((OW,((s.1.1,(s.1.2,(es,()))),())),()))=some ((n,(s,((0:Int),()))),()):=by
  intro r
  induction r with
  |nil =>intro es v7 hl;rw[List.append_nil]at v7;subst v7;refine ak Dp (af rfl (aa ajy (af rfl (af ?_ rfl))));show(!(strOf B==strOf B))=false;rw[(MapKept.bytes_beq _ _).2 rfl];rfl
  |cons g r ih =>
   intro es v7 hl;obtain⟨k1,k2⟩:=hk g (by rw[←v7];simp);have uX:es.length+(r.length+1)≤400:=by have:=congrArg List.length v7;rw[List.length_append]at this;simp at this;omega
   have e0:(g::r).flatMap bc=bc g++r.flatMap bc:=List.flatMap_cons;have tL:(r.flatMap bc).length≤5000:=by rw[e0,List.length_append]at hl;omega
   have hp1:=Bz g;refine(congrArg (fun q:List Int=>LX G 25 oX Tryz.f25 mI (aE Tryz.prog 25 0) ((B,(n,(q,()))),((OW,((s.1.1,(s.1.2,(es,()))),())),()))) e0).trans ?_;refine ak Dp (ae (decide_eq_true (show(((bc g++r.flatMap bc).length:Nat):Int)>0 by rw[List.length_append];omega)) (ae (decide_eq_true (show((es.length:Nat):Int)≤400 by omega)) (aa (ajv hG g (r.flatMap bc) (by omega) (bU.flat bU.bc _) k1 k2) (af rfl (ae (fits (show es.length+1≤_ by omega)) ?_)))));exact ih (es++[g]) (by rw[List.append_assoc];exact v7) tL
 exact(congrArg (fun q:List Int=>LX G 25 oX Tryz.f25 mI (aE Tryz.prog 25 0) ((B,(n,(q,()))),((OW,((s.1.1,(s.1.2,([],()))),())),()))) c2).trans (loop s.2 [] rfl (by omega))
theorem YA(hG:HG G)(B:List Int)(hB:B.length≤4000)(yB:bU B):∃r,FX G 25 oX ((B,()),())=some (r,())∧TkS B r:=by
 by_cases h:∃n s,wa n s∧fz n s=B
 ·obtain⟨n,s,hs,rfl⟩:=h;exact⟨_,ajx hG n s hs,.inl ⟨n,s,hs,rfl,rfl⟩⟩
 have ta:∀n s,wa n s→fz n s≠B:=fun n s h1 h2=>h ⟨n,s,h1,h2⟩;refine⟨((0:Int),(zS,((2:Int),()))),?_,.inr ⟨ta,rfl⟩⟩;have a1:=lq yB;have t1:=NA hG B (by omega) yB;generalize takeN B=y at t1 a1;obtain⟨n,r1,XD,u1⟩:=y;have n1:r1.length≤B.length:=a1.n;have a2:=lq a1.y;have t2:=NA hG r1 (by omega) a1.y;generalize takeN r1=y at t2 a2;obtain⟨m,r2,ok,u2⟩:=y;have n2:r2.length≤r1.length:=a2.n;have y2:bU r2:=a2.y;refine au (hG _ _ rfl) aci (aa t1 (aa t2 ?_))
 cases ok with
 |false=>exact ae rfl rfl
 |true =>
 refine af rfl ?_;by_cases Un:m<0
 ·exact ae (decide_eq_true Un) rfl
 refine af (decide_eq_false Un) ?_;by_cases hm1:m>((r2.length:Nat):Int)
 ·exact ae (decide_eq_true hm1) rfl
 refine af (decide_eq_false hm1) ?_;obtain⟨k,rfl⟩:∃k:Nat,m=(k:Int):=⟨m.toNat,by omega⟩;have c1:=Ad r2 k;have c2:cut r2 (k:Int) (lI r2)=r2.drop k:=cU r2 k;obtain⟨⟨d,e,u⟩,t3,hd⟩:∃r:ar×(Int×Unit),FX G 57 dL ((r2.take k,()),())=some (r,())∧jO r:=aey hG (r2.take k) (by rw[List.length_take];omega) (y2.take k);have t3:=(congrArg (fun q:List Int=>FX G 57 dL ((q,()),())) c1).trans t3;refine ae (show aq r2.length 0 (k:Int)=true by simp[aq];omega) (aa t3 ?_);by_cases h0:e=0
 rotate_left
 ·exact ae (show(e != 0)=true by rw[bne_iff_ne];exact h0) rfl
 obtain⟨w,_⟩:=hd h0;refine af (show(e != 0)=false by rw[h0];rfl) (ae (show aq r2.length (k:Int) ((r2.length:Nat):Int)=true by simp[aq];omega) ?_);have fin:∀(es:List aC),es.length≤402→(∀g∈es,oq g.1.2∧oq g.2.2) →((FX G 23 nW ((n,((d,es),())),())).bind fun(y5:(List Int×(Int×Unit))×Unit)=>cond (y5.1.2.1 != 0) (some (((0:Int),(zS,((2:Int),()))),())) (cond (!(strOf y5.1.1==strOf B)) (some (((0:Int),(zS,((2:Int),()))),())) (some ((n,((d,es),((0:Int),()))),()))))=some (((0:Int),(zS,((2:Int),()))),()):=by
  intro es hl hi;refine aa (Yt hG n (d,es) (Yy w (by omega) hi)) ?_;by_cases hc:(BA n (d,es)).2.1=0
  ·have hs:=RM.1 hc;rw[sH hs];refine af rfl (ae ?_ rfl);show(!(strOf (fz n (d,es))==strOf B))=true;rw[I3 (bU.snap n (d,es)) yB,decide_eq_false (ta n (d,es) hs)];rfl
  ·exact ae (show((BA n (d,es)).2.1 != 0)=true by rw[bne_iff_ne];exact hc) rfl
 have loop:∀(f:Nat) (rest:List Int) (es:List aC),es.length+f=402→Rest rest B→(∀g∈es,oq g.1.2∧oq g.2.2) → LX G 25 oX Tryz.f25 mI (aE Tryz.prog 25 0) ((B,(n,(rest,()))),((OW,((d.1,(d.2,(es,()))),())),()))=some (((0:Int),(zS,((2:Int),()))),()):=by
  intro f
  induction f with
  |zero =>
   intro rest es hf hr hi;refine ak Dp ?_;by_cases hl:decide (((rest.length:Nat):Int)>0)=true
   ·exact ae hl (af (decide_eq_false (show ¬(((es.length:Nat):Int)≤400) by omega)) (fin es (by omega) hi))
   ·exact af (ac5.2 hl) (fin es (by omega) hi)
  |succ f ih =>
   intro rest es hf hr hi;have hrn:=hr.n;refine ak Dp ?_;by_cases hl:decide (((rest.length:Nat):Int)>0)=true
   ·refine ae hl ?_;by_cases h4:decide (((es.length:Nat):Int)≤400)=true
    ·refine ae h4 ?_;obtain⟨g,r,ok,t,q,g1,g2⟩:=aex hG rest (by omega) hr.y;refine aa t ?_
     cases ok with
     |false=>exact ae rfl rfl
     |true =>
      refine af rfl (ae (fits (show es.length+1≤_ by omega)) (ih r (es++[g]) (by simp;omega) (q.trans hr) fun x hx=>?_));rcases abY.1 hx with hx|hx
      ·exact hi x hx
      ·rw[List.mem_singleton.1 hx];exact⟨g1,g2⟩
    ·exact af (ac5.2 h4) (fin es (by omega) hi)
   ·exact af (ac5.2 hl) (fin es (by omega) hi)
 have hr0:Rest (r2.drop k) B:=⟨by rw[List.length_drop];omega,y2.drop k⟩;exact(congrArg (fun q:List Int=>LX G 25 oX Tryz.f25 mI (aE Tryz.prog 25 0) ((B,(n,(q,()))),((OW,((d.1,(d.2,([],()))),())),()))) c2).trans (loop 402 (r2.drop k) [] rfl hr0 (fun g hg=>by cases hg))
end Go.Vs
