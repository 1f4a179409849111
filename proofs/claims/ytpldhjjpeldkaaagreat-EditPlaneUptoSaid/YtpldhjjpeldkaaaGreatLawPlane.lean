/- EditPlane answers true, of data. -/
import Derived.Test.YtpldhjjpeldkaaaGreatPartsB
import Derived.Test.YtpldhjjpeldkaaaGreatFormed
import Derived.Test.YtpldhjjpeldkaaaGreatTop
import Derived.Test.YtpldhjjpeldkaaaGreatForm
import Derived.Test.YtpldhjjpeldkaaaGreatPlane
set_option linter.unusedVariables false
set_option maxRecDepth 1000000
set_option maxHeartbeats 0
namespace Go.Vs
open Go.Proofs
def Q2:aL:={ ps:=[],bs:=[],rs:=[] }
def Ur(f:FuncId):Option aL:=if (f==900026)=true then some Q2 else Sg f
noncomputable def abg(f:FuncId)(g:aL)(fn:Func)(F:FT)(J:JT g)(x:g.A):Option g.B:=ax Tryz.prog Eqs Ur F fn.ntmps (An f) J (nh Tryz.prog g fn) fuel [.code (fn.body.getD .skip)] (entry g x)
noncomputable def WO(f j:Nat)(g:aL)(fn:Func)(sh:Shape)(F:FT)(J:JT g)(x:sh.T):Option g.B:=ax Tryz.prog Eqs Ur F fn.ntmps (An f) J (nh Tryz.prog g fn) fuel (round (aX Tryz.prog (f % 1000) j)) (ar sh x)
theorem abh(F:FT)(J:JT lT)(x:(((List (List bW))×Unit)×Unit)):abg 10 lT Tryz.f10 F J x =
 (F 12 Oy ((),())).bind fun (y1:((Bool×Unit)×Unit)) =>
 (F 33 I2 ((),())).bind fun (y2:((StateT×Unit)×Unit)) =>
 J vS (aX Tryz.prog 10 0) ((x.1.1,(y1.1.1,((0:Int),()))),((((y2.1.1.1,y2.1.1.2),()),()),())):=by kernel_rfl
theorem Ll(F:FT)(J:JT lT)(x:(((List (List bW))×(Bool×(Int×Unit)))×(((StateT×Unit)×Unit)×Unit))):WO 10 0 lT Tryz.f10 vS F J x =
  cond (decide (x.1.2.2.1<(((List.length x.1.1):Nat):Int)))
   (cond (decide (x.1.2.2.1<(40:Int)))
    ((F 38 Co ((x.2.1.1.1.1,()),())).bind fun (y3:((((List aj)×((List au)×Unit))×Unit)×Unit)) =>
    cond (((not (List.isEmpty x.2.1.1.1.2)) || true)&&(bq (List.length ([]:List aM)) (List.length x.2.1.1.1.2)))
     (((bh x.1.1 x.1.2.2.1)).bind fun (y4:(List bW)) =>
     (F 34 Ew ((y4,()),())).bind fun (y5:(((List bW)×Unit)×Unit)) =>
     (F 30 Gk (((x.2.1.1.1.1,x.2.1.1.1.2),y5.1),())).bind fun (y6:((StateT×(Int×Unit))×Unit)) =>
     ((bh x.1.1 x.1.2.2.1)).bind fun (y7:(List bW)) =>
     (F 34 Ew ((y7,()),())).bind fun (y8:(((List bW)×Unit)×Unit)) =>
     (F 36 Oz (((x.2.1.1.1.1,x.2.1.1.1.2),y8.1),())).bind fun (y9:((StateT×Unit)×Unit)) =>
     (F 16 I0 (((x.2.1.1.1.1,x.2.1.1.1.2),(((y3.1.1.1,y3.1.1.2.1),(([]:List aM)++x.2.1.1.1.2)),())),())).bind fun (pQ:((Bool×Unit)×Unit)) =>
     cond (y6.1.2.1 != (0:Int))
      ((F 16 I0 (((y9.1.1.1,y9.1.1.2),((x.2.1.1.1.1,x.2.1.1.1.2),())),())).bind fun (mn:((Bool×Unit)×Unit)) =>
      (F 39 vQ ((y9.1.1.2,()),())).bind fun (pz:((Bool×Unit)×Unit)) =>
      cond (not pQ.1.1)
       (some ((false,()),()))
       (cond (not mn.1.1)
        (some ((false,()),()))
        (cond (not pz.1.1)
         (some ((false,()),()))
         ((F 40 yg ((y9.1.1.1,()),())).bind fun (lA:((Int×Unit)×Unit)) =>
         cond (lA.1.1 != (0:Int))
          (some ((false,()),()))
          (J vS (aX Tryz.prog 10 0) ((x.1.1,(x.1.2.1,((IntKind.wrap .i64 (x.1.2.2.1+(1:Int))),()))),((((y9.1.1.1,y9.1.1.2),()),()),())))))))
      ((F 16 I0 (((y9.1.1.1,y9.1.1.2),((y6.1.1.1,y6.1.1.2),())),())).bind fun (Dd:((Bool×Unit)×Unit)) =>
      (F 39 vQ ((y9.1.1.2,()),())).bind fun (uJ:((Bool×Unit)×Unit)) =>
      cond (not pQ.1.1)
       (some ((false,()),()))
       (cond (not Dd.1.1)
        (some ((false,()),()))
        (cond (not uJ.1.1)
         (some ((false,()),()))
         ((F 40 yg ((y9.1.1.1,()),())).bind fun (TT:((Int×Unit)×Unit)) =>
         cond (TT.1.1 != (0:Int))
          (some ((false,()),()))
          (J vS (aX Tryz.prog 10 0) ((x.1.1,(x.1.2.1,((IntKind.wrap .i64 (x.1.2.2.1+(1:Int))),()))),((((y9.1.1.1,y9.1.1.2),()),()),()))))))))
     (none))
    (some ((x.1.2.1,()),())))
   (some ((x.1.2.1,()),())):=by kernel_rfl
noncomputable def GM:(f:FuncId)→(g:aL)→Option (g.A→Option g.B):=fun f g=>if (f==10 || f==900026)=true then none else some (FX GP f g)
noncomputable abbrev FM:FT:=Fix Tryz.prog Eqs Ur An GM
noncomputable abbrev LM(f:FuncId)(g:aL)(fn:Func):JT g:=Lp Tryz.prog Eqs Ur An GM f g fn
theorem jn{f:FuncId}{g:aL}{x:g.A}{y:g.B}(hf:(f==10 || f==900026)=false)(h:FX GP f g x=some y):FM f g x=some y:=by
 have hg:GM f g=some (FX GP f g):=by
  unfold GM
  rw [if_neg (by rw [hf];simp)]
 exact vP hg h
theorem abi{x:lT.A}{y:lT.B}(h:abg 10 lT Tryz.f10 FM (LM 10 lT Tryz.f10) x=some y):FM 10 lT x=some y :=
 Es (fn:=Tryz.f10) rfl (by kernel_rfl) (by kernel_rfl) h
theorem Us{j:Nat}{sh:Shape}{x:sh.T}{y:lT.B}(hs:(match aX Tryz.prog (10 % 1000) j with | .inLoop _::_=>true | _=>false)=true)
  (h:WO 10 j lT Tryz.f10 sh FM (LM 10 lT Tryz.f10) x=some y):LM 10 lT Tryz.f10 sh (aX Tryz.prog (10 % 1000) j) x=some y:=by
 unfold WO at h
 generalize aX Tryz.prog (10 % 1000) j=s at hs h ⊢
 split at hs
 ·exact IZ h
 ·cases hs
theorem WQ{x:lT.A}{y:lT.B}(h:FM 10 lT x=some y):Cg Tryz.prog 10 lT x y:=by
 refine um (Sg:=Ur) (fun f g u hs hu => ?_) wj (fun f g hs => ?_) nG (fun f g u x y hs hu hy => ?_) (by kernel_rfl) h
 ·unfold Ur at hs
  split at hs
  ·cases hs;cases hu
  ·exact KE f g u hs hu
 ·unfold Ur at hs
  split at hs
  ·rename_i e
   have e:f=900026:=by simpa using e
   subst e
   cases hs
   have hc:EO [(900026,Q2)]=true:=by kernel_rfl
   exact uL hc (g:=Q2) (by simp)
  ·exact jc f g hs
 ·unfold GM at hu
  split at hu
  ·cases hu
  ·rename_i hf
   cases hu
   unfold Ur at hs
   split at hs
   ·rename_i e
    exact absurd (by rw [e];simp) hf
   ·exact WI hs hy
end Go.Vs
set_option linter.unusedSimpArgs false
namespace Go.Vs
open Go.Proofs
variable {G:(f:FuncId)→(g:aL)→Option (g.A→Option g.B)}
theorem J5{n:Int}(h:KF (.int .i64) n):PR n:=by
 have h1:IntKind.min .i64 = -9223372036854775808:=by decide
 have h2:IntKind.max .i64=9223372036854775807:=by decide
 have h:IntKind.min .i64≤n∧n≤IntKind.max .i64:=h
 rw [h1,h2] at h
 unfold PR;omega
theorem WR{o:bW}(h:KF rM o)(ht:EU o):Fit o:=by
 obtain ⟨_,_,_,_,⟨_,_,h1⟩,⟨_,_,h2⟩,_,_,h3⟩:=h
 exact ⟨J5 h1,J5 h2,J5 h3,ht⟩
theorem Ts{l:List (List bW)}(hw:KF (.sl tg) l)(ht:∀e∈l,∀o∈e,EU o):∀e∈l,∀o∈e,Fit o:=fun e he o ho=>WR (hw e he o ho) (ht e he o ho)
theorem agE(hG:HG G):FX G 33 I2 ((),())=some ((zS,()),()):=aC (fn:=Tryz.f33) (hG _ _ rfl) (by kernel_rfl) (by kernel_rfl) (Ym _ _ _)
end Go.Vs
namespace Go.Vs
open Go.Proofs
theorem HU{b:ByteArray}(h:oQ b=true):b.size≤100000000:=by have:=MJ h;omega
theorem abj{l:List aM}(h:fX l)(hn:l.length≤400):FX GP 39 vQ ((l,()),())=some ((true,()),()):=by
 obtain ⟨b,h1,h2⟩:=agv M1 l (by omega)
 rw [h2.2 ⟨h,hn⟩] at h1;exact h1
theorem abk{d:ai}(h:Wf d)(hg:bS d=0):FX GP 40 yg ((d,()),())=some (((0:Int),()),()):=by
 obtain ⟨r,h1,h2⟩:=agA M1 d h.sm (fun v hv=>HU (h.gv v hv).l) (fun e he=>HU (h.ge e he).l)
 rw [h2.2 ⟨h,hg⟩] at h1;exact h1
theorem WS(l:List (List bW))(hl:l.length≤1073741824)(hf:∀e∈l,∀o∈e,Fit o):FM 10 lT ((l,()),())=some ((true,()),()):=by
 refine abi ((abh _ _ _).trans ?_)
 refine aa (jn rfl (aeW M1)) ?_
 refine aa (jn rfl (agE M1)) ?_
 have loop:∀(n i:Nat) (s:StateT),i+n=l.length→i≤40→gy s→bS s.1=0→LM 10 lT Tryz.f10 vS (aX Tryz.prog 10 0) ((l,(true,((i:Int),()))),(((s,()),()),()))=some ((true,()),()):=by
  intro n
  induction n with
  | zero =>
   intro i s hi V7 hw hg
   exact Us (j:=0) (by kernel_rfl) ((Ll _ _ _).trans (ag (decide_eq_false (show ¬((i:Int)<((l.length:Nat):Int)) by omega)) rfl))
  | succ n ih =>
   intro i s hi V7 hw hg
   refine Us (j:=0) (by kernel_rfl) ((Ll _ _ _).trans ?_)
   have aE:i<l.length:=by omega
   refine af (ba aE) ?_
   by_cases hi4:i<40
   case neg=>exact ag (decide_eq_false (show ¬((i:Int)<40) by omega)) rfl
   refine af (decide_eq_true (show ((i:Int)<40) by omega)) ?_
   have hx:l[i]? = some l[i]:=List.getElem?_eq_getElem aE
   have hm:=List.getElem_mem aE
   have hlen:(l[i].take 8).length≤8:=by simp;omega
   have hfk:∀o∈l[i].take 8,Fit o:=fun o ho=>hf l[i] hm o (List.mem_of_mem_take ho)
   have hsn:=hw.n
   have Xf:=hw.d.sm
   have h34:FM 34 Ew ((l[i],()),())=some ((l[i].take 8,()),()):=jn rfl (aeT (M1 34 Ew rfl) l[i])
   refine aa (jn rfl (aeI (M1 38 Co rfl) s.1 (by have:=Xf.v;omega) (by have:=Xf.e;omega) (fun v hv=>by have:=Xf.r v hv;omega))) ?_
   refine af (dM (by simp) (fits (show 0+s.2.length≤1073741824 by omega))) ?_
   refine aa (aD hx) (aa h34 ?_)
   refine aa (jn rfl (ZZ M1 s (l[i].take 8) hw (by omega) hfk fun o _=>Uq o)) ?_
   refine aa (aD hx) (aa h34 ?_)
   refine aa (jn rfl (afl M1 s (l[i].take 8) hw (by omega) hfk fun o _=>Uq o)) ?_
   refine aa (jn rfl (VI M1 s ((s.1.1,s.1.2),[]++s.2) Xf (by omega))) ?_
   have Ut:decide (s=((s.1.1,s.1.2),[]++s.2))=true:=decide_eq_true rfl
   have Nk:=hw.try (l[i].take 8)
   have El:=Q1 hw hg (l[i].take 8)
   have hnt:=Nk.n
   have next:=ih (i+1) (mS s (l[i].take 8)) (by omega) (by omega) Nk El
   rw [←aO aE hl] at next
   have f39:FM 39 vQ (((mS s (l[i].take 8)).2,()),())=some ((true,()),()):=jn rfl (abj Nk.g Nk.n)
   have f40:FM 40 yg (((mS s (l[i].take 8)).1,()),())=some (((0:Int),()),()):=jn rfl (abk Nk.d El)
   by_cases hc:(fC s (l[i].take 8)).2.1=0
   ·have e2:mS s (l[i].take 8)=(fC s (l[i].take 8)).1:=by unfold mS;rw [if_neg (by simp [hc])]
    refine ag (show ((fC s (l[i].take 8)).2.1 != 0)=false by simp [hc]) ?_
    refine aa (jn rfl (VI M1 (mS s (l[i].take 8)) (fC s (l[i].take 8)).1 Nk.d.sm (by omega))) ?_
    refine aa f39 ?_
    refine aJ Ut (ag rfl (aJ (decide_eq_true e2) (ag rfl (ag rfl ?_))))
    exact aa f40 (ag rfl next)
   ·have e2:mS s (l[i].take 8)=s:=by unfold mS;rw [if_pos hc]
    refine af (show ((fC s (l[i].take 8)).2.1 != 0)=true by rw [bne_iff_ne];exact hc) ?_
    refine aa (jn rfl (VI M1 (mS s (l[i].take 8)) s Nk.d.sm (by omega))) ?_
    refine aa f39 ?_
    refine aJ Ut (ag rfl (aJ (decide_eq_true e2) (ag rfl (ag rfl ?_))))
    exact aa f40 (ag rfl next)
 exact loop l.length 0 zS (by omega) (by omega) gy.zero bH
theorem abl(l:List (List bW))(hw:KF (.sl tg) l)(hb:fF (.sl tg) l≤1048576):FM 10 lT ((l,()),())=some ((true,()),()):=by
 obtain ⟨h1,h2⟩:=G4 (l:=l) (m:=1048576) (by omega)
 have ht:∀e∈l,∀o∈e,EU o:=fun e he o ho=>Nat.le_trans (h2 e he o ho) (by omega)
 exact WS l (by omega) (Ts hw ht)
end Go.Vs
