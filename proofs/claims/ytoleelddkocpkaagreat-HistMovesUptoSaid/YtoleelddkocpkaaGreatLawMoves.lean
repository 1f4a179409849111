/- HistMoves answers true -/
import Derived.Test.YtoleelddkocpkaaGreatPack
set_option linter.unusedVariables false
set_option linter.unusedSimpArgs false
namespace Go.Vs
open Go.Proofs
variable {G:(f:FuncId)→(g:aN)→Option (g.A→Option g.B)}
def asC(l:List (List bq)):List (List bq):=(l.take 30).map (·.take 8)
def ah6(o:bq):List ID:=(if o.1=1∨o.1=3 then[ba o] else[])++(if o.1=5 then[fC o,bC o] else[])
def anF(e:List bq):Bool:=decide (0<(e.flatMap ah6).length)&&e.all fun o=>decide (o.1=1∨o.1=3)
theorem ah7(hG:HG G)(s:StateT)(l:List (List bq))(hw:eI s)(h:nF l)(h8:∀e∈l,e.length≤8):FX G 10 xm ((s,l,()),())=some ((kc l s,()),()):=by
 refine av (hG _ _ rfl) afe ?_;have loop:∀(n i:Nat) (t:StateT),i+n=l.length→eI t → LX G 10 xm Tryz.f10 xI (aK Tryz.prog 10 0) ((l,((i:Int),())),(((t,()),((zW,()))),()))=some ((kc (l.drop i) t,()),()):=by
  intro n
  induction n with
  |zero =>intro i t hi ht;refine ar O2 (af (decide_eq_false (show ¬((i:Int)<((l.length:Nat):Int)) by omega)) ?_);rw[List.drop_eq_nil_of_le (by omega)];rfl
  |succ n ih =>
   intro i t hi ht;have aO:i<l.length:=by omega
   have hm:=ac8 aO;have htn:=ht.n;have hbs:Bs 1000 t:=⟨ht.d.bd.mono (by omega),by omega⟩;refine ar O2 (ae (aT aO) (aa (aA (abn aO)) ?_));refine aa (alR hG t l[i] hbs (by have:=h8 _ hm;omega) fun o ho=>(h.f _ hm o ho).t) ?_;rw[wI,aD aO h.n,List.drop_eq_getElem_cons aO,kc];exact ih (i+1) _ (by omega) (ht.try l[i])
 exact loop l.length 0 s (by omega) hw
theorem aa5(hG:HG G)(l:List bq):FX G 27 GK ((l,()),())=some ((l.take 8,()),()):=by
 refine av (hG _ _ rfl) afk ?_;by_cases h:8<l.length
 ·have d1:decide (((l.length:Nat):Int)>8)=true:=decide_eq_true (by omega);have d2:aB l.length 0 8=true:=by simp[aB];omega
  simp only[d1,d2];rfl
 ·have d1:decide (((l.length:Nat):Int)>8)=false:=decide_eq_false (by omega);rw[List.take_of_length_le (by omega)];simp only[d1];rfl
theorem aa6(hG:HG G)(A7:∀o,jw G o){m:Nat}(h:dL)(ho:Hz m h):FX G 30 vn ((),(h,()))=some ((kc (mC h) (PS h),()),(h,())):=by refine av (hG _ _ rfl) afm ?_;exact aa (aaP hG A7 (PS h) (mC h) ho.b ho.r) rfl
def asD(h:dL)(n:Int):List (List bq)×(Int×Unit):=if hIn h n then((mC h).drop (n-rJ h).toNat,(0,())) else([],(26,()))
theorem HC:∀(l:List (List bq)) {s:StateT},eI s→bP s.1=0→bP (kc l s).1=0
 |[],_,_,h=>h
 |e::r,_,hw,h=>HC r (hw.try e) (WR hw h e)
end Go.Vs
set_option autoImplicit false
namespace Go.Vs
open Go Go.Proofs
variable {G:(f:FuncId)→(g:aN)→Option (g.A→Option g.B)}
theorem Zu(hG:HG G)(A7:∀o,jw G o)(hp:rj G)(l:List (List bq))(to:Int)(hl:l.length≤1073741824)(hf:∀e∈l,∀o∈e,Fit o):FX G 8 xp ((l,to,()),())=some ((true,()),()):=by
 refine av (hG _ _ rfl) ahH ?_;refine aa (ahu hG A7) (af rfl ?_);have loop:∀(j i:Nat) (own:List (List bq)),i+j=61→own.length≤i→i≤60→nF own→(∀e∈own,e.length≤8) → LX G 8 xp Tryz.f8 um (aK Tryz.prog 8 0) ((l,(to,((i:Int),()))),((((zS,((0:Int),(own,()))),()),(own,()))))=some ((true,()),()):=by
  intro j
  induction j with
  |zero=>intro i own hi ho h60;omega
  |succ j ih =>
   intro i own hi ho h60 hr h8;have jO:Hz 60 (zS,((0:Int),(own,()))):=⟨eI.zero,Int.le_refl _,(by show(0:Int)+((own.length:Nat):Int)≤_;omega),by omega,(by show own.length≤64;omega),hr⟩;by_cases hc:i<l.length∧i<60
   ·obtain⟨aO,h6⟩:=hc;have hm:=ac8 aO;have hx:=aA (abn aO);refine ar P4 (ae (aT aO) (ae (decide_eq_true (show(i:Int)<60 by omega)) (aa hx (aa (aa5 hG l[i]) ?_))));have hlen:(l[i].take 8).length≤8:=by simp;omega
    have hfk:∀o∈l[i].take 8,Fit o:=fun o ho=>hf _ hm o (List.mem_of_mem_take ho);have anG:=aa5 hG l[i];generalize l[i].take 8=p at *;refine aa (aaQ hG _ jO (by omega) p (by omega) hfk) ?_;have ew:=aD aO hl;by_cases hm0:c8 p=0
    ·have ea:Fy (zS,((0:Int),(own,()))) p=((((own.length:Nat):Int)+1,(0,())),(zS,((0:Int),(own++[p],())))):=by unfold Fy;rw[if_neg (by simp[hm0]),if_neg (show ¬64≤own.length by omega)];show((((0:Int)+((own.length:Nat):Int))+1,_),_)=_;rw[Int.zero_add]
     rw[ea];refine ae rfl (aa hx (aa anG (ae (fits (show own.length+1≤_ by omega)) ?_)));rw[wI,ew];refine ih (i+1) (own++[p]) (by omega) (by simp;omega) (by omega) ⟨by simp;omega,fun e he=>?_,fun e he=>?_⟩ fun e he=>?_
     ·rcases abX.1 he with he|he
      ·exact hr.e e he
      ·rw[List.mem_singleton.1 he];omega
     ·rcases abX.1 he with he|he
      ·exact hr.f e he
      ·rw[List.mem_singleton.1 he];exact hfk
     ·rcases abX.1 he with he|he
      ·exact h8 e he
      ·rw[List.mem_singleton.1 he];exact hlen
    ·have ea:Fy (zS,((0:Int),(own,()))) p=((0,(c8 p,())),(zS,((0:Int),(own,())))):=by unfold Fy;rw[if_pos hm0]
     rw[ea];refine af (show(c8 p==0)=false by simp[hm0]) ?_;rw[wI,ew];exact ih (i+1) own (by omega) (by omega) (by omega) hr h8
   have hon:own.length≤60:=by omega
   have ah8:∃(H:dL) (ee:Int),A8 (zS,((0:Int),(own,()))) to=(ee,H)∧N4 H=((own.length:Nat):Int)∧kc (mC H) (PS H)=kc own zS∧((rJ H=to∧0≤to∧to≤((own.length:Nat):Int)∧ee=0)∨(¬(0≤to∧to≤((own.length:Nat):Int))∧ee=26)):=by
    have u5:N4 (zS,((0:Int),(own,())))=0+((own.length:Nat):Int):=rfl;unfold A8
    split
    ·rename_i hi2;unfold hIn at hi2;obtain⟨a,b⟩:=hi2;have a:(0:Int)≤to:=a;refine⟨_,_,rfl,?_,?_,.inl ⟨rfl,a,by omega,rfl⟩⟩
     ·show to+(((own.drop (to-0).toNat).length:Nat):Int)=_;rw[List.length_drop];omega
     ·show kc (own.drop (to-0).toNat) (kc (own.take (to-0).toNat) zS)=_;rw[←LZ,List.take_append_drop]
    ·rename_i hi2;refine⟨_,_,rfl,by rw[u5,Int.zero_add],rfl,.inr ⟨fun k=>hi2 ⟨k.1,by rw[u5];omega⟩,rfl⟩⟩
   obtain⟨H,ee,ec,hlc,whole,hor⟩:=ah8;have ah9:=aaR hG A7 _ jO to;have hoc:=jO.comp to;rw[ec]at ah9 hoc;have Xk:=aa6 hG A7 _ jO;have ac4:=(aa6 hG A7 _ hoc).trans (congrArg (fun s:StateT=>some ((s,()),(H,()))) whole);have Je:=(PT hG _ hoc).trans (congrArg (fun n:Int=>some ((n,()),(H,()))) hlc);have wS:=eI.all own eI.zero;have gS:=bB.all own eI.zero bB.zero;have pS:=HC own eI.zero bR;have aia:=ah7 hG zS own eI.zero hr h8;have e0:kc (mC (zS,((0:Int),(own,())))) (PS (zS,((0:Int),(own,()))))=kc own zS:=rfl;rw[e0]at Xk;generalize kc own zS=S at Xk ac4 wS gS pS aia;have wn:=wS.n;have f16:=(alu hG S S wS.d.sm (by omega)).trans (congrArg (fun b:Bool=>some ((b,()),())) (decide_eq_true rfl));have Sx:=aa4 hG hp ((own.length:Nat):Int) S ⟨by omega,by omega⟩ wS pS gS;have ac5:=ah5 hG hp ((own.length:Nat):Int) S ⟨by omega,by omega⟩ wS pS gS;have eqL:(((own.length:Nat):Int)==((own.length:Nat):Int))=true:=by simp
   have neL:(((own.length:Nat):Int) != ((own.length:Nat):Int))=false:=by simp
   refine ar P4 ?_;by_cases aO:i<l.length
   case' pos=>refine ae (aT aO) (af (decide_eq_false (show ¬(i:Int)<60 by omega)) ?_)
   case' neg=>refine af (decide_eq_false (show ¬((i:Int)<((l.length:Nat):Int)) by omega)) ?_
   all_goals
    refine aa Xk (aa aia (aa f16 (aa ah9 ?_)));by_cases t0:to≥0
    ·refine ae (decide_eq_true t0) (aa ac4 (aa f16 (af rfl ?_)));rcases hor with⟨hF,_,t1,rfl⟩|⟨tG,rfl⟩
     ·refine af (show(!(decide (to≤((own.length:Nat):Int))==true))=false by rw[decide_eq_true t1];rfl) (af rfl (aa Je (af neL (ae (decide_eq_true t1) (af (show(rJ H != to)=false by rw[hF];simp) ?_)))));exact aa Je (aa Sx (aa ac5 (aa f16 (ae rfl (ae rfl (aa Je (ae eqL rfl)))))))
     ·have t1:¬to≤((own.length:Nat):Int):=fun k=>tG ⟨t0,k⟩;refine af (show(!(decide (to≤((own.length:Nat):Int))==false))=false by rw[decide_eq_false t1];rfl) (af rfl (aa Je (af neL (af (decide_eq_false t1) ?_))));exact aa Je (aa Sx (aa ac5 (aa f16 (ae rfl (ae rfl (aa Je (ae eqL rfl)))))))
    ·refine af (decide_eq_false t0) (aa ac4 (aa f16 (af rfl ?_)));rcases hor with⟨_,t2,_,_⟩|⟨tG,rfl⟩
     ·exact absurd t2 t0
     refine af rfl (af rfl (aa Je (af neL ?_)));exact aa Je (aa Sx (aa ac5 (aa f16 (ae rfl (ae rfl (aa Je (ae eqL rfl)))))))
 exact loop 61 0 [] (by omega) (by simp) (by omega) ⟨by simp,fun e he=>(by cases he),fun e he=>(by cases he)⟩ fun e he=>by cases he
theorem ac6(l:List (List bq))(to:Int)(hw:Pb (.sl qN) l)(ht:Pb (.int .i64) to)(hb:fE (.sl qN) l+fE (.int .i64) to≤1048576):FX GP 8 xp ((l,to,()),())=some ((true,()),()):=by obtain⟨h1,h2⟩:=K8 (l:=l) (m:=1048576) (by omega);have htx:∀e∈l,∀o∈e,we o:=fun e he o ho=>acz (h2 e he o ho) (by omega);exact Zu hgP ahk aaO l to (by omega) (fun e he o ho=>acU (hw e he o ho) (htx e he o ho))
end Go.Vs
