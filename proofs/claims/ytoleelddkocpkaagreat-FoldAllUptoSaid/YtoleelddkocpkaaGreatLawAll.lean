/- FoldAll answers true -/
import Derived.Test.YtoleelddkocpkaaGreatPack
set_option linter.unusedVariables false
set_option linter.unusedSimpArgs false
namespace Go.Vs
open Go.Proofs
variable {G:(f:FuncId)→(g:aP)→Option (g.A→Option g.B)}
def ta(l:List (List bj)):List (List bj):=(l.take 30).map (·.take 8)
theorem Ma(l:List (List bj)):(ta l).length≤30:=by unfold ta;simp;omega
theorem EX{l:List (List bj)}{e:List bj}(h:e∈ta l):e.length≤8∧∃p∈l,∀o∈e,o∈p:=by unfold ta at h;obtain⟨p,hp,rfl⟩:=acU.1 h;exact⟨by simp;omega,p,adY hp,fun o ho=>adY ho⟩
theorem Xm{l:List (List bj)}(hf:∀e∈l,∀o∈e,Fit o):fU (ta l) :=⟨by have:=Ma l;omega,fun e he=>by have:=(EX he).1;omega,fun e he o ho=>by obtain⟨_,p,hp,hh⟩:=EX he;exact hf p hp o (hh o ho)⟩
theorem ah4(hG:HG G)(l:List (List bj))(hl:l.length≤1073741824):FX G 11 xh ((l,()),())=some ((ta l,()),()):=by
 refine av (hG _ _ rfl) ae5 ?_;have stop:∀(i:Nat) (out:List (List bj)),out=(l.take i).map (·.take 8)→l.length≤i→i≤30→LX G 11 xh Tryz.f11 qI (aF Tryz.prog 11 0) ((l,((i:Int),())),((),(out,())))=some ((ta l,()),()):=by intro i out ho h1 h2;refine ar IC ?_;refine ag (decide_eq_false (show ¬((i:Int)<((l.length:Nat):Int)) by omega)) ?_;show some ((out,()),())=_;rw[ho,ta,List.take_of_length_le h1,List.take_of_length_le (show l.length≤30 by omega)];rfl
 have loop:∀(n i:Nat) (out:List (List bj)),out=(l.take i).map (·.take 8)→i+n=30→i≤l.length→LX G 11 xh Tryz.f11 qI (aF Tryz.prog 11 0) ((l,((i:Int),())),((),(out,())))=some ((ta l,()),()):=by
  intro n
  induction n with
  |zero =>
   intro i out ho hi hle;by_cases aH:i<l.length
   case neg=>exact stop i out ho (by omega) (by omega)
   refine ar IC (af (aN aH) (ag (decide_eq_false (show ¬((i:Int)<30) by omega)) ?_));show some ((out,()),())=_;rw[ho,ta,show i=30 by omega];rfl
  |succ n ih =>
   intro i out ho hi hle;by_cases aH:i<l.length
   case neg=>exact stop i out ho (by omega) (by omega)
   refine ar IC (af (aN aH) ?_);refine af (decide_eq_true (show((i:Int)<30) by omega)) ?_;refine aa (aw (aby aH)) ?_;have hs:(l.take (i+1)).map (·.take 8)=out++[l[i].take 8]:=by rw[ho,List.take_succ_eq_append_getElem aH,List.map_append];rfl
   have hln:out.length≤30:=by rw[ho];simp;omega
   have step:=ih (i+1) (out++[l[i].take 8]) hs.symm (by omega) (by omega);by_cases h:8<l[i].length
   ·refine af (decide_eq_true (show((l[i].length:Nat):Int)>8 by omega)) ?_;refine af (by simp[bg];omega) ?_;refine af (fits (show out.length+1≤_ by omega)) ?_;rw[wI,aA aH hl];exact step
   ·refine ag (decide_eq_false (show ¬((l[i].length:Nat):Int)>8 by omega)) ?_;refine af (fits (show out.length+1≤_ by omega)) ?_;rw[wI,aA aH hl];rw[List.take_of_length_le (show l[i].length≤8 by omega)]at step;exact step
 exact loop 30 0 [] rfl (by omega) (by omega)
def ah5(o:bj):List ID:=(if o.1=1∨o.1=3 then[bh o] else[])++(if o.1=5 then[fi o,bB o] else[])
def anu(e:List bj):Bool:=decide (0<(e.flatMap ah5).length)&&e.all fun o=>decide (o.1=1∨o.1=3)
theorem HH:∀(l:List (List bj)) {s:StateT},dy s→bH s.1=0→bH (j7 l s).1=0
 |[],_,_,h=>h
 |e::r,_,hw,h=>HH r (hw.try e) (WQ hw h e)
theorem Xn(hG:HG G)(pV:∀o,fg G o)(l:List (List bj))(h:fU l):∀(n i:Nat) (s:StateT) (p:List Bool),i+n=l.length→p.length=i→dy s → LX G 40035 lk Tryz.f35 mU (aF Tryz.prog 35 0) ((l,(((l.length:Nat):Int),((i:Int),()))),(((p,()),(zW,((s,()),()))),()))=some ((j7 (l.drop i) s,()),((p++fT (l.drop i) s,()),())):=by
 intro n
 induction n with
 |zero =>intro i s p hi hp hw;refine ar DT (ag (decide_eq_false (show ¬((i:Int)<((l.length:Nat):Int)) by omega)) ?_);rw[List.drop_eq_nil_of_le (by omega),fT,List.append_nil];rfl
 |succ n ih =>
  intro i s p hi hp hw;have aH:i<l.length:=by omega
  have hm:=acv aH;have hn:=h.n;refine ar DT (af (aN aH) ?_);refine aa (aw (aby aH)) ?_;refine aa (aaP hG pV h hm s hw p (by omega)) (aa (Jn hG pV h hm s hw) ?_);rw[wI,aA aH h.n,List.drop_eq_getElem_cons aH,j7,fT];have:=ih (i+1) _ (p++[decide ((cf s l[i]).2.1=0)]) (by omega) (by simp;omega) (hw.try l[i]);rw[List.append_assoc]at this;exact this
theorem ah6(hG:HG G)(pV:∀o,fg G o)(s:StateT)(l:List (List bj))(hw:dy s)(h:fU l):FX G 15 KU ((s,l,()),())=some ((fT l s,()),()):=by
 refine av (hG _ _ rfl) ae7 ?_;have h1:FX G 40035 lk ((s,l,()),(([],()),()))=some ((j7 l s,()),((fT l s,()),())):=by refine av (hG _ _ rfl) U3 ?_;refine aa (Jo hG pV s hw) ?_;exact Xn hG pV l h l.length 0 s [] (by omega) rfl hw
 exact aa h1 rfl
end Go.Vs
set_option autoImplicit false
namespace Go.Vs
open Go Go.Proofs
variable {G:(f:FuncId)→(g:aP)→Option (g.A→Option g.B)}
theorem ah7(l:List (List bj)):∀e∈ta l,e.length≤8:=fun _ he=>(EX he).1
end Go.Vs
set_option autoImplicit false
namespace Go.Vs
open Go Go.Proofs
variable {G:(f:FuncId)→(g:aP)→Option (g.A→Option g.B)}
theorem Zv(hG:HG G)(pV:∀o,fg G o)(hp:sX G)(l:List (List bj))(hl:l.length≤1073741824)(hf:∀e∈l,∀o∈e,Fit o):FX G 4 xj ((l,()),())=some ((true,()),()):=by
 refine av (hG _ _ rfl) ahE ?_;have w0:=dy.zero;have hr:=Xm hf;refine aa (ahl hG pV) (aa (ah4 hG l hl) (aa (ahk hG pV zS _ w0 hr) (aa (aho hG zS _ w0 hr (ah7 l)) (aa (ah6 hG pV zS _ w0 hr) (aa (ah3 hG zS _ w0 hr (ah7 l)) ?_)))));have wa:=dy.all (ta l) w0;have ga:=bD.all (ta l) w0 bD.zero;have pa:=HH (ta l) w0 bR;have hD:=yj (ta l) zS;have hn:=Ma l;generalize j7 (ta l) zS=a at wa ga pa;generalize fT (ta l) zS=D at hD;have hwn:=wa.n;have loop:∀(n i:Nat),i+n=D.length→LX G 4 xj Tryz.f4 xH (aF Tryz.prog 4 0) ((true,((i:Int),())),(((a,()),((a,()),())),(D,(D,()))))=some ((true,()),()):=by
  intro n
  induction n with
  |zero =>
   intro i hi;have:i=D.length:=by omega
   subst this;refine ar P1 (ag (bX _) (aa (alu hG a a wa.d.sm (by omega)) (af rfl (af (decide_eq_true rfl) (af ?_ (aa (Xh hG hp a wa pa) (aa (ah2 hG a wa pa ga) (af ((MapKept.bytes_beq _ _).2 rfl) (aa (ahY hG hp a a wa wa pa pa) ?_)))))))))
   ·show(((D.length:Nat):Int)==((D.length:Nat):Int))=true;simp
   ·exact congrArg (fun b:Bool=>some ((b,()),())) ((MapKept.bytes_beq _ _).2 rfl)
  |succ n ih =>
   intro i hi;have aH:i<D.length:=by omega
   have hx:D[Int.toNat (i:Int)]? = some D[i]:=aby aH;have hb:((decide ((0:Int)≤(i:Int)))&&(decide ((i:Int)<((D.length:Nat):Int))))=true:=cd (decide_eq_true (by omega)) (decide_eq_true (by omega));refine ar P1 (af (aN aH) (ag ?_ (af hb (aa hx (af hb (aa hx (ag ?_ ?_)))))))
   ·show(((D.length:Nat):Int) != ((D.length:Nat):Int))=false;simp
   ·simp
   ·rw[wI,aA aH (by omega)];exact ih (i+1) (by omega)
 exact loop D.length 0 (by omega)
theorem acR(l:List (List bj))(hw:Rs (.sl oD) l)(hb:gr (.sl oD) l≤1048576):FX GP 4 xj ((l,()),())=some ((true,()),()):=by obtain⟨h1,h2⟩:=Ld (l:=l) (m:=1048576) (by omega);have tl:∀e∈l,∀o∈e,v5 o:=fun e he o ho=>acY (h2 e he o ho) (by omega);exact Zv hgP ahc aaN l (by omega) (fun e he o ho=>acN (hw e he o ho) (tl e he o ho))
end Go.Vs
