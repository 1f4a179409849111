/- FoldBytes answers true -/
import Derived.Test.YtoleelddkocpkaaGreatPack
set_option linter.unusedVariables false
set_option linter.unusedSimpArgs false
namespace Go.Vs
open Go.Proofs
variable {G:(f:FuncId)→(g:aO)→Option (g.A→Option g.B)}
def qI(l:List (List bg)):List (List bg):=(l.take 30).map (·.take 8)
theorem V9(l:List (List bg)):(qI l).length≤30:=by unfold qI;simp;omega
theorem Ed{l:List (List bg)}{e:List bg}(h:e∈qI l):e.length≤8∧∃p∈l,∀o∈e,o∈p:=by unfold qI at h;obtain⟨p,hp,rfl⟩:=abW.1 h;exact⟨by simp;omega,p,ad9 hp,fun o ho=>ad9 ho⟩
theorem Lk{l:List (List bg)}(hf:∀e∈l,∀o∈e,Fit o):jw (qI l) :=⟨by have:=V9 l;omega,fun e he=>by have:=(Ed he).1;omega,fun e he o ho=>by obtain⟨_,p,hp,hh⟩:=Ed he;exact hf p hp o (hh o ho)⟩
theorem ZQ(hG:HG G)(l:List (List bg))(hl:l.length≤1073741824):FX G 11 uE ((l,()),())=some ((qI l,()),()):=by
 refine aw (hG _ _ rfl) adY ?_;have stop:∀(i:Nat) (out:List (List bg)),out=(l.take i).map (·.take 8)→l.length≤i→i≤30→LX G 11 uE Tryz.f11 qm (aM Tryz.prog 11 0) ((l,((i:Int),())),((),(out,())))=some ((qI l,()),()):=by intro i out ho h1 h2;refine au HE ?_;refine af (decide_eq_false (show ¬((i:Int)<((l.length:Nat):Int)) by omega)) ?_;show some ((out,()),())=_;rw[ho,qI,List.take_of_length_le h1,List.take_of_length_le (show l.length≤30 by omega)];rfl
 have loop:∀(n i:Nat) (out:List (List bg)),out=(l.take i).map (·.take 8)→i+n=30→i≤l.length→LX G 11 uE Tryz.f11 qm (aM Tryz.prog 11 0) ((l,((i:Int),())),((),(out,())))=some ((qI l,()),()):=by
  intro n
  induction n with
  |zero =>
   intro i out ho hi hle;by_cases aK:i<l.length
   case neg=>exact stop i out ho (by omega) (by omega)
   refine au HE (ae (aR aK) (af (decide_eq_false (show ¬((i:Int)<30) by omega)) ?_));show some ((out,()),())=_;rw[ho,qI,show i=30 by omega];rfl
  |succ n ih =>
   intro i out ho hi hle;by_cases aK:i<l.length
   case neg=>exact stop i out ho (by omega) (by omega)
   refine au HE (ae (aR aK) ?_);refine ae (decide_eq_true (show((i:Int)<30) by omega)) ?_;refine aa (aG (abk aK)) ?_;have hs:(l.take (i+1)).map (·.take 8)=out++[l[i].take 8]:=by rw[ho,List.take_succ_eq_append_getElem aK,List.map_append];rfl
   have hln:out.length≤30:=by rw[ho];simp;omega
   have step:=ih (i+1) (out++[l[i].take 8]) hs.symm (by omega) (by omega);by_cases h:8<l[i].length
   ·refine ae (decide_eq_true (show((l[i].length:Nat):Int)>8 by omega)) ?_;refine ae (by simp[bp];omega) ?_;refine ae (fits (show out.length+1≤_ by omega)) ?_;rw[wI,aB aK hl];exact step
   ·refine af (decide_eq_false (show ¬((l[i].length:Nat):Int)>8 by omega)) ?_;refine ae (fits (show out.length+1≤_ by omega)) ?_;rw[wI,aB aK hl];rw[List.take_of_length_le (show l[i].length≤8 by omega)]at step;exact step
 exact loop 30 0 [] rfl (by omega) (by omega)
def agA(o:bg):List ID:=(if o.1=1∨o.1=3 then[aZ o] else[])++(if o.1=5 then[fb o,bB o] else[])
def alS(e:List bg):Bool:=decide (0<(e.flatMap agA).length)&&e.all fun o=>decide (o.1=1∨o.1=3)
theorem ZR(hG:HG G)(s:StateT)(l:List (List bg))(hw:dF s)(h:jw l)(h8:∀e∈l,e.length≤8):FX G 10 wH ((s,l,()),())=some ((ng l s,()),()):=by
 refine aw (hG _ _ rfl) adZ ?_;have loop:∀(n i:Nat) (t:StateT),i+n=l.length→dF t → LX G 10 wH Tryz.f10 wV (aM Tryz.prog 10 0) ((l,((i:Int),())),(((t,()),((zW,()))),()))=some ((ng (l.drop i) t,()),()):=by
  intro n
  induction n with
  |zero =>intro i t hi ht;refine au NX (af (decide_eq_false (show ¬((i:Int)<((l.length:Nat):Int)) by omega)) ?_);rw[List.drop_eq_nil_of_le (by omega)];rfl
  |succ n ih =>
   intro i t hi ht;have aK:i<l.length:=by omega
   have hm:=ab4 aK;have htn:=ht.n;have hbs:Bs 1000 t:=⟨ht.d.bd.mono (by omega),by omega⟩;refine au NX (ae (aR aK) (aa (aG (abk aK)) ?_));refine aa (akg hG t l[i] hbs (by have:=h8 _ hm;omega) fun o ho=>(h.f _ hm o ho).t) ?_;rw[wI,aB aK h.n,List.drop_eq_getElem_cons aK,ng];exact ih (i+1) _ (by omega) (ht.try l[i])
 exact loop l.length 0 s (by omega) hw
def aqi(h:gR)(n:Int):List (List bg)×(Int×Unit):=if hIn h n then((Na h).drop (n-RF h).toNat,(0,())) else([],(26,()))
theorem zi:∀(l:List (List bg)) {s:StateT},dF s→bP s.1=0→bP (ng l s).1=0
 |[],_,_,h=>h
 |e::r,_,hw,h=>zi r (hw.try e) (VD hw h e)
end Go.Vs
set_option autoImplicit false
namespace Go.Vs
open Go Go.Proofs
variable {G:(f:FuncId)→(g:aO)→Option (g.A→Option g.B)}
theorem Rs{a b:StateT}(ha:dF a)(hb:dF b)(ga:bq a.2)(gb:bq b.2):(strOf (kD a)==strOf (kD b))=decide (a=b):=by
 rw[Rr (lG.state a) (lG.state b)];by_cases h:a=b
 ·rw[decide_eq_true h,decide_eq_true (by rw[h])]
 ·rw[decide_eq_false h,decide_eq_false fun k=>h (Nd ha hb ga gb k)]
theorem agB(l:List (List bg)):∀e∈qI l,e.length≤8:=fun _ he=>(Ed he).1
theorem Yw(hG:HG G)(xG:∀o,gZ G o)(hp:sD G)(l m:List (List bg))(hl:l.length≤1073741824)(hm:m.length≤1073741824)(hf:∀e∈l,∀o∈e,Fit o)(hg:∀e∈m,∀o∈e,Fit o):FX G 5 F6 ((l,m,()),())=some ((true,()),()):=by
 refine aw (hG _ _ rfl) agp ?_;have w0:=dF.zero;refine aa (af6 hG xG) (aa (ZQ hG l hl) (aa (ZR hG zS _ w0 (Lk hf) (agB l)) (aa (ZQ hG m hm) (aa (ZR hG zS _ w0 (Lk hg) (agB m)) ?_))));have wa:=dF.all (qI l) w0;have wb:=dF.all (qI m) w0;have ga:=bq.all (qI l) w0 bq.zero;have gb:=bq.all (qI m) w0 bq.zero;have pa:=zi (qI l) w0 bK;have pb:=zi (qI m) w0 bK;generalize ng (qI l) zS=a at wa ga pa;generalize ng (qI m) zS=b at wb gb pb;have e:=Rs wa wb ga gb;have hn:=wa.n;refine aa (ajT hG a b wa.d.sm (by omega)) (ae rfl (aa (ZO hG hp a b wa wb pa pb) (ae ?_ (aa (O8 hG hp a wa pa) (aa (O8 hG hp b wb pb) (ae ?_ (aa (ZO hG hp a a wa wa pa pa) ?_)))))))
 ·show((strOf (kD a)==strOf (kD b))==decide (a=b))=true;rw[e];exact beq_self_eq_true _
 ·show((strOf (kD a)==strOf (kD b))==decide (a=b))=true;rw[e];exact beq_self_eq_true _
 ·exact congrArg (fun b:Bool=>some ((b,()),())) ((MapKept.bytes_beq _ _).2 rfl)
theorem abL(l m:List (List bg))(hw:N5 (.sl oP) l)(hv:N5 (.sl oP) m)(hb:fh (.sl oP) l+fh (.sl oP) m≤1048576):FX GP 5 F6 ((l,m,()),())=some ((true,()),()):=by obtain⟨h1,h2⟩:=Aa (l:=l) (m:=1048576) (by omega);obtain⟨h3,h4⟩:=Aa (l:=m) (m:=1048576) (by omega);have tl:∀e∈l,∀o∈e,sq o:=fun e he o ho=>ab0 (h2 e he o ho) (by omega);have tm:∀e∈m,∀o∈e,sq o:=fun e he o ho=>ab0 (h4 e he o ho) (by omega);exact Yw hgP af0 ZH l m (by omega) (by omega) (fun e he o ho=>VF (hw e he o ho) (tl e he o ho)) (fun e he o ho=>VF (hv e he o ho) (tm e he o ho))
end Go.Vs
