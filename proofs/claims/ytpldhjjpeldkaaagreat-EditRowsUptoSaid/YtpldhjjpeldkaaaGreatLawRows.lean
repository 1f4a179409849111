/- EditRows answers true, of data. -/
import Derived.Test.YtpldhjjpeldkaaaGreatPartsB
import Derived.Test.YtpldhjjpeldkaaaGreatFormed
import Derived.Test.YtpldhjjpeldkaaaGreatTop
set_option linter.unusedVariables false
set_option linter.unusedSimpArgs false
namespace Go.Vs
open Go.Proofs
variable {G:(f:FuncId)→(g:aJ)→Option (g.A→Option g.B)}
theorem Jh{n:Int}(h:JV (.int .i64) n):O4 n:=by
 have h1:IntKind.min .i64 = -9223372036854775808:=by decide
 have h2:IntKind.max .i64=9223372036854775807:=by decide
 have h:IntKind.min .i64≤n∧n≤IntKind.max .i64:=h
 rw [h1,h2] at h
 unfold O4;omega
theorem Vx{o:bB}(h:JV rj o)(ht:mC o):Fit o:=by
 obtain ⟨_,_,_,_,⟨_,_,h1⟩,⟨_,_,h2⟩,_,_,h3⟩:=h
 exact ⟨Jh h1,Jh h2,Jh h3,ht⟩
theorem Se{l:List (List bB)}(hw:JV (.sl sL) l)(ht:∀e∈l,∀o∈e,mC o):∀e∈l,∀o∈e,Fit o:=fun e he o ho=>Vx (hw e he o ho) (ht e he o ho)
theorem afy(hG:HG G):FX G 33 Ik ((),())=some ((zS,()),()):=ar (fn:=Tryz.f33) (hG _ _ rfl) (by kernel_rfl) (by kernel_rfl) (WW _ _ _)
theorem aad(hG:HG G)(Ve:∀o,sY G o)(l:List (List bB))(hl:l.length≤1073741824)(ht:∀e∈l,∀o∈e,mC o)(hf:∀e∈l,∀o∈e,Fit o):FX G 9 Q2 ((l,()),())=some ((true,()),()):=by
 refine ar (fn:=Tryz.f9) (hG _ _ rfl) (by kernel_rfl) (by kernel_rfl) ((nf9 _ _ _).trans ?_)
 refine aa (adV hG) ?_
 refine aa (afy hG) ?_
 have loop:∀(n i:Nat) (s:StateT),i+n=l.length→i≤30→hP s→Bs (24 * i) s→LX G 9 Q2 Tryz.f9 F4 (aP Tryz.prog 9 0) ((l,(true,((i:Int),()))),(((s,()),((s,()),())),()))=some ((true,()),()):=by
  intro n
  induction n with
  | zero =>
   intro i s hi h30 hw hb
   exact au (j:=0) (by kernel_rfl) ((SL _ _ _).trans (ag (decide_eq_false (show ¬((i:Int)<((l.length:Nat):Int)) by omega)) rfl))
  | succ n ih =>
   intro i s hi h30 hw hb
   refine au (j:=0) (by kernel_rfl) ((SL _ _ _).trans ?_)
   have aH:i<l.length:=by omega
   refine ae (aX aH) ?_
   by_cases hi3:i<30
   case neg=>exact ag (decide_eq_false (show ¬((i:Int)<30) by omega)) rfl
   refine ae (decide_eq_true (show ((i:Int)<30) by omega)) ?_
   have hx:l[i]? = some l[i]:=List.getElem?_eq_getElem aH
   have hm:=List.getElem_mem aH
   have hlen:(l[i].take 8).length≤8:=by simp;omega
   have gG:∀o∈l[i].take 8,mC o:=fun o ho=>ht l[i] hm o (List.mem_of_mem_take ho)
   have hfk:∀o∈l[i].take 8,Fit o:=fun o ho=>hf l[i] hm o (List.mem_of_mem_take ho)
   have h34:=adK (hG 34 BH rfl) l[i]
   refine aa (aK hx) (aa h34 ?_)
   refine aa (YY hG s (l[i].take 8) hw (by omega) hfk fun o _=>Ve o) ?_
   refine aa (aK hx) (aa h34 ?_)
   refine aa (YI hG s (l[i].take 8) hb (by omega) gG) ?_
   have hwa:=hw.apply (l[i].take 8)
   have hna:=hwa.n
   have Ti:=hw.try (l[i].take 8)
   have hnt:=Ti.n
   refine aa (YB hG (fi s (l[i].take 8)).1 (fi s (l[i].take 8)).1 hwa.d.sm (by omega)) ?_
   refine ag (by simp) ?_
   refine ag (by simp) ?_
   refine aa (aK hx) (aa h34 ?_)
   refine aa (aem hG s (l[i].take 8) hw (by omega) hfk fun o _=>Ve o) ?_
   refine aa (aK hx) (aa h34 ?_)
   refine aa (adS hG s (l[i].take 8) hb (by omega) gG) ?_
   refine aa (YB hG (rq s (l[i].take 8)) (rq s (l[i].take 8)) Ti.d.sm (by omega)) ?_
   refine ag (by simp) ?_
   rw [aI aH hl]
   have yN:Bs (24 * i+3 * (l[i].take 8).length) (rq s (l[i].take 8)):=hb.try
   exact ih (i+1) (rq s (l[i].take 8)) (by omega) (by omega) Ti (yN.mono (by omega))
 exact loop l.length 0 zS (by omega) (by omega) hP.zero (Bs.zero _)
theorem afz(l:List (List bB))(hw:JV (.sl sL) l)(hb:fm (.sl sL) l≤1048576):FX GP 9 Q2 ((l,()),())=some ((true,()),()):=by
 obtain ⟨h1,h2⟩:=Gj (l:=l) (m:=1048576) (by omega)
 have ht:∀e∈l,∀o∈e,mC o:=fun e he o ho=>Nat.le_trans (h2 e he o ho) (by omega)
 exact aad hgP aac l (by omega) ht (Se hw ht)
end Go.Vs
