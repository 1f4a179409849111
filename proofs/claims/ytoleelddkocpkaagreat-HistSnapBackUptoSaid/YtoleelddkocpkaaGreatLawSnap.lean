/- HistSnapBack answers true -/
import Derived.Test.YtoleelddkocpkaaGreatPack
set_option linter.unusedVariables false
set_option linter.unusedSimpArgs false
namespace Go.Vs
open Go.Proofs
variable {G:(f:FuncId)→(g:aO)→Option (g.A→Option g.B)}
def ase(l:List (List br)):List (List br):=(l.take 30).map (·.take 8)
def aim(o:br):List ID:=(if o.1=1∨o.1=3 then[bf o] else[])++(if o.1=5 then[fG o,bD o] else[])
def anJ(e:List br):Bool:=decide (0<(e.flatMap aim).length)&&e.all fun o=>decide (o.1=1∨o.1=3)
theorem HQ:∀(l:List (List br)) {s:StateT},eZ s→bL s.1=0→bL (wM l s).1=0
 |[],_,_,h=>h
 |e::r,_,hw,h=>HQ r (hw.try e) (Xi hw h e)
end Go.Vs
set_option autoImplicit false
namespace Go.Vs
open Go Go.Proofs
variable {G:(f:FuncId)→(g:aO)→Option (g.A→Option g.B)}
theorem HR(n:Int):0≤cH .and .i64 n 1073741823∧cH .and .i64 n 1073741823≤1073741823:=by unfold cH;simp only[BitVec.toNat_and];have h:(BitVec.ofInt (IntKind.bits .i64) n).toNat &&& (BitVec.ofInt (IntKind.bits .i64) 1073741823).toNat≤1073741823:=Nat.and_le_right;rw[wrap_small (by omega) (by omega)];omega
structure E8(s:StateT):Prop where
 w:eZ s
 k:bw s.2
 p:bL s.1=0
theorem E8.try{s:StateT}(h:E8 s)(e:List br):E8 (hY s e):=⟨h.w.try e,bw.try h.w h.k e,HQ [e] h.w h.p⟩
theorem E8.zero:E8 zS:=⟨eZ.zero,bw.zero,bS⟩
theorem ZS(hG:HG G)(FM:∀o,kb G o)(hp:oT G)(n m:Int)(l k:List (List br))(hl:l.length≤1073741824)(hk:k.length≤1073741824)(hf:∀e∈l,∀o∈e,Fit o)(hh:∀e∈k,∀o∈e,Fit o):FX G 7 rR ((n,m,(l,k),()),())=some ((true,()),()):=by
 refine av (hG _ _ rfl) ah7 (aa (ahL hG FM) ?_);have hn:=HR n;have hm:=HR m;generalize cH .and .i64 n 1073741823=n' at hn;generalize cH .and .i64 m 1073741823=m' at hm;have one:∀(l:List (List br)),(∀e∈l,∀o∈e,Fit o)→∀(i:Nat) (aN:i<l.length) (t:StateT),E8 t→FX G 26 Nt ((t,(l[i].take 8,())),())=some ((hY t (l[i].take 8),()),()):=fun l hf i aN t ht=>by
  have htn:=ht.w.n;have hbs:Bs 1000 t:=⟨ht.w.d.bd.mono (by omega),by omega⟩;have hlen:(l[i].take 8).length≤8:=by simp;omega
  exact al0 hG t (l[i].take 8) hbs (by omega) fun o ho=>(hf _ (acV aN) o (List.mem_of_mem_take ho)).t
 have LK:∀(j i:Nat) (s t:StateT),i+j=31→i≤30→E8 s→E8 t→LX G 7 rR Tryz.f7 uE (aK Tryz.prog 7 1) ((n',(m',(true,((i:Int),())))),(((l,(k,())),((s,()),((t,()),()))),()))=some ((true,()),()):=by
  intro j
  induction j with
  |zero=>intro i s t hi h30;omega
  |succ j ih =>
   intro i s t hi h30 hs ht;by_cases hc:i<k.length∧i<30
   ·obtain⟨aN,h6⟩:=hc;refine ar Qv (ae (aT aN) (ae (decide_eq_true (show(i:Int)<30 by omega)) (aa (aB (aa8 aN)) (aa (abc hG k[i]) (aa (one k hh i aN t ht) ?_)))));rw[wI,aD aN hk];exact ih (i+1) s _ (by omega) (by omega) hs (ht.try _)
   have a1:=XE hG hp n' s ⟨hn.1,by omega⟩ hs.w hs.p hs.k;have a2:=XE hG hp m' t ⟨hm.1,by omega⟩ ht.w ht.p ht.k;have a3:=aik hG hp n' s ⟨hn.1,by omega⟩ hs.w hs.p hs.k;have hsn:=hs.w.n;have a4:=(agi hG s s hs.w.d.sm (by omega)).trans (congrArg (fun b:Bool=>some ((b,()),())) (decide_eq_true rfl));have a5:=agi hG s t hs.w.d.sm (by omega);have a6:=adm hG hp n' s ⟨hn.1,by omega⟩ hs.w hs.p hs.k;have hlen:=Ap (n:=n') hs.w;have e1:(([]:List Int)++dI n' s)++[0]=dI n' s++[0]:=rfl;have b1:aI (List.length ([]:List Int)) (List.length (dI n' s))=true:=fits (show 0+(dI n' s).length≤_ by omega);have b2:aI (List.length (([]:List Int)++dI n' s)) (List.length ([0]:List Int))=true:=fits (show(([]:List Int)++dI n' s).length+1≤_ by rw[List.nil_append];omega);have eq:(strOf (dI n' s)==strOf (dI m' t))=decide (n'=m'∧s=t):=by
    rw[SX (db.snap n' s) (db.snap m' t)];by_cases h:dI n' s=dI m' t
    ·have:=SZ ⟨hn.1,by omega⟩ ⟨hm.1,by omega⟩ hs.w ht.w hs.k ht.k h;rw[decide_eq_true h,decide_eq_true this]
    ·rw[decide_eq_false h,decide_eq_false fun q=>h (by rw[q.1,q.2])]
   have eqn:(n'==n')=true:=by simp
   have en:(n'==m')=decide (n'=m'):=by rw[Bool.eq_iff_iff];simp
   refine ar Qv ?_;by_cases aN:i<k.length
   case' pos=>refine ae (aT aN) (af (decide_eq_false (show ¬(i:Int)<30 by omega)) ?_)
   case' neg=>refine af (decide_eq_false (show ¬((i:Int)<((k.length:Nat):Int)) by omega)) ?_
   all_goals
    refine aa a1 (aa a2 (aa a3 (aa a4 (aa a5 ?_))));by_cases vQ:s=t
    ·refine ae (decide_eq_true vQ) (ae b1 (ae b2 (aa a6 (ae rfl (ae rfl (ae rfl (ae rfl (ae eqn (ae rfl (ae ?_ rfl))))))))));show((strOf (dI n' s)==strOf (dI m' t))==(n'==m'))=true;rw[eq,en];by_cases hnm:n'=m'
     ·rw[decide_eq_true hnm,decide_eq_true ⟨hnm,vQ⟩];rfl
     ·rw[decide_eq_false hnm,decide_eq_false fun q=>hnm q.1];rfl
    ·refine af (decide_eq_false vQ) (ae b1 (ae b2 (aa a6 (ae rfl (ae rfl (ae rfl (ae rfl (ae eqn (ae rfl (ae ?_ rfl))))))))));show((strOf (dI n' s)==strOf (dI m' t))==false)=true;rw[eq,decide_eq_false fun q=>vQ q.2];rfl
 have LL:∀(j i:Nat) (s:StateT),i+j=31→i≤30→E8 s→LX G 7 rR Tryz.f7 xV (aK Tryz.prog 7 0) ((n',(m',(true,((i:Int),())))),(((l,(k,())),((s,()),((zS,()),()))),()))=some ((true,()),()):=by
  intro j
  induction j with
  |zero=>intro i s hi h30;omega
  |succ j ih =>
   intro i s hi h30 hs;by_cases hc:i<l.length∧i<30
   ·obtain⟨aN,h6⟩:=hc;refine ar Qu (ae (aT aN) (ae (decide_eq_true (show(i:Int)<30 by omega)) (aa (aB (aa8 aN)) (aa (abc hG l[i]) (aa (one l hf i aN s hs) ?_)))));rw[wI,aD aN hl];exact ih (i+1) _ (by omega) (by omega) (hs.try _)
   have nx:=LK 31 0 s zS rfl (by omega) hs E8.zero;refine ar Qu ?_;by_cases aN:i<l.length
   ·exact ae (aT aN) (af (decide_eq_false (show ¬(i:Int)<30 by omega)) nx)
   ·exact af (decide_eq_false (show ¬((i:Int)<((l.length:Nat):Int)) by omega)) nx
 exact LL 31 0 zS rfl (by omega) E8.zero
theorem adn(n m:Int)(x:List (List br)×List (List br))(_:Ls (.int .i64) n)(_:Ls (.int .i64) m)(hw:Ls (.pair (.sl nj) (.sl nj)) x)(hb:dF (.int .i64) n+dF (.int .i64) m+dF (.pair (.sl nj) (.sl nj)) x≤1048576):FX GP 7 rR ((n,m,x,()),())=some ((true,()),()):=by obtain⟨l,k⟩:=x;have MH:Ls (.sl nj) l:=hw.1;have Lh:Ls (.sl nj) k:=hw.2;have hb:dF (.int .i64) n+dF (.int .i64) m+(dF (.sl nj) l+dF (.sl nj) k)≤1048576:=hb;obtain⟨h1,h2⟩:=A6 (l:=l) (m:=1048576) (by omega);obtain⟨h3,h4⟩:=A6 (l:=k) (m:=1048576) (by omega);have tl:∀e∈l,∀o∈e,tu o:=fun e he o ho=>acE (h2 e he o ho) (by omega);have tk:∀e∈k,∀o∈e,tu o:=fun e he o ho=>acE (h4 e he o ho) (by omega);exact ZS hgP ahA aa9 n m l k (by omega) (by omega) (fun e he o ho=>Xk (MH e he o ho) (tl e he o ho)) (fun e he o ho=>Xk (Lh e he o ho) (tk e he o ho))
end Go.Vs
