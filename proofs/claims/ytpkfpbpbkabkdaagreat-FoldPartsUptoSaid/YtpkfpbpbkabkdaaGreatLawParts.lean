/- FoldParts answers true -/
import Derived.Test.YtpkfpbpbkabkdaaGreatPack
set_option linter.unusedVariables false
set_option linter.unusedSimpArgs false
namespace Go.Vs
open Go.Proofs
variable {G:(f:FuncId)→(g:aO)→Option (g.A→Option g.B)}
def C1(l:List (List aY)):List (List aY):=(l.take 30).map (·.take 8)
theorem Jz(l:List (List aY)):(C1 l).length≤30:=by unfold C1;simp;omega
theorem JA{l:List (List aY)}{e:List aY}(h:e∈C1 l):e.length≤8∧∃p∈l,∀o∈e,o∈p:=by unfold C1 at h;obtain⟨p,hp,rfl⟩:=acx.1 h;exact⟨by simp;omega,p,ad2 hp,fun o ho=>ad2 ho⟩
theorem Ts{l:List (List aY)}(hf:∀e∈l,∀o∈e,Fit o):fU (C1 l) :=⟨by have:=Jz l;omega,fun e he=>by have:=(JA he).1;omega,fun e he o ho=>by obtain⟨_,p,hp,hh⟩:=JA he;exact hf p hp o (hh o ho)⟩
theorem adF(hG:HG G)(l:List (List aY))(hl:l.length≤1073741824):FX G 16 vL ((l,()),())=some ((C1 l,()),()):=by
 refine aA (hG _ _ rfl) abf ?_;have stop:∀(i:Nat) (out:List (List aY)),out=(l.take i).map (·.take 8)→l.length≤i→i≤30→LX G 16 vL Tryz.f16 pZ (aZ Tryz.prog 16 0) ((l,((i:Int),())),((),(out,())))=some ((C1 l,()),()):=by intro i out ho h1 h2;refine aC FY ?_;refine af (decide_eq_false (show ¬((i:Int)<((l.length:Nat):Int)) by omega)) ?_;show some ((out,()),())=_;rw[ho,C1,List.take_of_length_le h1,List.take_of_length_le (show l.length≤30 by omega)];rfl
 have loop:∀(n i:Nat) (out:List (List aY)),out=(l.take i).map (·.take 8)→i+n=30→i≤l.length→LX G 16 vL Tryz.f16 pZ (aZ Tryz.prog 16 0) ((l,((i:Int),())),((),(out,())))=some ((C1 l,()),()):=by
  intro n
  induction n with
  |zero =>
   intro i out ho hi hle;by_cases aF:i<l.length
   case neg=>exact stop i out ho (by omega) (by omega)
   refine aC FY (ae (bg aF) (af (decide_eq_false (show ¬((i:Int)<30) by omega)) ?_));show some ((out,()),())=_;rw[ho,C1,show i=30 by omega];rfl
  |succ n ih =>
   intro i out ho hi hle;by_cases aF:i<l.length
   case neg=>exact stop i out ho (by omega) (by omega)
   refine aC FY (ae (bg aF) ?_);refine ae (decide_eq_true (show((i:Int)<30) by omega)) ?_;refine aa (aR (abv aF)) ?_;have hs:(l.take (i+1)).map (·.take 8)=out++[l[i].take 8]:=by rw[ho,List.take_succ_eq_append_getElem aF,List.map_append];rfl
   have hln:out.length≤30:=by rw[ho];simp;omega
   have step:=ih (i+1) (out++[l[i].take 8]) hs.symm (by omega) (by omega);by_cases h:8<l[i].length
   ·refine ae (decide_eq_true (show((l[i].length:Nat):Int)>8 by omega)) ?_;refine ae (by simp[aH];omega) ?_;refine ae (fits (show out.length+1≤_ by omega)) ?_;rw[wI,aK aF hl];exact step
   ·refine af (decide_eq_false (show ¬((l[i].length:Nat):Int)>8 by omega)) ?_;refine ae (fits (show out.length+1≤_ by omega)) ?_;rw[wI,aK aF hl];rw[List.take_of_length_le (show l[i].length≤8 by omega)]at step;exact step
 exact loop 30 0 [] rfl (by omega) (by omega)
def adG(o:aY):List ID:=(if o.1=1∨o.1=3 then[bu o] else[])++(if o.1=5 then[fQ o,bM o] else[])
def ahV(e:List aY):Bool:=decide (0<(e.flatMap adG).length)&&e.all fun o=>decide (o.1=1∨o.1=3)
theorem Fe:∀(l:List (List aY)) {s:StateT},dM s→bK s.1=0→bK (dU l s).1=0
 |[],_,_,h=>h
 |e::r,_,hw,h=>Fe r (hw.try e) (SX hw h e)
theorem Tt(hG:HG G)(nD:∀o,eQ G o)(l:List (List aY))(h:fU l):∀(n i:Nat) (s:StateT) (p:List Bool),i+n=l.length→p.length=i→dM s → LX G 63060 kM Tryz.f60 my (aZ Tryz.prog 60 0) ((l,(((l.length:Nat):Int),((i:Int),()))),(((p,()),(zW,((s,()),()))),()))=some ((dU (l.drop i) s,()),((p++fT (l.drop i) s,()),())):=by
 intro n
 induction n with
 |zero =>intro i s p hi hp hw;refine aC B3 (af (decide_eq_false (show ¬((i:Int)<((l.length:Nat):Int)) by omega)) ?_);rw[List.drop_eq_nil_of_le (by omega),fT,List.append_nil];rfl
 |succ n ih =>
  intro i s p hi hp hw;have aF:i<l.length:=by omega
  have hm:=acC aF;have hn:=h.n;refine aC B3 (ae (bg aF) ?_);refine aa (aR (abv aF)) ?_;refine aa (Xa hG nD h hm s hw p (by omega)) (aa (GG hG nD h hm s hw) ?_);rw[wI,aK aF h.n,List.drop_eq_getElem_cons aF,dU,fT];have:=ih (i+1) _ (p++[decide ((ct s l[i]).2.1=0)]) (by omega) (by simp;omega) (hw.try l[i]);rw[List.append_assoc]at this;exact this
theorem adH(hG:HG G)(nD:∀o,eQ G o)(s:StateT)(l:List (List aY))(hw:dM s)(h:fU l):FX G 19 BJ ((s,l,()),())=some ((fT l s,()),()):=by
 refine aA (hG _ _ rfl) abh ?_;have h1:FX G 63060 kM ((s,l,()),(([],()),()))=some ((dU l s,()),((fT l s,()),())):=by refine aA (hG _ _ rfl) Rg ?_;refine aa (GH hG nD s hw) ?_;exact Tt hG nD l h l.length 0 s [] (by omega) rfl hw
 exact aa h1 rfl
theorem Ni:∀(l:List (List aY)) (s:StateT) (i:Nat) (h:i<l.length),(fT l s)[i]? = some (decide ((ct (dU (l.take i) s) l[i]).2.1=0))
 |e::r,s,0,_=>rfl
 |e::r,s,i+1,h=>Ni r (iy s e) i (by simpa using h)
theorem VO(hG:HG G)(nD:∀o,eQ G o)(hp:rN G)(l0:List (List aY))(at_:Int)(hl:l0.length≤1073741824)(hf:∀e∈l0,∀o∈e,Fit o):FX G 14 vK ((l0,at_,()),())=some ((true,()),()):=by
 refine aA (hG _ _ rfl) abd ?_;refine aa (ac9 hG nD) (aa (adF hG l0 hl) ?_);have hr:=Ts hf;have hn:=Jz l0;generalize C1 l0=l at hr hn;have TR:=dM.zero;have f1:=S5 hG nD zS l TR hr;have hd:=adH hG nD zS l TR hr;have hwl:=dM.all l TR;have hwn:=hwl.n;have XU:=Fe l TR bI;have loop:∀(n i:Nat) (own:List (List aY)),i+n=l.length→own.length≤i→fU own→dU own zS=dU (l.take i) zS → LX G 14 vK Tryz.f14 lx (aZ Tryz.prog 14 0) ((l,(true,((i:Int),()))),(((dU l zS,()),((dU l zS,()),())),(fT l zS,(own,()))))=some ((true,()),()):=by
  intro n
  induction n with
  |zero =>
   intro i own hi ho Yr he;have hi:i=l.length:=by omega
   subst hi;rw[List.take_length]at he;refine aC Mg (af (jD _) ?_);have f16:=age hG (dU l zS) (dU l zS) hwl.d.sm (acB hwn (by decide));rw[decide_eq_true rfl]at f16;have f5:=Ju hG nD zS own TR Yr;rw[he]at f5;refine aa f16 (aa f5 (aa f16 (ae rfl (ae rfl (ae rfl ?_)))));refine aa (adE hG hp _ _ hwl hwl XU XU) ?_;exact congrArg (fun b:Bool=>some ((b,()),())) ((MapKept.bytes_beq _ _).2 rfl)
  |succ n ih =>
   intro i own hi ho Yr he;have aF:i<l.length:=by omega
   have hm:=acC aF;have hx:=aR (abv aF);have F3:=wE l zS;have e1:=Ni l zS i aF;have ew:=aK aF (by omega);have et:dU (l.take (i+1)) zS=iy (dU (l.take i) zS) l[i]:=by rw[List.take_succ_eq_append_getElem aF,wF];rfl
   refine aC Mg (ae (bg aF) (ae (decide_eq_true (show(i:Int)<(((fT l zS).length:Nat):Int) by omega)) (ae (cY (decide_eq_true (show(0:Int)≤(i:Int) by omega)) (decide_eq_true (show(i:Int)<(((fT l zS).length:Nat):Int) by omega))) (aa e1 ?_))));by_cases h0:(ct (dU (l.take i) zS) l[i]).2.1=0
   ·refine ae (decide_eq_true h0) (aa hx (ae (fits (show own.length+1≤_ by omega)) ?_));rw[wI,ew];refine ih (i+1) (own++[l[i]]) (by omega) (by simp;omega) ⟨by simp;omega,fun e he=>?_,fun e he=>?_⟩ ?_
    ·rcases ab0.1 he with he|he
     ·exact Yr.e e he
     ·rw[List.mem_singleton.1 he];exact hr.e _ hm
    ·rcases ab0.1 he with he|he
     ·exact Yr.f e he
     ·rw[List.mem_singleton.1 he];exact hr.f _ hm
    ·rw[wF,he,et];rfl
   ·refine af (decide_eq_false h0) ?_;rw[wI,ew];refine ih (i+1) own (by omega) (by omega) Yr ?_;rw[he,et,M0 h0]
 have go:=loop l.length 0 [] (by omega) (by simp) ⟨by simp,fun e he=>(by cases he),fun e he=>(by cases he)⟩ rfl;have parts:∀k:Nat,k≤l.length→dU (l.drop k) (dU (l.take k) zS)=dU l zS:=fun k _=>by rw[←wF,List.take_append_drop]
 have c1:∀k:Nat,cut l 0 (k:Int)=l.take k:=fun k=>by unfold cut;rw[show Int.toNat (0:Int)=0 from rfl,List.drop_zero];rfl
 have c2:∀k:Nat,cut l (k:Int) (((l.length:Nat)):Int)=l.drop k:=fun k=>by unfold cut;rw[List.take_of_length_le (by omega)];rfl
 have fk:∀k:Nat,FX G 18 kK ((zS,cut l 0 (k:Int),()),())=some ((dU (l.take k) zS,()),()):=fun k=>by exact(congrArg (fun q:List (List aY)=>FX G 18 kK ((zS,q,()),())) (c1 k)).trans (S5 hG nD zS _ TR (hr.take k))
 have fd:∀k:Nat,k≤l.length→FX G 18 kK ((dU (l.take k) zS,cut l (k:Int) (((l.length:Nat)):Int),()),())=some ((dU l zS,()),()):=fun k hk=>by rw[←parts k hk];exact(congrArg (fun q:List (List aY)=>FX G 18 kK ((dU (l.take k) zS,q,()),())) (c2 k)).trans (S5 hG nD _ _ (dM.all _ TR) (hr.drop k))
 by_cases h0:at_>0
 ·refine ae (decide_eq_true h0) ?_;by_cases h1:at_<((l.length:Nat):Int)
  ·obtain⟨k,rfl⟩:∃k:Nat,at_=(k:Int):=⟨at_.toNat,by omega⟩;refine ae (decide_eq_true h1) (aa f1 (ae (show aH l.length 0 (k:Int)=true by simp[aH];omega) (aa (fk k) ?_)));exact ae (show aH l.length (k:Int) (((l.length:Nat)):Int)=true by simp[aH];omega) (aa (fd k (by omega)) (aa hd go))
  ·refine af (decide_eq_false h1) (aa f1 (ae (show aH l.length 0 0=true by simp[aH]) (aa (fk 0) ?_)));exact ae (show aH l.length 0 (((l.length:Nat)):Int)=true by simp[aH]) (aa (fd 0 (by omega)) (aa hd go))
 ·refine af (decide_eq_false h0) (aa f1 (ae (show aH l.length 0 0=true by simp[aH]) (aa (fk 0) ?_)));exact ae (show aH l.length 0 (((l.length:Nat)):Int)=true by simp[aH]) (aa (fd 0 (by omega)) (aa hd go))
theorem Y4(l:List (List aY))(n:Int)(hw:Mn (.sl rv) l)(hn:Mn (.int .i64) n)(hb:eV (.sl rv) l+eV (.int .i64) n≤1048576):FX GP 14 vK ((l,n,()),())=some ((true,()),()):=by obtain⟨h1,h2⟩:=Iz (l:=l) (m:=1048576) (by omega);have htx:∀e∈l,∀o∈e,KS o:=fun e he o ho=>acB (h2 e he o ho) (by omega);exact VO hgP ac5 W0 l n (by omega) (fun e he o ho=>YY (hw e he o ho) (htx e he o ho))
end Go.Vs
