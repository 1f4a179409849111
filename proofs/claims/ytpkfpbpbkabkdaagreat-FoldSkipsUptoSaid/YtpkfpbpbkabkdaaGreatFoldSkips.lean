/- FoldSkips holds where what it reads is of bulk at most 1048576: it answers true, and the input reads as it did. -/
import Derived.Test.YtpkfpbpbkabkdaaGreatTop
import Derived.Test.YtpkfpbpbkabkdaaGreatLawSkips
set_option linter.unusedVariables false
namespace Go.Proofs.YtpkfpbpbkabkdaaGreat.foldSkips
open Go.Vs Go.ChangeShapes Go.WideShapes Go.ChangeAt Go.RowKit
set_option maxRecDepth 100000 in
theorem N1(H:Type)(ec:TypeId×Value→H)(W:World)(base:Nat)(args:Array Value)(ds gs:List (DataW H))(before:List MemPlace)
  (uT:∀(j:Nat) t v,Tryz.f3.params[j]? = some t→args[j]? = some v→Value.okWide Tryz.prog W .any base t v)
  (hW:DataW.Whole ec Tryz.prog Tryz.f3.params.toList Rows.foldSkipsSpec.vars false W args.toList ds gs before) (hk:Rows.uptoSmall H (ds++gs)=true) :
  Calls Tryz.prog 3 args W fun e W'=>∃v,e=.returned v∧Rows.foldSkipsSpec.post ec Tryz.prog Tryz.f3 false true false false W args v W':=by
 have ZA:=hW
 obtain⟨p,q,hA0,hV,rfl,Zy,Db⟩:=hW
 have hA:DataW.TrodAll ec Tryz.prog W 0 (fun _=>true) true Tryz.f3.params.toList args.toList ds p:=hA0
 rw[Tryz.params3]at hA uT
 obtain⟨v0,d0,rfl,rfl,h0⟩:=trodAll_one hA
 obtain⟨rfl,rfl⟩:=trodVars_none hV
 obtain⟨x0,r0,w0,b0⟩:=MH (d:=12) (k:=.sl pI) (by kernel_rfl) (uT 0 _ v0 rfl rfl) h0
 have hb:eW (.sl pI) x0≤1048576:=by
  have h:=of_decide_eq_true hk
  simp only[List.append_nil,Rows.uptoBulkAll]at h
  omega
 have hc:=SY (by kernel_rfl) (S6 x0 w0 hb)
 have hr:ah (Old W) FK fh W (A1 iM (x0,())) [v0]:=by
  show ah (Old W) FK fh W [bX (.sl pI) x0] [v0]
  simp only[ah]
  exact⟨v0,[],rfl,r0,rfl⟩
 refine(J0 (ks:=[.val (.sl pI)]) (x:=(x0,())) hc hr).mono fun e W' ⟨he,hs⟩=>⟨_,he,?_⟩
 exact MI kids full (by decide +kernel) rfl (by kernel_rfl) rfl rfl ZA hs
set_option maxRecDepth 100000 in
theorem lifted(os:Os)(started:os.Started)(H:Type)(ec:TypeId×Value→H)(F:Stop.Interp) :
  ReturnsInHanded {} Tryz.checked os 3 .any ((Rows.OpenSpec.upto Rows.foldSkipsSpec).pre6 ec Tryz.prog Tryz.f3 Rows.foldSkipsUptoRow.domain false) (((Rows.OpenSpec.upto Rows.foldSkipsSpec).at F).post ec Tryz.prog Tryz.f3 false true false false):=by
 refine returnsInHanded_of_cond (C:=Tryz.checked) (s:=Rows.OpenSpec.upto Rows.foldSkipsSpec) (k:=Rows.uptoSmall) rfl own started (by kernel_rfl) Tryz.func3
  (OpenSpec.witness (enc:=ec) (C:=Tryz.checked) (s:=Rows.OpenSpec.upto Rows.foldSkipsSpec) (k:=Rows.uptoSmall) rfl false ⟨#[],#[.slice none 0 0],[]⟩ 8 (by kernel_rfl) (by kernel_rfl) (by kernel_rfl)
   (x:=([.nil],[],[])) (by kernel_rfl) rfl (by kernel_rfl)) ?_
 intro W base args ds gs before uT hW _ hk _
 exact N1 H ec W base args ds gs before uT hW hk
theorem abq:Rows.foldSkipsUptoRow.holds Tryz.pinned (Rows.OpenSpec.upto Rows.foldSkipsSpec) :=
 OpenClaim.holds_of_cond 3 Tryz.f3 rfl rfl rfl rfl rfl rfl rfl ⟨rfl,rfl,rfl,rfl,rfl⟩ rfl rfl rfl rfl rfl (by kernel_rfl) Tryz.func3 (by kernel_rfl)
  (of_decide_eq_true (by kernel_rfl)) (by unfold Func.isWrapper;first|(rw[if_pos (by decide +kernel)];kernel_rfl)|(rw[if_neg (by decide +kernel)];exact⟨rfl,rfl⟩))
  (fun os started H enc _ F=>lifted os started H enc F)
theorem proved:Rows.FoldSkipsUptoSaid :=
 abq
end Go.Proofs.YtpkfpbpbkabkdaaGreat.foldSkips
