/- EditRows holds where what it reads is of bulk at most 1048576: it answers true, and the input reads as it did. -/
import Derived.Test.YtpldhjjpeldkaaaGreatTop
import Derived.Test.YtpldhjjpeldkaaaGreatLawRows
set_option linter.unusedVariables false
namespace Go.Proofs.YtpldhjjpeldkaaaGreat.editRows
open Go.Vs Go.ChangeShapes Go.WideShapes Go.ChangeAt Go.RowKit
set_option maxRecDepth 100000 in
theorem Qa(H:Type)(ec:TypeId×Value→H)(W:World)(base:Nat)(args:Array Value)(ds gs:List (DataW H))(before:List MemPlace)
  (vD:∀(j:Nat) t v,Tryz.f9.params[j]? = some t→args[j]? = some v→Value.okWide Tryz.prog W .any base t v)
  (hW:DataW.Whole ec Tryz.prog Tryz.f9.params.toList Rows.editRowsSpec.vars false W args.toList ds gs before) (hk:Rows.uptoSmall H (ds++gs)=true) :
  Calls Tryz.prog 9 args W fun e W'=>∃v,e=.returned v∧Rows.editRowsSpec.post ec Tryz.prog Tryz.f9 false true false false W args v W':=by
 have hW':=hW
 obtain ⟨p,q,hA0,hV,rfl,hfz,Ex⟩:=hW
 have hA:DataW.TrodAll ec Tryz.prog W 0 (fun _=>true) true Tryz.f9.params.toList args.toList ds p:=hA0
 rw [Tryz.params9] at hA vD
 obtain ⟨v0,d0,rfl,rfl,h0⟩:=trodAll_one hA
 obtain ⟨rfl,rfl⟩:=trodVars_none hV
 obtain ⟨x0,r0,w0,b0⟩:=OS (d:=12) (k:=.sl sL) (by kernel_rfl) (vD 0 _ v0 rfl rfl) h0
 have hb:fm (.sl sL) x0≤1048576:=by
  have h:=of_decide_eq_true hk
  simp only [List.append_nil,Rows.uptoBulkAll] at h
  omega
 have hc:=Vw (by kernel_rfl) (afz x0 w0 hb)
 have hr:an (Old W) Hr fG W (Cd Q2 (x0,())) [v0]:=by
  show an (Old W) Hr fG W [cc (.sl sL) x0] [v0]
  simp only [an]
  exact ⟨v0,[],rfl,r0,rfl⟩
 refine (Lr (ks:=[.val (.sl sL)]) (x:=(x0,())) hc hr).mono fun e W' ⟨he,hs⟩=>⟨_,he,?_⟩
 exact OT kids full (by decide +kernel) rfl (by kernel_rfl) rfl rfl hW' hs
set_option maxRecDepth 100000 in
theorem lifted(os:Os)(started:os.Started)(H:Type)(ec:TypeId×Value→H)(F:Stop.Interp) :
  ReturnsInHanded {} Tryz.checked os 9 .any ((Rows.OpenSpec.upto Rows.editRowsSpec).pre6 ec Tryz.prog Tryz.f9 Rows.editRowsUptoRow.domain false) (((Rows.OpenSpec.upto Rows.editRowsSpec).at F).post ec Tryz.prog Tryz.f9 false true false false):=by
 refine returnsInHanded_of_cond (C:=Tryz.checked) (s:=Rows.OpenSpec.upto Rows.editRowsSpec) (k:=Rows.uptoSmall) rfl own started (by kernel_rfl) Tryz.func9
  (OpenSpec.witness (enc:=ec) (C:=Tryz.checked) (s:=Rows.OpenSpec.upto Rows.editRowsSpec) (k:=Rows.uptoSmall) rfl false ⟨#[],#[.slice none 0 0],[]⟩ 8 (by kernel_rfl) (by kernel_rfl) (by kernel_rfl)
   (x:=([.nil],[],[])) (by kernel_rfl) rfl (by kernel_rfl)) ?_
 intro W base args ds gs before vD hW _ hk _
 exact Qa H ec W base args ds gs before vD hW hk
theorem afA:Rows.editRowsUptoRow.holds Tryz.pinned (Rows.OpenSpec.upto Rows.editRowsSpec) :=
 OpenClaim.holds_of_cond 9 Tryz.f9 rfl rfl rfl rfl rfl rfl rfl ⟨rfl,rfl,rfl,rfl,rfl⟩ rfl rfl rfl rfl rfl (by kernel_rfl) Tryz.func9 (by kernel_rfl)
  (of_decide_eq_true (by kernel_rfl)) (by unfold Func.isWrapper;first | (rw [if_pos (by decide +kernel)];kernel_rfl) | (rw [if_neg (by decide +kernel)];exact ⟨rfl,rfl⟩))
  (fun os started H enc _ F=>lifted os started H enc F)
theorem proved:Rows.EditRowsUptoSaid :=
 afA
end Go.Proofs.YtpldhjjpeldkaaaGreat.editRows
