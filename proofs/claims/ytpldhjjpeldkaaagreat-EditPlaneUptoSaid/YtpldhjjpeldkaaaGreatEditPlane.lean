/- EditPlane holds where what it reads is of bulk at most 1048576: it answers true, and the input reads as it did. -/
import Derived.Test.YtpldhjjpeldkaaaGreatTop
import Derived.Test.YtpldhjjpeldkaaaGreatLawPlane
set_option linter.unusedVariables false
namespace Go.Proofs.YtpldhjjpeldkaaaGreat.editPlane
open Go.Vs Go.ChangeShapes Go.WideShapes Go.ChangeAt Go.RowKit
set_option maxRecDepth 100000 in
theorem Q3(H:Type)(ec:TypeId×Value→H)(W:World)(base:Nat)(args:Array Value)(ds gs:List (DataW H))(before:List MemPlace)
  (wo:∀(j:Nat) t v,Tryz.f10.params[j]? = some t→args[j]? = some v→Value.okWide Tryz.prog W .any base t v)
  (hW:DataW.Whole ec Tryz.prog Tryz.f10.params.toList Rows.editPlaneSpec.vars false W args.toList ds gs before) (hk:Rows.uptoSmall H (ds++gs)=true) :
  Calls Tryz.prog 10 args W fun e W'=>∃v,e=.returned v∧Rows.editPlaneSpec.post ec Tryz.prog Tryz.f10 false true false false W args v W':=by
 have hW':=hW
 obtain ⟨p,q,hA0,hV,rfl,hfz,Cf⟩:=hW
 have hA:DataW.TrodAll ec Tryz.prog W 0 (fun _=>true) true Tryz.f10.params.toList args.toList ds p:=hA0
 rw [Tryz.params10] at hA wo
 obtain ⟨v0,d0,rfl,rfl,h0⟩:=trodAll_one hA
 obtain ⟨rfl,rfl⟩:=trodVars_none hV
 obtain ⟨x0,r0,w0,b0⟩:=PH (d:=12) (k:=.sl tg) (by kernel_rfl) (wo 0 _ v0 rfl rfl) h0
 have hb:fF (.sl tg) x0≤1048576:=by
  have h:=of_decide_eq_true hk
  simp only [List.append_nil,Rows.uptoBulkAll] at h
  omega
 have hc:=WQ (abl x0 w0 hb)
 have hr:aq (Old W) H4 fO W (CS lT (x0,())) [v0]:=by
  show aq (Old W) H4 fO W [cg (.sl tg) x0] [v0]
  simp only [aq]
  exact ⟨v0,[],rfl,r0,rfl⟩
 refine (Mn (ks:=[.val (.sl tg)]) (x:=(x0,())) hc hr).mono fun e W' ⟨he,hs⟩=>⟨_,he,?_⟩
 exact PI kids full (by decide +kernel) rfl (by kernel_rfl) rfl rfl hW' hs
set_option maxRecDepth 100000 in
theorem lifted(os:Os)(started:os.Started)(H:Type)(ec:TypeId×Value→H)(F:Stop.Interp) :
  ReturnsInHanded {} Tryz.checked os 10 .any ((Rows.OpenSpec.upto Rows.editPlaneSpec).pre6 ec Tryz.prog Tryz.f10 Rows.editPlaneUptoRow.domain false) (((Rows.OpenSpec.upto Rows.editPlaneSpec).at F).post ec Tryz.prog Tryz.f10 false true false false):=by
 refine returnsInHanded_of_cond (C:=Tryz.checked) (s:=Rows.OpenSpec.upto Rows.editPlaneSpec) (k:=Rows.uptoSmall) rfl own started (by kernel_rfl) Tryz.func10
  (OpenSpec.witness (enc:=ec) (C:=Tryz.checked) (s:=Rows.OpenSpec.upto Rows.editPlaneSpec) (k:=Rows.uptoSmall) rfl false ⟨#[],#[.slice none 0 0],[]⟩ 8 (by kernel_rfl) (by kernel_rfl) (by kernel_rfl)
   (x:=([.nil],[],[])) (by kernel_rfl) rfl (by kernel_rfl)) ?_
 intro W base args ds gs before wo hW _ hk _
 exact Q3 H ec W base args ds gs before wo hW hk
theorem agF:Rows.editPlaneUptoRow.holds Tryz.pinned (Rows.OpenSpec.upto Rows.editPlaneSpec) :=
 OpenClaim.holds_of_cond 10 Tryz.f10 rfl rfl rfl rfl rfl rfl rfl ⟨rfl,rfl,rfl,rfl,rfl⟩ rfl rfl rfl rfl rfl (by kernel_rfl) Tryz.func10 (by kernel_rfl)
  (of_decide_eq_true (by kernel_rfl)) (by unfold Func.isWrapper;first | (rw [if_pos (by decide +kernel)];kernel_rfl) | (rw [if_neg (by decide +kernel)];exact ⟨rfl,rfl⟩))
  (fun os started H enc _ F=>lifted os started H enc F)
theorem proved:Rows.EditPlaneUptoSaid :=
 agF
end Go.Proofs.YtpldhjjpeldkaaaGreat.editPlane
