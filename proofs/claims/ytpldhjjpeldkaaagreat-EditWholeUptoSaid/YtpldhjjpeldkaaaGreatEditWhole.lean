/- EditWhole holds where what it reads is of bulk at most 1048576: it answers true, and the input reads as it did. -/
import Derived.Test.YtpldhjjpeldkaaaGreatTop
import Derived.Test.YtpldhjjpeldkaaaGreatLawWhole
set_option linter.unusedVariables false
namespace Go.Proofs.YtpldhjjpeldkaaaGreat.editWhole
open Go.Vs Go.ChangeShapes Go.WideShapes Go.ChangeAt Go.RowKit
set_option maxRecDepth 100000 in
theorem Qn(H:Type)(ec:TypeId×Value→H)(W:World)(base:Nat)(args:Array Value)(ds gs:List (DataW H))(before:List MemPlace)
  (uo:∀(j:Nat) t v,Tryz.f11.params[j]? = some t→args[j]? = some v→Value.okWide Tryz.prog W .any base t v)
  (hW:DataW.Whole ec Tryz.prog Tryz.f11.params.toList Rows.editWholeSpec.vars false W args.toList ds gs before) (hk:Rows.uptoSmall H (ds++gs)=true) :
  Calls Tryz.prog 11 args W fun e W'=>∃v,e=.returned v∧Rows.editWholeSpec.post ec Tryz.prog Tryz.f11 false true false false W args v W':=by
 have hW':=hW
 obtain ⟨p,q,hA0,hV,rfl,hfz,EJ⟩:=hW
 have hA:DataW.TrodAll ec Tryz.prog W 0 (fun _=>true) true Tryz.f11.params.toList args.toList ds p:=hA0
 rw [Tryz.params11] at hA uo
 obtain ⟨v0,v1,d0,d1,p0,p1,rfl,rfl,rfl,h0,h1⟩:=trodAll_two hA
 obtain ⟨rfl,rfl⟩:=trodVars_none hV
 obtain ⟨x0,r0,w0,b0⟩:=Gx (d:=12) (k:=.sl oQ) (by kernel_rfl) (uo 0 _ v0 rfl rfl) h0
 obtain ⟨x1,r1,w1,b1⟩:=Gx (d:=12) (k:=oQ) (by kernel_rfl) (uo 1 _ v1 rfl rfl) h1
 have hb:dF (.sl oQ) x0+dF (oQ) x1≤1048576:=by
  have h:=of_decide_eq_true hk
  simp only [List.append_nil,Rows.uptoBulkAll] at h
  omega
 have hc:=VG (by kernel_rfl) (aao x0 x1 w0 w1 hb)
 have hr:an (Old W) HI fH W (Cj DW (x0,x1,())) [v0,v1]:=by
  show an (Old W) HI fH W [b8 (.sl oQ) x0,b8 (oQ) x1] [v0,v1]
  simp only [an]
  exact ⟨v0,[v1],rfl,r0,v1,[],rfl,r1,rfl⟩
 refine (LG (ks:=[.val (.sl oQ),.val (oQ)]) (x:=(x0,x1,())) hc hr).mono fun e W' ⟨he,hs⟩=>⟨_,he,?_⟩
 exact O5 kids full (by decide +kernel) rfl (by kernel_rfl) rfl rfl hW' hs
set_option maxRecDepth 100000 in
theorem lifted(os:Os)(started:os.Started)(H:Type)(ec:TypeId×Value→H)(F:Stop.Interp) :
  ReturnsInHanded {} Tryz.checked os 11 .any ((Rows.OpenSpec.upto Rows.editWholeSpec).pre6 ec Tryz.prog Tryz.f11 Rows.editWholeUptoRow.domain false) (((Rows.OpenSpec.upto Rows.editWholeSpec).at F).post ec Tryz.prog Tryz.f11 false true false false):=by
 refine returnsInHanded_of_cond (C:=Tryz.checked) (s:=Rows.OpenSpec.upto Rows.editWholeSpec) (k:=Rows.uptoSmall) rfl own started (by kernel_rfl) Tryz.func11
  (OpenSpec.witness (enc:=ec) (C:=Tryz.checked) (s:=Rows.OpenSpec.upto Rows.editWholeSpec) (k:=Rows.uptoSmall) rfl false ⟨#[],#[.slice none 0 0,.agg #[.slice none 0 0]],[]⟩ 8 (by kernel_rfl) (by kernel_rfl) (by kernel_rfl)
   (x:=([.nil,.agg [.nil]],[],[])) (by kernel_rfl) rfl (by kernel_rfl)) ?_
 intro W base args ds gs before uo hW _ hk _
 exact Qn H ec W base args ds gs before uo hW hk
theorem afI:Rows.editWholeUptoRow.holds Tryz.pinned (Rows.OpenSpec.upto Rows.editWholeSpec) :=
 OpenClaim.holds_of_cond 11 Tryz.f11 rfl rfl rfl rfl rfl rfl rfl ⟨rfl,rfl,rfl,rfl,rfl⟩ rfl rfl rfl rfl rfl (by kernel_rfl) Tryz.func11 (by kernel_rfl)
  (of_decide_eq_true (by kernel_rfl)) (by unfold Func.isWrapper;first | (rw [if_pos (by decide +kernel)];kernel_rfl) | (rw [if_neg (by decide +kernel)];exact ⟨rfl,rfl⟩))
  (fun os started H enc _ F=>lifted os started H enc F)
theorem proved:Rows.EditWholeUptoSaid :=
 afI
end Go.Proofs.YtpldhjjpeldkaaaGreat.editWhole
