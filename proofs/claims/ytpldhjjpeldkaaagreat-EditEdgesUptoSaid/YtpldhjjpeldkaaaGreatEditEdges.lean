/- EditEdges holds where what it reads is of bulk at most 1048576: it answers true, and the input reads as it did. -/
import Derived.Test.YtpldhjjpeldkaaaGreatTop
import Derived.Test.YtpldhjjpeldkaaaGreatLawEdges
set_option linter.unusedVariables false
namespace Go.Proofs.YtpldhjjpeldkaaaGreat.editEdges
open Go.Vs Go.ChangeShapes Go.WideShapes Go.ChangeAt Go.RowKit
set_option maxRecDepth 100000 in
theorem SK(H:Type)(ec:TypeId×Value→H)(W:World)(base:Nat)(args:Array Value)(ds gs:List (DataW H))(before:List MemPlace)
  (uC:∀(j:Nat) t v,Tryz.f5.params[j]? = some t→args[j]? = some v→Value.okWide Tryz.prog W .any base t v)
  (hW:DataW.Whole ec Tryz.prog Tryz.f5.params.toList Rows.editEdgesSpec.vars false W args.toList ds gs before) (hk:Rows.uptoSmall H (ds++gs)=true) :
  Calls Tryz.prog 5 args W fun e W'=>∃v,e=.returned v∧Rows.editEdgesSpec.post ec Tryz.prog Tryz.f5 false true false false W args v W':=by
 have hW':=hW
 obtain⟨p,q,hA0,hV,rfl,hfz,C5⟩:=hW
 have hA:DataW.TrodAll ec Tryz.prog W 0 (fun _=>true) true Tryz.f5.params.toList args.toList ds p:=hA0
 rw[Tryz.params5]at hA uC
 obtain⟨v0,v1,v2,d0,d1,d2,p0,p1,p2,rfl,rfl,rfl,h0,h1,h2⟩:=trodAll_three hA
 obtain⟨rfl,rfl⟩:=trodVars_none hV
 obtain⟨x0,r0,w0,b0⟩:=Ci (d:=12) (k:=.sl uQ) (by kernel_rfl) (uC 0 _ v0 rfl rfl) h0
 obtain⟨x1,r1,w1,b1⟩:=Ci (d:=12) (k:=bw) (by kernel_rfl) (uC 1 _ v1 rfl rfl) h1
 obtain⟨x2,r2,w2,b2⟩:=Ci (d:=12) (k:=bw) (by kernel_rfl) (uC 2 _ v2 rfl rfl) h2
 have hb:eW (.sl uQ) x0+eW (bw) x1+eW (bw) x2≤1048576:=by
  have h:=of_decide_eq_true hk
  simp only[List.append_nil,Rows.uptoBulkAll]at h
  omega
 have hc:=Ym (by kernel_rfl) (aiw x0 x1 x2 w0 w1 w2 hb)
 have hr:ar (Old W) Jq gG W (DX YD (x0,x1,x2,())) [v0,v1,v2]:=by
  show ar (Old W) Jq gG W [cv (.sl uQ) x0,cv (bw) x1,cv (bw) x2] [v0,v1,v2]
  simp only[ar]
  exact⟨v0,[v1,v2],rfl,r0,v1,[v2],rfl,r1,v2,[],rfl,r2,rfl⟩
 refine(NF (ks:=[.val (.sl uQ),.val (bw),.val (bw)]) (x:=(x0,x1,x2,())) hc hr).mono fun e W' ⟨he,hs⟩=>⟨_,he,?_⟩
 exact Rb kids full (by decide +kernel) rfl (by kernel_rfl) rfl rfl hW' hs
set_option maxRecDepth 100000 in
theorem lifted(os:Os)(started:os.Started)(H:Type)(ec:TypeId×Value→H)(F:Stop.Interp) :
  ReturnsInHanded {} Tryz.checked os 5 .any ((Rows.OpenSpec.upto Rows.editEdgesSpec).pre6 ec Tryz.prog Tryz.f5 Rows.editEdgesUptoRow.domain false) (((Rows.OpenSpec.upto Rows.editEdgesSpec).at F).post ec Tryz.prog Tryz.f5 false true false false):=by
 refine returnsInHanded_of_cond (C:=Tryz.checked) (s:=Rows.OpenSpec.upto Rows.editEdgesSpec) (k:=Rows.uptoSmall) rfl own started (by kernel_rfl) Tryz.func5
  (OpenSpec.witness (enc:=ec) (C:=Tryz.checked) (s:=Rows.OpenSpec.upto Rows.editEdgesSpec) (k:=Rows.uptoSmall) rfl false ⟨#[],#[.slice none 0 0,.agg #[.int .i64 0,.int .i64 0,.int .i64 0],.agg #[.int .i64 0,.int .i64 0,.int .i64 0]],[]⟩ 8 (by kernel_rfl) (by kernel_rfl) (by kernel_rfl)
   (x:=([.nil,.agg [.agg [.lit (.int .i64 0),.lit (.int .i64 0)],.lit (.int .i64 0)],.agg [.agg [.lit (.int .i64 0),.lit (.int .i64 0)],.lit (.int .i64 0)]],[],[])) (by kernel_rfl) rfl (by kernel_rfl)) ?_
 intro W base args ds gs before uC hW _ hk _
 exact SK H ec W base args ds gs before uC hW hk
theorem aix:Rows.editEdgesUptoRow.holds Tryz.pinned (Rows.OpenSpec.upto Rows.editEdgesSpec) :=
 OpenClaim.holds_of_cond 5 Tryz.f5 rfl rfl rfl rfl rfl rfl rfl ⟨rfl,rfl,rfl,rfl,rfl⟩ rfl rfl rfl rfl rfl (by kernel_rfl) Tryz.func5 (by kernel_rfl)
  (of_decide_eq_true (by kernel_rfl)) (by unfold Func.isWrapper;first|(rw[if_pos (by decide +kernel)];kernel_rfl)|(rw[if_neg (by decide +kernel)];exact⟨rfl,rfl⟩))
  (fun os started H enc _ F=>lifted os started H enc F)
theorem proved:Rows.EditEdgesUptoSaid :=
 aix
end Go.Proofs.YtpldhjjpeldkaaaGreat.editEdges
