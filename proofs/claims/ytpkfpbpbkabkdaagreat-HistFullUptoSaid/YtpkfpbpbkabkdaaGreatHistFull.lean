/- HistFull holds where what it reads is of bulk at most 1048576: it answers true, and the input reads as it did. -/
import Derived.Test.YtpkfpbpbkabkdaaGreatTop
import Derived.Test.YtpkfpbpbkabkdaaGreatLawFull
set_option linter.unusedVariables false
namespace Go.Proofs.YtpkfpbpbkabkdaaGreat.histFull
open Go.Vs Go.ChangeShapes Go.WideShapes Go.ChangeAt Go.RowKit
set_option maxRecDepth 100000 in
theorem N0(H:Type)(ec:TypeId×Value→H)(W:World)(base:Nat)(args:Array Value)(ds gs:List (DataW H))(before:List MemPlace)
  (tL:∀(j:Nat) t v,Tryz.f5.params[j]? = some t→args[j]? = some v→Value.okWide Tryz.prog W .any base t v)
  (hW:DataW.Whole ec Tryz.prog Tryz.f5.params.toList Rows.histFullSpec.vars false W args.toList ds gs before) (hk:Rows.uptoSmall H (ds++gs)=true) :
  Calls Tryz.prog 5 args W fun e W'=>∃v,e=.returned v∧Rows.histFullSpec.post ec Tryz.prog Tryz.f5 false true false false W args v W':=by
 have ZM:=hW
 obtain⟨p,q,hA0,hV,rfl,ZK,Dg⟩:=hW
 have hA:DataW.TrodAll ec Tryz.prog W 0 (fun _=>true) true Tryz.f5.params.toList args.toList ds p:=hA0
 rw[Tryz.params5]at hA tL
 obtain⟨v0,v1,d0,d1,p0,p1,rfl,rfl,rfl,h0,h1⟩:=trodAll_two hA
 obtain⟨rfl,rfl⟩:=trodVars_none hV
 obtain⟨x0,r0,w0,b0⟩:=EO (d:=12) (k:=.int .i64) (by kernel_rfl) (tL 0 _ v0 rfl rfl) h0
 obtain⟨x1,r1,w1,b1⟩:=EO (d:=12) (k:=.int .i64) (by kernel_rfl) (tL 1 _ v1 rfl rfl) h1
 have hb:iC (.int .i64) x0+iC (.int .i64) x1≤1048576:=by
  have h:=of_decide_eq_true hk
  simp only[List.append_nil,Rows.uptoBulkAll]at h
  omega
 have hc:=Ti (by kernel_rfl) (Tn x0 x1 w0 w1 hb)
 have hr:ai (Old W) FV fk W (A5 rq (x0,x1,())) [v0,v1]:=by
  show ai (Old W) FV fk W [bS (.int .i64) x0,bS (.int .i64) x1] [v0,v1]
  simp only[ai]
  exact⟨v0,[v1],rfl,r0,v1,[],rfl,r1,rfl⟩
 refine(J9 (ks:=[.val (.int .i64),.val (.int .i64)]) (x:=(x0,x1,())) hc hr).mono fun e W' ⟨he,hs⟩=>⟨_,he,?_⟩
 exact MJ kids full (by decide +kernel) rfl (by kernel_rfl) rfl rfl ZM hs
set_option maxRecDepth 100000 in
theorem lifted(os:Os)(started:os.Started)(H:Type)(ec:TypeId×Value→H)(F:Stop.Interp) :
  ReturnsInHanded {} Tryz.checked os 5 .any ((Rows.OpenSpec.upto Rows.histFullSpec).pre6 ec Tryz.prog Tryz.f5 Rows.histFullUptoRow.domain false) (((Rows.OpenSpec.upto Rows.histFullSpec).at F).post ec Tryz.prog Tryz.f5 false true false false):=by
 refine returnsInHanded_of_cond (C:=Tryz.checked) (s:=Rows.OpenSpec.upto Rows.histFullSpec) (k:=Rows.uptoSmall) rfl own started (by kernel_rfl) Tryz.func5
  (OpenSpec.witness (enc:=ec) (C:=Tryz.checked) (s:=Rows.OpenSpec.upto Rows.histFullSpec) (k:=Rows.uptoSmall) rfl false ⟨#[],#[.int .i64 0,.int .i64 0],[]⟩ 8 (by kernel_rfl) (by kernel_rfl) (by kernel_rfl)
   (x:=([.lit (.int .i64 0),.lit (.int .i64 0)],[],[])) (by kernel_rfl) rfl (by kernel_rfl)) ?_
 intro W base args ds gs before tL hW _ hk _
 exact N0 H ec W base args ds gs before tL hW hk
theorem abG:Rows.histFullUptoRow.holds Tryz.pinned (Rows.OpenSpec.upto Rows.histFullSpec) :=
 OpenClaim.holds_of_cond 5 Tryz.f5 rfl rfl rfl rfl rfl rfl rfl ⟨rfl,rfl,rfl,rfl,rfl⟩ rfl rfl rfl rfl rfl (by kernel_rfl) Tryz.func5 (by kernel_rfl)
  (of_decide_eq_true (by kernel_rfl)) (by unfold Func.isWrapper;first|(rw[if_pos (by decide +kernel)];kernel_rfl)|(rw[if_neg (by decide +kernel)];exact⟨rfl,rfl⟩))
  (fun os started H enc _ F=>lifted os started H enc F)
theorem proved:Rows.HistFullUptoSaid :=
 abG
end Go.Proofs.YtpkfpbpbkabkdaaGreat.histFull
