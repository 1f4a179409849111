/- HistParts holds where what it reads is of bulk at most 1048576: it answers true, and the input reads as it did. -/
import Derived.Test.YtpkfpbpbkabkdaaGreatTop
import Derived.Test.YtpkfpbpbkabkdaaGreatLawParts
set_option linter.unusedVariables false
namespace Go.Proofs.YtpkfpbpbkabkdaaGreat.histParts
open Go.Vs Go.ChangeShapes Go.WideShapes Go.ChangeAt Go.RowKit
set_option maxRecDepth 100000 in
theorem RN(H:Type)(ec:TypeId×Value→H)(W:World)(base:Nat)(args:Array Value)(ds gs:List (DataW H))(before:List MemPlace)
  (tu:∀(j:Nat) t v,Tryz.f6.params[j]? = some t→args[j]? = some v→Value.okWide Tryz.prog W .any base t v)
  (hW:DataW.Whole ec Tryz.prog Tryz.f6.params.toList Rows.histPartsSpec.vars false W args.toList ds gs before) (hk:Rows.uptoSmall H (ds++gs)=true) :
  Calls Tryz.prog 6 args W fun e W'=>∃v,e=.returned v∧Rows.histPartsSpec.post ec Tryz.prog Tryz.f6 false true false false W args v W':=by
 have hW':=hW
 obtain⟨p,q,hA0,hV,rfl,hfz,Fq⟩:=hW
 have hA:DataW.TrodAll ec Tryz.prog W 0 (fun _=>true) true Tryz.f6.params.toList args.toList ds p:=hA0
 rw[Tryz.params6]at hA tu
 obtain⟨v0,v1,v2,d0,d1,d2,p0,p1,p2,rfl,rfl,rfl,h0,h1,h2⟩:=trodAll_three hA
 obtain⟨rfl,rfl⟩:=trodVars_none hV
 obtain⟨x0,r0,w0,b0⟩:=Bf (d:=12) (k:=.sl kd) (by kernel_rfl) (tu 0 _ v0 rfl rfl) h0
 obtain⟨x1,r1,w1,b1⟩:=Bf (d:=12) (k:=.int .i64) (by kernel_rfl) (tu 1 _ v1 rfl rfl) h1
 obtain⟨x2,r2,w2,b2⟩:=Bf (d:=12) (k:=.int .i64) (by kernel_rfl) (tu 2 _ v2 rfl rfl) h2
 have hb:dZ (.sl kd) x0+dZ (.int .i64) x1+dZ (.int .i64) x2≤1048576:=by
  have h:=of_decide_eq_true hk
  simp only[List.append_nil,Rows.uptoBulkAll]at h
  omega
 have hc:=Xv (by kernel_rfl) (Xz x0 x1 x2 w0 w1 w2 hb)
 have hr:ak (Old W) Iy fQ W (CU uG (x0,x1,x2,())) [v0,v1,v2]:=by
  show ak (Old W) Iy fQ W [b8 (.sl kd) x0,b8 (.int .i64) x1,b8 (.int .i64) x2] [v0,v1,v2]
  simp only[ak]
  exact⟨v0,[v1,v2],rfl,r0,v1,[v2],rfl,r1,v2,[],rfl,r2,rfl⟩
 refine(MJ (ks:=[.val (.sl kd),.val (.int .i64),.val (.int .i64)]) (x:=(x0,x1,x2,())) hc hr).mono fun e W' ⟨he,hs⟩=>⟨_,he,?_⟩
 exact Qn kids full (by decide +kernel) rfl (by kernel_rfl) rfl rfl hW' hs
set_option maxRecDepth 100000 in
theorem lifted(os:Os)(started:os.Started)(H:Type)(ec:TypeId×Value→H)(F:Stop.Interp) :
  ReturnsInHanded {} Tryz.checked os 6 .any ((Rows.OpenSpec.upto Rows.histPartsSpec).pre6 ec Tryz.prog Tryz.f6 Rows.histPartsUptoRow.domain false) (((Rows.OpenSpec.upto Rows.histPartsSpec).at F).post ec Tryz.prog Tryz.f6 false true false false):=by
 refine returnsInHanded_of_cond (C:=Tryz.checked) (s:=Rows.OpenSpec.upto Rows.histPartsSpec) (k:=Rows.uptoSmall) rfl own started (by kernel_rfl) Tryz.func6
  (OpenSpec.witness (enc:=ec) (C:=Tryz.checked) (s:=Rows.OpenSpec.upto Rows.histPartsSpec) (k:=Rows.uptoSmall) rfl false ⟨#[],#[.slice none 0 0,.int .i64 0,.int .i64 0],[]⟩ 8 (by kernel_rfl) (by kernel_rfl) (by kernel_rfl)
   (x:=([.nil,.lit (.int .i64 0),.lit (.int .i64 0)],[],[])) (by kernel_rfl) rfl (by kernel_rfl)) ?_
 intro W base args ds gs before tu hW _ hk _
 exact RN H ec W base args ds gs before tu hW hk
theorem Fl:(Rows.histPartsUptoRow.inPlace==Tryz.pinned.checked.prog.inPlace 6)=true∧(Rows.histPartsUptoRow.unfollowed==Tryz.pinned.checked.prog.unfollowed 6)=true∧(Rows.histPartsUptoRow.recurses==Tryz.pinned.checked.prog.recurses 6)=true∧(Rows.histPartsUptoRow.named==Tryz.pinned.checked.prog.varsNamed 6)=true :=
 ⟨by kernel_rfl,by kernel_rfl,by kernel_rfl,by kernel_rfl⟩
theorem RO:laidOutB Tryz.pinned.checked.prog=true∧mapsRowed Tryz.pinned.checked.prog=true:=⟨by kernel_rfl,by kernel_rfl⟩
theorem Fm:(Rows.histPartsUptoRow.lifted==Tryz.pinned.checked.prog.liftsFinal)=true∧Tryz.pinned.checked.prog.stopsHeard=true∧Tryz.pinned.checked.prog.mayEnter=true∧(Tryz.pinned.checked.prog.make==some Rows.histPartsUptoRow.make)=true :=
 ⟨by kernel_rfl,by kernel_rfl,by kernel_rfl,by kernel_rfl⟩
theorem told:joinedFacts Tryz.pinned.checked.prog 6 Tryz.f6 (Rows.OpenSpec.upto Rows.histPartsSpec).bare Rows.histPartsUptoRow=true:=by
 unfold joinedFacts
 rw[Fl.1,Fl.2.1,Fl.2.2.1,Fl.2.2.2,RO.1,RO.2,Fm.1,Fm.2.1,Fm.2.2.1,Fm.2.2.2]
 kernel_rfl
theorem ahA:Rows.histPartsUptoRow.holds Tryz.pinned (Rows.OpenSpec.upto Rows.histPartsSpec) :=
 OpenClaim.holds_of_cond 6 Tryz.f6 rfl rfl rfl rfl rfl rfl rfl ⟨rfl,rfl,rfl,rfl,rfl⟩ rfl rfl rfl rfl rfl (by kernel_rfl) Tryz.func6 told
  (of_decide_eq_true (by kernel_rfl)) (by unfold Func.isWrapper;first|(rw[if_pos (by decide +kernel)];kernel_rfl)|(rw[if_neg (by decide +kernel)];exact⟨rfl,rfl⟩))
  (fun os started H enc _ F=>lifted os started H enc F)
theorem proved:Rows.HistPartsUptoSaid :=
 ahA
end Go.Proofs.YtpkfpbpbkabkdaaGreat.histParts
